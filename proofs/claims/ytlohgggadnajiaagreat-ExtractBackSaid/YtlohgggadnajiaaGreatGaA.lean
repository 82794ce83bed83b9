import Derived.Test.YtlohgggadnajiaaGreatLpC
import Derived.KernelRfl
import Derived.Test.YtlohgggadnajiaaGreatChecked
/- A text of the proof. -/
set_option linter.all false
set_option maxRecDepth 100000
set_option maxHeartbeats 2000000
namespace Go.P
open Go.Sim (Ex hZ CK)
structure YZ where
 fS:Int
 cO:Int
 deriving DecidableEq,Inhabited
def YZ.g (x:YZ):aA PV:=[i64 x.fS,i64 x.cO]
structure YL where
 eH:Int
 bK:Int
 deriving DecidableEq,Inhabited
def YL.g (x:YL):aA PV:=[i64 x.eH,i64 x.bK]
structure YF where
 ID:YZ
 Hi:Int
 deriving DecidableEq,Inhabited
def YF.g (x:YF):aA PV:=[i64 x.ID.fS,i64 x.ID.cO,i64 x.Hi]
structure YJ where
 ID:YZ
 zA:ByteArray
 jK:YL
 eG:List YF
 deriving Inhabited
def YJ.g (x:YJ):aA PV:=[i64 x.ID.fS,i64 x.ID.cO,.v (.string x.zA),i64 x.jK.eH,i64 x.jK.bK,.is 3 (List.map YF.g x.eG)]
structure Y6 where
 c0:Int
 c1:Int
 c2:Int
 c3:Int
 c4:Int
 c5:Int
 deriving DecidableEq,Inhabited
def Y6.g (x:Y6):aA PV:=[i64 x.c0,i64 x.c1,i64 x.c2,i64 x.c3,i64 x.c4,i64 x.c5]
structure YX where
 fR:Int
 Unit:Int
 aY:Y6
 deriving DecidableEq,Inhabited
def YX.g (x:YX):aA PV:=[i64 x.fR,i64 x.Unit,i64 x.aY.c0,i64 x.aY.c1,i64 x.aY.c2,i64 x.aY.c3,i64 x.aY.c4,i64 x.aY.c5]
structure YT where
 At:Int
 Hh:Int
 zB1:Bool
 deriving DecidableEq,Inhabited
def YT.g (x:YT):aA PV:=[i64 x.At,i64 x.Hh,bv x.zB1]
structure YC where
 At:Int
 Hi:Int
 deriving DecidableEq,Inhabited
def YC.g (x:YC):aA PV:=[i64 x.At,i64 x.Hi]
structure YA where
 Log:Int
 pY:Int
 deriving DecidableEq,Inhabited
def YA.g (x:YA):aA PV:=[i64 x.Log,i64 x.pY]
structure YH where
 kE:Int
 jA:Int
 fW:Int
 deriving DecidableEq,Inhabited
def YH.g (x:YH):aA PV:=[i64 x.kE,i64 x.jA,i64 x.fW]
structure YB where
 dC:YH
 Rn:Bool
 Ro:Int
 deriving DecidableEq,Inhabited
def YB.g (x:YB):aA PV:=[i64 x.dC.kE,i64 x.dC.jA,i64 x.dC.fW,bv x.Rn,i64 x.Ro]
structure YD where
 dC:YH
 Log:Int
 Kf:Bool
 deriving DecidableEq,Inhabited
def YD.g (x:YD):aA PV:=[i64 x.dC.kE,i64 x.dC.jA,i64 x.dC.fW,i64 x.Log,bv x.Kf]
structure YY where
 qR:ByteArray
 Ci:Int
 deriving DecidableEq,Inhabited
def YY.g (x:YY):aA PV:=[.v (.string x.qR),i64 x.Ci]
structure YE where
 ID:YZ
 dW:Int
 Value:YA
 dJ:List YB
 cX:List YD
 bR:Int
 dV:Int
 eK:Int
 dL:List YY
 nC:Int
 nD:Int
 deriving Inhabited
def YE.g (x:YE):aA PV:=[i64 x.ID.fS,i64 x.ID.cO,i64 x.dW,i64 x.Value.Log,i64 x.Value.pY,.is 5 (List.map YB.g x.dJ),.is 5 (List.map YD.g x.cX),i64 x.bR,i64 x.dV,i64 x.eK,.is 2 (List.map YY.g x.dL),i64 x.nC,i64 x.nD]
structure YU where
 lH:Int
 fR:Int
 iY:Int
 jT:Int
 deriving DecidableEq,Inhabited
def YU.g (x:YU):aA PV:=[i64 x.lH,i64 x.fR,i64 x.iY,i64 x.jT]
structure YO where
 aX:List YE
 eJ:List YU
 deriving Inhabited
def YO.g (x:YO):aA PV:=[.is 13 (List.map YE.g x.aX),.is 4 (List.map YU.g x.eJ)]
structure YW where
 jG:List YC
 aO:List YO
 deriving Inhabited
def YW.g (x:YW):aA PV:=[.is 2 (List.map YC.g x.jG),.is 2 (List.map YO.g x.aO)]
structure YM where
 ID:YZ
 bJ:YX
 fA:Int
 cQ:Int
 bS:Bool
 bG:Int
 bL:Int
 jV:Int
 eC:Int
 hU:Int
 iF:Int
 cA:ByteArray
 eS:List YT
 aQ:List YW
 deriving Inhabited
def YM.g (x:YM):aA PV:=[i64 x.ID.fS,i64 x.ID.cO,i64 x.bJ.fR,i64 x.bJ.Unit,i64 x.bJ.aY.c0,i64 x.bJ.aY.c1,i64 x.bJ.aY.c2,i64 x.bJ.aY.c3,i64 x.bJ.aY.c4,i64 x.bJ.aY.c5,i64 x.fA,i64 x.cQ,bv x.bS,i64 x.bG,i64 x.bL,i64 x.jV,i64 x.eC,i64 x.hU,i64 x.iF,.v (.string x.cA),.is 3 (List.map YT.g x.eS),.is 2 (List.map YW.g x.aQ)]
structure YN where
 ID:YZ
 dW:Int
 jU:YZ
 To:YZ
 deriving DecidableEq,Inhabited
def YN.g (x:YN):aA PV:=[i64 x.ID.fS,i64 x.ID.cO,i64 x.dW,i64 x.jU.fS,i64 x.jU.cO,i64 x.To.fS,i64 x.To.cO]
structure Y0 where
 hJ:ByteArray
 fB:Bool
 cD:List YJ
 aE:List YM
 bU:List YN
 kV:List YZ
 deriving Inhabited
def Y0.g (x:Y0):aA PV:=[.v (.string x.hJ),bv x.fB,.is 6 (List.map YJ.g x.cD),.is 22 (List.map YM.g x.aE),.is 7 (List.map YN.g x.bU),.is 2 (List.map YZ.g x.kV)]
structure YV where
 kU:Int
 jY1:YZ
 deriving DecidableEq,Inhabited
def YV.g (x:YV):aA PV:=[i64 x.kU,i64 x.jY1.fS,i64 x.jY1.cO]
structure YI where
 name:ByteArray
 letter:Int
 line:Int
 octaves:Int
 middle:Int
 sharps:Int
 flats:Int
 deriving DecidableEq,Inhabited
def YI.g (x:YI):aA PV:=[.v (.string x.name),.v (.int .u8 x.letter),i64 x.line,i64 x.octaves,i64 x.middle,i64 x.sharps,i64 x.flats]
structure Y9 where
 c0:YI
 c1:YI
 c2:YI
 c3:YI
 c4:YI
 c5:YI
 c6:YI
 c7:YI
 c8:YI
 deriving DecidableEq,Inhabited
def Y9.g (x:Y9):aA PV:=[.v (.string x.c0.name),.v (.int .u8 x.c0.letter),i64 x.c0.line,i64 x.c0.octaves,i64 x.c0.middle,i64 x.c0.sharps,i64 x.c0.flats,.v (.string x.c1.name),.v (.int .u8 x.c1.letter),i64 x.c1.line,i64 x.c1.octaves,i64 x.c1.middle,i64 x.c1.sharps,i64 x.c1.flats,.v (.string x.c2.name),.v (.int .u8 x.c2.letter),i64 x.c2.line,i64 x.c2.octaves,i64 x.c2.middle,i64 x.c2.sharps,i64 x.c2.flats,.v (.string x.c3.name),.v (.int .u8 x.c3.letter),i64 x.c3.line,i64 x.c3.octaves,i64 x.c3.middle,i64 x.c3.sharps,i64 x.c3.flats,.v (.string x.c4.name),.v (.int .u8 x.c4.letter),i64 x.c4.line,i64 x.c4.octaves,i64 x.c4.middle,i64 x.c4.sharps,i64 x.c4.flats,.v (.string x.c5.name),.v (.int .u8 x.c5.letter),i64 x.c5.line,i64 x.c5.octaves,i64 x.c5.middle,i64 x.c5.sharps,i64 x.c5.flats,.v (.string x.c6.name),.v (.int .u8 x.c6.letter),i64 x.c6.line,i64 x.c6.octaves,i64 x.c6.middle,i64 x.c6.sharps,i64 x.c6.flats,.v (.string x.c7.name),.v (.int .u8 x.c7.letter),i64 x.c7.line,i64 x.c7.octaves,i64 x.c7.middle,i64 x.c7.sharps,i64 x.c7.flats,.v (.string x.c8.name),.v (.int .u8 x.c8.letter),i64 x.c8.line,i64 x.c8.octaves,i64 x.c8.middle,i64 x.c8.sharps,i64 x.c8.flats]
structure YK where
 s':Y0
 rule:Int
 list:List YV
 deriving Inhabited
def YK.g (x:YK):aA PV:=[.v (.string x.s'.hJ),bv x.s'.fB,.is 6 (List.map YJ.g x.s'.cD),.is 22 (List.map YM.g x.s'.aE),.is 7 (List.map YN.g x.s'.bU),.is 2 (List.map YZ.g x.s'.kV),i64 x.rule,.is 3 (List.map YV.g x.list)]
structure Ao where
 c0:Int
 c1:Int
 c2:Int
 c3:Int
 c4:Int
 c5:Int
 c6:Int
 deriving DecidableEq,Inhabited
def Ao.g (x:Ao):aA PV:=[i64 x.c0,i64 x.c1,i64 x.c2,i64 x.c3,i64 x.c4,i64 x.c5,i64 x.c6]
structure YP where
 dW:Int
 wF2:Int
 iM:Int
 cW:Int
 iV:Int
 pW:Int
 sJ1:Int
 deriving DecidableEq,Inhabited
def YP.g (x:YP):aA PV:=[i64 x.dW,i64 x.wF2,i64 x.iM,i64 x.cW,i64 x.iV,i64 x.pW,i64 x.sJ1]
structure YQ where
 cW:Int
 At:Int
 iM:Int
 iV:Int
 deriving DecidableEq,Inhabited
def YQ.g (x:YQ):aA PV:=[i64 x.cW,i64 x.At,i64 x.iM,i64 x.iV]
structure YS where
 dW:Int
 jU:YQ
 To:YQ
 deriving DecidableEq,Inhabited
def YS.g (x:YS):aA PV:=[i64 x.dW,i64 x.jU.cW,i64 x.jU.At,i64 x.jU.iM,i64 x.jU.iV,i64 x.To.cW,i64 x.To.At,i64 x.To.iM,i64 x.To.iV]
structure YG where
 started:Bool
 body:Int
 used:Int
 ending:Int
 ended:Bool
 passes:Int
 deriving DecidableEq,Inhabited
def YG.g (x:YG):aA PV:=[bv x.started,i64 x.body,i64 x.used,i64 x.ending,bv x.ended,i64 x.passes]
structure lW where
 id:YZ
 metre:YX
 length:Int
 fifths:Int
 start:Bool
 end':Int
 endings:Int
 jump:Int
 labels:Int
 swing:Int
 lineBreaking:Int
 rehearsal:ByteArray
 deriving DecidableEq,Inhabited
def lW.g (x:lW):aA PV:=[i64 x.id.fS,i64 x.id.cO,i64 x.metre.fR,i64 x.metre.Unit,i64 x.metre.aY.c0,i64 x.metre.aY.c1,i64 x.metre.aY.c2,i64 x.metre.aY.c3,i64 x.metre.aY.c4,i64 x.metre.aY.c5,i64 x.length,i64 x.fifths,bv x.start,i64 x.end',i64 x.endings,i64 x.jump,i64 x.labels,i64 x.swing,i64 x.lineBreaking,.v (.string x.rehearsal)]
def Wu:Qk (eA YZ.g) true [.i,.i]:=⟨fun _=>rfl,fun a b=>by
 cases a;cases b
 simp only[zW,eA,YZ.g,i64,pG,xP,YZ.mk.injEq,cM3,bU3,and_self,cF3]
 repeat' (first|rfl|split)
 all_goals simp_all⟩
def lX:Qk (eA YP.g) true [.i,.i,.i,.i,.i,.i,.i]:=⟨fun _=>rfl,fun a b=>by
 cases a;cases b
 simp only[zW,eA,YP.g,i64,pG,xP,YP.mk.injEq,cM3,bU3,and_self,cF3]
 repeat' (first|rfl|split)
 all_goals simp_all⟩
abbrev td0:TD:=(.nd 85 13 [(5,(.nd 87 5 [])),(6,(.nd 96 5 [])),(10,(.nd 131 2 []))])
abbrev td1:TD:=(.nd 69 2 [(0,(.nd 85 13 [(5,(.nd 87 5 [])),(6,(.nd 96 5 [])),(10,(.nd 131 2 []))])),(1,(.nd 332 4 []))])
abbrev td2:TD:=(.nd 64 2 [(1,(.nd 69 2 [(0,(.nd 85 13 [(5,(.nd 87 5 [])),(6,(.nd 96 5 [])),(10,(.nd 131 2 []))])),(1,(.nd 332 4 []))]))])
abbrev Hu:TD:=(.nd 45 22 [(21,(.nd 64 2 [(1,(.nd 69 2 [(0,(.nd 85 13 [(5,(.nd 87 5 [])),(6,(.nd 96 5 [])),(10,(.nd 131 2 []))])),(1,(.nd 332 4 []))]))]))])
end Go.P
namespace Go.P.K
open Go.Sim (Ex hZ CK)
abbrev I {A B:Type} (f:A->B) (l:aA A):aA B:=l.map f
abbrev Q (e:gG) (h:aS):Mt:=⟨e,h⟩
abbrev rq (e:gG) (h:aS):Ex×Mt:=(.ret,⟨e,h⟩)
abbrev ck (s:Y0) (r:Int) (l:PV):aA PV:=[.v (.string s.hJ),bv s.fB,.is 6 (List.map YJ.g s.cD),.is 22 (List.map YM.g s.aE),.is 7 (List.map YN.g s.bU),.is 2 (List.map YZ.g s.kV),i64 r,l]
abbrev nq (e:gG) (h:aS):Ex×Mt:=(.normal,⟨e,h⟩)
abbrev xq (n:Nat) (e:gG) (h:aS):Ex×Mt:=(.exit n,⟨e,h⟩)
end Go.P.K
namespace Go.P.K
open Go.Sim (Ex hZ CK)
abbrev t (n:Nat):PX:=.t n
abbrev c (n:Int):PX:=.c (.v (.int .i64 n))
abbrev cn:PX:=.c (.v (.slice none 0 0))
abbrev ct:PX:=.c (.v (.bool true))
abbrev cf:PX:=.c (.v (.bool false))
abbrev J (n:Int):Value:=.int .i64 n
abbrev ZS:Value:=.string ⟨#[]⟩
abbrev ZB:Value:=.bool false
abbrev ZN:Value:=.slice none 0 0
abbrev o (d:Nat) (k:hZ) (xs:aA PX) (l:aA Nat) (r:kM):kM:=.op d k xs l r
abbrev m (d x:Nat) (r:kM):kM:=.op d .mov [.t x] [] r
abbrev M (d x:Nat) (r:kM):kM:=.op d .mov [.t x] [x] r
abbrev L (d x:Nat) (r:kM):kM:=.op d .loadS [.t x] [x] r
abbrev a (d k x:Nat) (r:kM):kM:=.op d (.fad k) [.t x] [] r
abbrev A (d k x:Nat) (r:kM):kM:=.op d (.fad k) [.t x] [x] r
abbrev b (d:Nat) (k:BinOp) (xs:aA PX) (l:aA Nat) (r:kM):kM:=.op d (.bin k) xs l r
abbrev f (d g:Nat) (xs:aA PX) (l:aA Nat) (r:kM):kM:=.op d (.callF g) xs l r
abbrev e (d k x:Nat) (l:aA Nat) (r:kM):kM:=.op d (.ext k) [.t x] l r
abbrev O (d:Nat) (k:hZ) (x:Nat) (r:kM):kM:=.op d k [.t x] [x] r
abbrev B (d:Nat) (k:BinOp) (x:Nat) (n:Int) (r:kM):kM:=.op d (.bin k) [.t x,c n] [x] r
abbrev C (d:Nat) (k:BinOp) (x y:Nat) (r:kM):kM:=.op d (.bin k) [.t x,.t y] [x,y] r
abbrev U (d:Nat) (k:hZ) (l:aA Nat) (r:kM):kM:=.op d k (l.map .t) l r
abbrev x (d g:Nat) (w:Bool) (s:kM) (y:PX) (l:aA Nat) (r:kM):kM:=.ifx d g w s y l r
abbrev R (s:kM) (q:PC):PC:=.seq (.reg s) q
abbrev z0:aA Value:=[ZS,ZB,ZN,ZN,ZN,ZN]
abbrev z1:aA Value:=[(J 0),(J 0)]
abbrev z2:aA Value:=[(J 0),(J 0),(J 0)]
abbrev z3:aA Value:=[(J 0),(J 0),(J 0),(J 0),(J 0),(J 0),(J 0),(J 0),(J 0),(J 0),(J 0),(J 0),ZB,(J 0),(J 0),(J 0),(J 0),(J 0),(J 0),ZS,ZN,ZN]
abbrev z4:aA Value:=[(J 0),(J 0),(J 0),(J 0),(J 0),ZN,ZN,(J 0),(J 0),(J 0),ZN,(J 0),(J 0)]
abbrev z5:aA Value:=[(J 0),(J 0),(J 0),ZB,(J 0)]
abbrev z6:aA Value:=[ZS,ZB,ZN,ZN,ZN,ZN,(J 0),ZN]
abbrev z7:aA Value:=[(J 0),(J 0),ZS,(J 0),(J 0),ZN]
abbrev z8:aA Value:=[(.map none)]
abbrev z9:aA Value:=[(J 0),(J 0),(J 0),(J 0),(J 0),(J 0),(J 0)]
abbrev z10:aA Value:=[ZB,(J 0),(J 0),(J 0),ZB,(J 0)]
abbrev z11:aA Value:=[(J 0),(J 0),(J 0),(J 0),(J 0),(J 0),(J 0),(J 0),(J 0),(J 0),(J 0),(J 0),ZB,(J 0),(J 0),(J 0),(J 0),(J 0),(J 0),ZS]
abbrev z12:aA Value:=[ZS,(.int .u8 0),(J 0),(J 0),(J 0),(J 0),(J 0)]
abbrev z13:aA Value:=[(J 0),(J 0),(J 0),(J 0)]
abbrev z14:aA Value:=[(J 0),(J 0),(J 0),(J 0),(J 0),(J 0),(J 0),(J 0),(J 0)]
abbrev z15:aA Value:=[.nilFunc,.nilFunc,.nilFunc,.nilFunc,.nilFunc,.nilFunc,.nilFunc]
abbrev z16:aA Value:=[(J 0),(J 0),ZB]
abbrev z17:aA Value:=[(J 0),(J 0),(J 0),(J 0),ZB]
abbrev z19:aA Value:=[(J 0),(J 0),(J 0),(J 0),(J 0),(J 0)]
end Go.P.K
namespace Go.P
open Go.Sim (Ex hZ CK)
def fS1:aA Nat->Go.Sim.IC->Go.Sim.IC
 |[],c=>c
 |i::p,c=>match c with
  |.seq a b=>fS1 p (bif Nat.beq i 0 then a else b)
  |.cond _ a b=>fS1 p (bif Nat.beq i 0 then a else b)
  |.block _ a=>fS1 p a
  |.loop a=>fS1 p a
  |c=>c
noncomputable def ddf (f:Nat) (p:aA Nat):Go.Sim.IC:=match Go.Proofs.Tryz.prog.funcs[f]? with
 |some fn=>match fn.body with
  |some c=>match Go.Sim.comp Go.Proofs.Tryz.prog c with
   |some ic=>fS1 p ic
   |none=>.skip
  |none=>.skip
 |none=>.skip
noncomputable section
open K
noncomputable abbrev aP (f s:Nat) (z:Bool):cR:=anF Go.Proofs.Tryz.prog f s z
def zg (l:aA cR) (i:Nat):cR:=(l[i]?).getD default
def p3:cR:=⟨93,[.tmp 4],R (O 2 (.box 27 6) 0<|O 3 (.box 29 2) 1<|o 4 .mov [cf] [4]<|.nil)<|.seq (R (o 15 (.loadA 6) [t 2] [4]<|O 16 (.callF 5) 15<|O 17 (.un .not) 16<|M 18 17<|x 21 18 false (U 19 (.callF 6) []<|O 20 (.un .not) 19<|.nil) (t 20) [18]<|M 22 21<|x 26 22 false (o 23 (.loadA 6) [t 2] []<|O 24 (.callF 7) 23<|O 25 (.un .not) 24<|.nil) (t 25) [22]<|.nil)<|.cond (t 26) (R (U 27 (.callF 6) []<|M 4 27<|.nil)<|.ret) (.skip))<|R (o 29 (.loadA 6) [t 2] []<|O 30 (.loadA 2) 3<|U 31 (.callF 8) [29,30]<|M 28 31<|e 32 0 28 []<|e 33 1 28 []<|O 34 (.ext 2) 28<|U 5 (.alloc 27 z0) []<|U 6 (.alloc 29 z1) []<|.sto (.store 6) [t 5,t 32] [32]<|.sto (.store 2) [t 6,t 33] [33]<|M 7 34<|.nil)<|.seq (R (M 35 7<|B 36 .neq 35 0<|.nil)<|.cond (t 36) (R (o 4 .mov [ct] []<|.nil)<|.ret) (.skip))<|.seq (.regD 3 (o 37 (.loadA 6) [t 2] []<|a 38 3 2<|L 39 38<|o 40 (.iad 22) [t 39,c 0] [39]<|A 41 21 40<|L 42 41<|O 43 (.len 0) 42<|f 44 9 [t 37,c 0,t 43,ct] [37,43]<|M 8 44<|.nil) [0,0,2,6,14,30,62,127,255])<|.seq (R (o 9 .mov [c 0] []<|.nil)<|.block 0 (.loop [2,5,6,8,9] [2,4,5,6] (.seq (R (m 45 9<|m 46 8<|O 47 (.len 0) 46<|C 48 .lss 45 47<|.nil)<|.cond (t 48) (.skip) (.exit 0))<|.seq (.block 1 (.seq (.regD 3 (m 52 8<|m 53 9<|U 54 (.iad 3) [52,53]<|O 55 (.loadA 3) 54<|o 56 (.loadA 2) [t 6] []<|U 57 (.callF 10) [55,56]<|M 51 57<|e 58 0 51 []<|O 59 (.ext 1) 51<|U 10 (.alloc 47 z2) []<|.sto (.store 3) [t 10,t 58] [10,58]<|M 11 59<|.nil) [0,0,3,7,0,31,63,127,127,0,767,2047])<|R (M 60 11<|B 61 .neq 60 0<|.nil)<|.cond (t 61) (R (o 4 .mov [ct] []<|.nil)<|.ret) (.skip)))<|.reg<|M 49 9<|B 50 .add 49 1<|M 9 50<|.nil)))<|R (O 63 (.loadA 6) 5<|a 64 0 6<|L 65 64<|O 66 (.un .neg) 65<|a 67 1 6<|L 68 67<|O 69 (.un .neg) 68<|U 70 (.build z1 [(0,1),(1,1)]) [66,69]<|U 71 (.callF 8) [63,70]<|M 62 71<|e 72 0 62 []<|e 73 1 62 []<|O 74 (.ext 2) 62<|U 12 (.alloc 27 z0) []<|U 13 (.alloc 29 z1) []<|.sto (.store 6) [t 12,t 72] [72]<|.sto (.store 2) [t 13,t 73] [73]<|M 14 74<|.nil)<|R (M 75 14<|B 76 .eql 75 0<|M 77 76<|x 87 77 true (O 78 (.loadA 2) 13<|a 79 0 6<|L 80 79<|O 81 (.un .neg) 80<|A 82 1 6<|L 83 82<|O 84 (.un .neg) 83<|U 85 (.build z1 [(0,1),(1,1)]) [81,84]<|U 86 (.eqA false [.i,.i]) [78,85]<|.nil) (t 86) [6,13,77]<|M 88 87<|x 92 88 true (O 89 (.loadA 6) 12<|O 90 (.loadA 6) 2<|U 91 (.callF 11) [89,90]<|.nil) (t 91) [2,12,88]<|M 4 92<|.nil)<|.ret,true⟩
def p34:cR:=⟨31,[.tmp 4],R (O 2 (.box 60 6) 0<|O 3 (.box 60 6) 1<|o 4 .mov [cf] [4]<|.nil)<|R (o 5 (.fad 0) [t 2] [4]<|O 6 (.loadA 2) 5<|a 7 0 3<|O 8 (.loadA 2) 7<|U 9 (.eqA false [.i,.i]) [6,8]<|M 10 9<|x 16 10 true (a 11 2 2<|L 12 11<|a 13 2 3<|L 14 13<|C 15 .eql 12 14<|.nil) (t 15) [10]<|M 17 16<|x 23 17 true (a 18 3 2<|O 19 (.loadA 2) 18<|a 20 3 3<|O 21 (.loadA 2) 20<|U 22 (.eqA false [.i,.i]) [19,21]<|.nil) (t 22) [17]<|M 24 23<|x 30 24 true (A 25 5 2<|L 26 25<|A 27 5 3<|L 28 27<|U 29 (.callF 35) [26,28]<|.nil) (t 29) [2,3,24]<|M 4 30<|.nil)<|.ret,true⟩
def p35:cR:=⟨26,[.tmp 4],R (o 4 .mov [cf] [4]<|.nil)<|.seq (R (o 6 .mov [t 0] [4]<|O 7 (.len 0) 6<|m 8 1<|O 9 (.len 0) 8<|C 10 .neq 7 9<|.nil)<|.cond (t 10) (R (o 4 .mov [cf] []<|.nil)<|.ret) (.skip))<|.seq (R (m 11 0<|O 12 (.len 0) 11<|o 13 .mov [c 0] []<|.nil)<|.block 0 (.loop [0,1,12,13] [4] (R (b 14 .lss [t 13,t 12] []<|.nil)<|.seq (.cond (t 14) (.skip) (.exit 0))<|.seq (.block 1 (R (m 15 13<|M 5 15<|.nil)<|.seq (.regD 3 (m 16 0<|m 17 5<|U 18 (.iad 3) [16,17]<|O 19 (.loadA 3) 18<|m 20 1<|M 21 5<|U 22 (.iad 3) [20,21]<|O 23 (.loadA 3) 22<|U 24 (.eqA true [.i,.i,.i]) [19,23]<|.nil) [0,0,3,7,0,0,48,112,255])<|.cond (t 24) (R (o 4 .mov [cf] []<|.nil)<|.ret) (.skip)))<|.reg<|B 25 .add 13 1<|M 13 25<|.nil)))<|R (o 4 .mov [ct] []<|.nil)<|.ret,true⟩
def p38:cR:=⟨24,[.tmp 4],R (O 2 (.box 45 22) 0<|O 3 (.box 45 22) 1<|o 4 .mov [cf] [4]<|.nil)<|.seq (.regD 3 (o 5 (.loadA 22) [t 2] [4]<|O 6 (.callF 86) 5<|o 7 (.loadA 22) [t 3] []<|O 8 (.callF 86) 7<|U 9 (.eqA false [.i,.i,.i,.i,.i,.i,.i,.i,.i,.i,.i,.i,.b,.i,.i,.i,.i,.i,.i,.s]) [6,8]<|M 10 9<|x 16 10 true (a 11 20 2<|L 12 11<|a 13 20 3<|L 14 13<|U 15 (.callF 87) [12,14]<|.nil) (t 15) [10]<|M 17 16<|x 23 17 true (A 18 21 2<|L 19 18<|A 20 21 3<|L 21 20<|f 22 88 [t 19,t 21,.c (.fn 89 [] [])] [19,21]<|.nil) (t 22) [2,3,17]<|M 4 23<|.nil) [0,1,0,7,15,31,63,127,63,319,1023,2047,4095,8191,16383,8191,40959,131071,262143,524287])<|.ret,true⟩
def p39:cR:=⟨26,[.tmp 4],R (o 4 .mov [cf] [4]<|.nil)<|.seq (R (o 6 .mov [t 0] [4]<|O 7 (.len 0) 6<|m 8 1<|O 9 (.len 0) 8<|C 10 .neq 7 9<|.nil)<|.cond (t 10) (R (o 4 .mov [cf] []<|.nil)<|.ret) (.skip))<|.seq (R (m 11 0<|O 12 (.len 0) 11<|o 13 .mov [c 0] []<|.nil)<|.block 0 (.loop [0,1,12,13] [4] (R (b 14 .lss [t 13,t 12] []<|.nil)<|.seq (.cond (t 14) (.skip) (.exit 0))<|.seq (.block 1 (R (m 15 13<|M 5 15<|.nil)<|.seq (.regD 3 (m 16 0<|m 17 5<|U 18 (.iad 7) [16,17]<|O 19 (.loadA 7) 18<|m 20 1<|M 21 5<|U 22 (.iad 7) [20,21]<|O 23 (.loadA 7) 22<|U 24 (.eqA true [.i,.i,.i,.i,.i,.i,.i]) [19,23]<|.nil) [0,0,3,7,0,0,48,112,255])<|.cond (t 24) (R (o 4 .mov [cf] []<|.nil)<|.ret) (.skip)))<|.reg<|B 25 .add 13 1<|M 13 25<|.nil)))<|R (o 4 .mov [ct] []<|.nil)<|.ret,true⟩
def p40:cR:=⟨26,[.tmp 4],R (o 4 .mov [cf] [4]<|.nil)<|.seq (R (o 6 .mov [t 0] [4]<|O 7 (.len 0) 6<|m 8 1<|O 9 (.len 0) 8<|C 10 .neq 7 9<|.nil)<|.cond (t 10) (R (o 4 .mov [cf] []<|.nil)<|.ret) (.skip))<|.seq (R (m 11 0<|O 12 (.len 0) 11<|o 13 .mov [c 0] []<|.nil)<|.block 0 (.loop [0,1,12,13] [4] (R (b 14 .lss [t 13,t 12] []<|.nil)<|.seq (.cond (t 14) (.skip) (.exit 0))<|.seq (.block 1 (R (m 15 13<|M 5 15<|.nil)<|.seq (.regD 3 (m 16 0<|m 17 5<|U 18 (.iad 2) [16,17]<|O 19 (.loadA 2) 18<|m 20 1<|M 21 5<|U 22 (.iad 2) [20,21]<|O 23 (.loadA 2) 22<|U 24 (.eqA true [.i,.i]) [19,23]<|.nil) [0,0,3,7,0,0,48,112,255])<|.cond (t 24) (R (o 4 .mov [cf] []<|.nil)<|.ret) (.skip)))<|.reg<|B 25 .add 13 1<|M 13 25<|.nil)))<|R (o 4 .mov [ct] []<|.nil)<|.ret,true⟩
def p57:cR:=⟨86,[],R (U 8 .mkmap []<|M 2 8<|.nil)<|.seq (R (m 9 0<|O 10 .nilc 9<|A 11 0 10<|O 12 (.loadA 6) 11<|O 13 (.callF 101) 12<|o 14 (.len 0) [t 13] []<|o 15 .mov [c 0] []<|.nil)<|.block 0 (.loop [0,2,13,14,15] [0] (R (b 16 .lss [t 15,t 14] []<|.nil)<|.seq (.cond (t 16) (.skip) (.exit 0))<|.seq (.block 1 (R (o 17 (.iad 2) [t 13,t 15] []<|O 18 (.loadA 2) 17<|U 4 (.alloc 38 z1) []<|.sto (.store 2) [t 4,t 18] [18]<|.nil)<|.seq (.regD 3 (m 19 0<|o 20 (.loadA 2) [t 4] []<|O 21 (.callF 102) 20<|O 22 (.un .not) 21<|M 23 22<|x 27 23 false (m 24 2<|o 25 (.loadA 2) [t 4] []<|U 26 (.lookup true [.i,.i] (.v (.bool false)) false) [24,25]<|.nil) (t 26) [23]<|M 28 27<|x 39 28 false (a 29 1 4<|L 30 29<|m 31 0<|O 32 .nilc 31<|A 33 0 32<|O 34 (.loadA 6) 33<|a 35 0 4<|L 36 35<|U 37 (.callF 103) [34,36]<|C 38 .gtr 30 37<|.nil) (t 38) [28]<|o 40 (.loadA 2) [t 4] []<|f 41 98 [t 19,t 39,t 40] [19,39,40,41]<|.nil) [0,0,2,6,14,30,30,126,254,510,1022,2046,1022,5118,13310,29694,1022,66558,259070,524286,1048574,0,4194303])<|.reg<|o 42 .mov [t 2] [41]<|O 43 (.loadA 2) 4<|.sto (.mapup true [.i,.i]) [t 42,t 43,ct] [42,43]<|.nil))<|.reg<|B 44 .add 15 1<|M 15 44<|.nil)))<|R (o 5 .mov [cf] []<|.nil)<|.seq (R (m 45 0<|O 46 .nilc 45<|A 47 0 46<|A 48 5 47<|L 49 48<|o 50 (.len 0) [t 49] []<|o 51 .mov [c 0] []<|.nil)<|.block 2 (.loop [0,5,49,50,51] [0,5] (R (b 52 .lss [t 51,t 50] []<|.nil)<|.seq (.cond (t 52) (.skip) (.exit 2))<|.seq (.block 3 (R (m 53 51<|o 54 (.iad 2) [t 49,t 51] []<|O 55 (.loadA 2) 54<|U 7 (.alloc 38 z1) []<|M 6 53<|.sto (.store 2) [t 7,t 55] [55]<|.nil)<|.regD 3 (M 56 5<|M 57 56<|x 61 57 false (o 58 (.loadA 2) [t 7] []<|O 59 (.callF 102) 58<|O 60 (.un .not) 59<|.nil) (t 60) [57]<|M 62 61<|x 80 62 false (m 63 6<|B 64 .gtr 63 0<|M 65 64<|x 79 65 true (A 66 0 7<|L 67 66<|m 68 0<|O 69 .nilc 68<|A 70 0 69<|A 71 5 70<|L 72 71<|M 73 6<|B 74 .sub 73 1<|U 75 (.iad 2) [72,74]<|A 76 0 75<|L 77 76<|C 78 .leq 67 77<|.nil) (t 78) [6,7,65]<|.nil) (t 79) [6,7,62]<|M 5 80<|.nil) [0,1,3,7,15,31,63,127,255,511,1023,2047,1023,5119,13311,29695,62463,1023,132095,521215,1045503,2094079,4194303,8388607,16777215,33554431]))<|.reg<|B 81 .add 51 1<|M 51 81<|.nil)))<|.reg<|M 82 0<|M 83 5<|U 84 (.build z1 []) []<|f 85 98 [t 82,t 83,t 84] [82,83,84,85]<|.nil,true⟩
def p80:cR:=⟨33,[.cellA 4 3],R (U 4 (.alloc 47 z2) []<|.nil)<|.seq (R (m 7 0<|O 8 (.len 0) 7<|B 9 .lss 8 1<|.nil)<|.cond (t 9) (.dead (ddf 80 [1,0,1,0])) (.skip))<|R (m 11 0<|o 12 (.iad 3) [t 11,c 0] [11]<|O 13 (.loadA 3) 12<|U 5 (.alloc 47 z2) []<|.sto (.store 3) [t 5,t 13] [13]<|.nil)<|.seq (R (o 6 .mov [c 1] []<|.nil)<|.block 0 (.loop [0,1,4,5,6] [4,5] (.seq (R (m 14 6<|m 15 0<|O 16 (.len 0) 15<|C 17 .lss 14 16<|.nil)<|.cond (t 17) (.skip) (.exit 0))<|.seq (.block 1 (.seq (.regD 3 (m 20 1<|m 21 0<|m 22 6<|U 23 (.iad 3) [21,22]<|O 24 (.loadA 3) 23<|o 25 (.loadA 3) [t 5] []<|U 26 .callV [20,24,25]<|B 27 .lss 26 0<|.nil) [0,0,0,6,14,0,63,127])<|.condJ [0,1,4,5,6] (t 27) (.reg<|m 28 0<|m 29 6<|U 30 (.iad 3) [28,29]<|O 31 (.loadA 3) 30<|.sto (.store 3) [t 5,t 31] [31]<|.nil) (.skip)))<|.reg<|M 18 6<|B 19 .add 18 1<|M 6 19<|.nil)))<|R (O 32 (.loadA 3) 5<|.sto (.store 3) [t 4,t 32] [32]<|.nil)<|.ret,true⟩
def p87:cR:=⟨26,[.tmp 4],R (o 4 .mov [cf] [4]<|.nil)<|.seq (R (o 6 .mov [t 0] [4]<|O 7 (.len 0) 6<|m 8 1<|O 9 (.len 0) 8<|C 10 .neq 7 9<|.nil)<|.cond (t 10) (R (o 4 .mov [cf] []<|.nil)<|.ret) (.skip))<|.seq (R (m 11 0<|O 12 (.len 0) 11<|o 13 .mov [c 0] []<|.nil)<|.block 0 (.loop [0,1,12,13] [4] (R (b 14 .lss [t 13,t 12] []<|.nil)<|.seq (.cond (t 14) (.skip) (.exit 0))<|.seq (.block 1 (R (m 15 13<|M 5 15<|.nil)<|.seq (.regD 3 (m 16 0<|m 17 5<|U 18 (.iad 3) [16,17]<|O 19 (.loadA 3) 18<|m 20 1<|M 21 5<|U 22 (.iad 3) [20,21]<|O 23 (.loadA 3) 22<|U 24 (.eqA true [.i,.i,.b]) [19,23]<|.nil) [0,0,3,7,0,0,48,112,255])<|.cond (t 24) (R (o 4 .mov [cf] []<|.nil)<|.ret) (.skip)))<|.reg<|B 25 .add 13 1<|M 13 25<|.nil)))<|R (o 4 .mov [ct] []<|.nil)<|.ret,true⟩
def fI:PC:=.reg<|M 5 8<|.nil
def fJ:PC:=.block 1 (.regD 3 (o 9 .loadS [t 3] []<|M 10 5<|O 11 .nilc 10<|O 12 (.loadA 2) 11<|O 13 (.buildSl 38 2 1 z1 [0]) 12<|U 14 (.append 38 2 16 z1 false) [9,13]<|.sto (.store 1) [t 3,t 14] [3,14]<|.nil) [0,0,2,6,14,31,63])
def lC2:cR:=⟨16,[.tmp 2],R (O 1 (.box 27 6) 0<|o 2 .mov [cn] [2]<|.nil)<|R (o 3 (.alloc 25 [ZN]) [] [2]<|.ownc 3 0 38 2 false<|.nil)<|.seq (R (O 6 (.callF 166) 1<|.nil)<|.block 0 (.rangeF 16 [3] (t 6) [7,8] fI fJ))<|R (L 15 3<|M 2 15<|.nil)<|.ret,true⟩
def lD2:cR:=⟨55,[.tmp 5],R (O 4 (.box 45 22) 1<|o 5 .mov [cf] [5]<|.nil)<|R (o 12 (.loadA 22) [t 4] [5]<|O 13 (.callF 91) 12<|M 11 13<|e 14 0 11 []<|O 15 (.ext 1) 11<|o 6 .mov [t 14] [6,14]<|o 7 .mov [t 15] [6,15]<|.nil)<|R (M 16 7<|B 17 .neq 16 0<|M 18 17<|x 23 18 false (a 19 11 4<|L 20 19<|f 21 100 [t 20,c (-7),c 7] [20]<|O 22 (.un .not) 21<|.nil) (t 22) [18]<|M 8 23<|.nil)<|.seq (R (o 24 .loadS [t 2] []<|O 25 .nilc 24<|A 26 0 25<|A 27 2 26<|L 28 27<|o 29 (.len 0) [t 28] []<|o 30 .mov [c 0] []<|.nil)<|.block 0 (.loop [2,4,8,28,29,30] [8] (R (b 31 .lss [t 30,t 29] []<|.nil)<|.seq (.cond (t 31) (.skip) (.exit 0))<|.seq (.block 1 (R (o 32 (.iad 6) [t 28,t 30] []<|O 33 (.loadA 6) 32<|U 10 (.alloc 60 z7) []<|.sto (.store 6) [t 10,t 33] [33]<|.nil)<|R (o 34 .loadS [t 2] []<|O 35 .nilc 34<|A 36 0 35<|A 37 1 36<|L 38 37<|M 39 38<|x 42 39 true (m 40 8<|O 41 (.un .not) 40<|.nil) (t 41) [39]<|.nil)<|.condJ [2,4,8,28,29,30] (t 42) (R (a 44 11 4<|L 45 44<|A 46 3 10<|O 47 (.loadA 2) 46<|U 48 (.callF 55) [45,47]<|M 43 48<|e 49 0 43 [49]<|e 50 1 43 [43,49]<|M 7 50<|.nil)<|.reg<|M 51 7<|B 52 .neq 51 0<|M 8 52<|.nil) (.skip)))<|.reg<|B 53 .add 30 1<|M 30 53<|.nil)))<|R (M 54 8<|M 5 54<|.nil)<|.ret,true⟩
def aN2:cR:=⟨108,[],R (U 10 (.alloc 131 [ZS,(J 0)]) []<|.nil)<|R (U 11 (.alloc 189 z9) []<|.nil)<|.seq (R (M 18 0<|O 19 .nilc 18<|A 20 0 19<|A 21 3 20<|L 22 21<|o 23 (.len 0) [t 22] []<|o 24 .mov [c 0] []<|.nil)<|.block 0 (.loop [1,2,3,4,10,11,22,23,24] [4,10,11] (R (b 25 .lss [t 24,t 23] []<|.nil)<|.seq (.cond (t 25) (.skip) (.exit 0))<|.seq (.block 1 (R (m 26 24<|o 27 (.iad 22) [t 22,t 24] []<|O 28 (.loadA 22) 27<|U 13 (.alloc 45 z3) []<|M 12 26<|.sto (.store 22) [t 13,t 28] [28]<|.nil)<|.seq (R (m 29 1<|a 30 21 13<|L 31 30<|O 32 (.len 0) 31<|C 33 .geq 29 32<|M 34 33<|x 44 34 false (m 35 2<|a 36 21 13<|L 37 36<|m 38 1<|U 39 (.iad 2) [37,38]<|A 40 1 39<|L 41 40<|O 42 (.len 0) 41<|C 43 .geq 35 42<|.nil) (t 43) [34]<|.nil)<|.cond (t 44) (.exit 1) (.skip))<|R (A 45 21 13<|L 46 45<|m 47 1<|U 48 (.iad 2) [46,47]<|A 49 1 48<|L 50 49<|m 51 2<|U 52 (.iad 2) [50,51]<|A 53 0 52<|L 54 53<|o 55 (.len 0) [t 54] []<|o 56 .mov [c 0] []<|.nil)<|.block 2 (.loop [1,2,3,4,10,11,12,22,23,24,54,55,56] [1,2,3,4,10,11,22,23,24] (R (b 57 .lss [t 56,t 55] []<|.nil)<|.seq (.cond (t 57) (.skip) (.exit 2))<|.seq (.block 3 (R (m 58 56<|o 59 (.iad 13) [t 54,t 56] []<|O 60 (.loadA 13) 59<|U 15 (.alloc 85 z4) []<|M 14 58<|.sto (.store 13) [t 15,t 60] [60]<|.nil)<|.seq (R (o 61 (.loadA 13) [t 15] []<|m 62 3<|U 63 (.callF 194) [61,62]<|.nil)<|.cond (t 63) (.exit 3) (.skip))<|.seq (.regX 3 (m 64 1<|m 65 12<|m 66 2<|M 67 14<|o 68 (.build z9 [(0,1),(2,1),(3,1),(4,1),(5,1)]) [c 4,t 64,t 65,t 66,t 67] [64,65,66,67]<|A 69 10 15<|o 70 .loadS [t 69] []<|m 71 3<|U 72 (.iad 2) [70,71]<|o 73 (.loadA 2) [t 72] []<|U 16 (.alloc 189 z9) []<|U 17 (.alloc 131 [ZS,(J 0)]) []<|.sto (.store 7) [t 16,t 68] [68]<|.sto (.store 2) [t 17,t 73] [73]<|.nil) [0,0,0,0,15,0,32,0,224,480,0,0,3103,8191] [(6,12,69,16),(9,12,72,16)])<|.seq (R (a 74 1 10<|L 75 74<|B 76 .eql 75 1<|M 77 76<|x 81 77 true (a 78 0 17<|L 79 78<|b 80 .eql [t 79,.c (.v (.string ⟨#[]⟩))] [79]<|.nil) (t 80) [77]<|.nil)<|.condJ [1,2,3,4,10,11,12,16,17,22,23,24,54,55,56] (t 81) (.reg<|m 82 4<|o 83 (.loadA 7) [t 11] []<|.sto (.mapup true [.i,.i,.i,.i,.i,.i,.i]) [t 82,t 83,ct] [82,83]<|.nil) (.skip))<|.seq (R (a 84 0 17<|L 85 84<|b 86 .eql [t 85,.c (.v (.string ⟨#[]⟩))] [85]<|M 87 86<|x 91 87 true (a 88 1 17<|L 89 88<|B 90 .eql 89 2<|.nil) (t 90) [87]<|M 92 91<|x 96 92 true (a 93 1 10<|L 94 93<|B 95 .neq 94 2<|.nil) (t 95) [92]<|.nil)<|.condJ [1,2,3,4,10,11,12,16,17,22,23,24,54,55,56] (t 96) (.reg<|m 97 4<|o 98 (.loadA 7) [t 16] []<|.sto (.mapup true [.i,.i,.i,.i,.i,.i,.i]) [t 97,t 98,ct] [97,98]<|.nil) (.skip))<|.regX 3 (O 99 (.loadA 2) 17<|o 100 (.loadA 7) [t 16] []<|.sto (.store 2) [t 10,t 99] [99]<|.sto (.store 7) [t 11,t 100] [100]<|.nil) [0,0,1,7] [(1,2,16,10)]))<|.reg<|B 101 .add 56 1<|M 56 101<|.nil))))<|.reg<|B 102 .add 24 1<|M 24 102<|.nil)))<|R (A 103 1 10<|L 104 103<|B 105 .eql 104 1<|.nil)<|.condJ [] (t 105) (.reg<|M 106 4<|O 107 (.loadA 7) 11<|.sto (.mapup true [.i,.i,.i,.i,.i,.i,.i]) [t 106,t 107,ct] [106,107]<|.nil) (.skip),true⟩
def lE2:cR:=⟨9,[.tmp 5],R (O 3 (.box 189 7) 0<|o 4 (.box 85 13) [t 1] [1,4]<|o 5 .mov [cf] [4,5]<|.nil)<|R (o 6 .loadS [t 2] [2,5]<|O 7 (.loadA 7) 3<|U 8 (.lookup true [.i,.i,.i,.i,.i,.i,.i] (.v (.bool false)) false) [6,7]<|M 5 8<|.nil)<|.ret,true⟩
def wI1:cR:=⟨42,[.tmp 4],R (o 4 .mov [cn] [4]<|.nil)<|R (o 8 .mov [t 0] [4]<|m 9 1<|U 10 (.callF 206) [8,9]<|M 5 10<|.nil)<|.seq (R (m 11 5<|B 12 .eql 11 (-1)<|.nil)<|.cond (t 12) (R (M 13 0<|M 4 13<|.nil)<|.ret) (.skip))<|.seq (R (m 14 5<|B 15 .add 14 1<|M 6 15<|.nil)<|.block 0 (.loop [0,1,5,6] [0,5] (.seq (R (m 16 6<|m 17 0<|O 18 (.len 0) 17<|C 19 .lss 16 18<|.nil)<|.cond (t 19) (.skip) (.exit 0))<|.seq (.block 1 (R (m 22 0<|m 23 6<|U 24 (.iad 2) [22,23]<|O 25 (.loadA 2) 24<|U 7 (.alloc 29 z1) []<|.sto (.store 2) [t 7,t 25] [25]<|.nil)<|R (m 26 1<|o 27 (.loadA 2) [t 7] []<|U 28 .callV [26,27]<|O 29 (.un .not) 28<|.nil)<|.condJ [0,1,5,6] (t 29) (R (m 30 0<|m 31 5<|O 32 (.loadA 2) 7<|U 33 (.iad 2) [30,31]<|.sto (.store 2) [t 33,t 32] [32,33]<|.nil)<|.reg<|M 34 5<|B 35 .add 34 1<|M 5 35<|.nil) (.skip)))<|.reg<|M 20 6<|B 21 .add 20 1<|M 6 21<|.nil)))<|R (m 36 0<|m 37 5<|.clr 38 2 z1 (t 36) (t 37) [36,37,38]<|.nil)<|R (M 39 0<|M 40 5<|U 41 (.slc 2 false true false) [39,40]<|M 4 41<|.nil)<|.ret,true⟩
def wJ1:cR:=⟨148,[],R (o 10 .mov [ct] [10]<|.nil)<|R (o 11 .mov [ct] [10,11]<|.nil)<|.block 0 (.loop [0,1,2,4] [] (.block 1 (R (m 21 2<|m 22 1<|C 23 .sub 21 22<|M 12 23<|.nil)<|.seq (R (M 24 12<|B 25 .leq 24 12<|.nil)<|.cond (t 25) (R (M 26 0<|M 27 1<|M 28 2<|M 29 4<|f 30 210 [t 26,t 27,t 28,t 29] [26,27,28,29,30]<|.nil)<|.ret) (.skip))<|.dead (ddf 150 [1,1,0,0,0,1,1])))),true⟩
def lF2:cR:=⟨26,[.tmp 4],R (o 4 .mov [cf] [4]<|.nil)<|.seq (R (o 6 .mov [t 0] [4]<|O 7 (.len 0) 6<|m 8 1<|O 9 (.len 0) 8<|C 10 .neq 7 9<|.nil)<|.cond (t 10) (R (o 4 .mov [cf] []<|.nil)<|.ret) (.skip))<|.seq (R (m 11 0<|O 12 (.len 0) 11<|o 13 .mov [c 0] []<|.nil)<|.block 0 (.loop [0,1,12,13] [4] (R (b 14 .lss [t 13,t 12] []<|.nil)<|.seq (.cond (t 14) (.skip) (.exit 0))<|.seq (.block 1 (R (m 15 13<|M 5 15<|.nil)<|.seq (.regD 3 (m 16 0<|m 17 5<|U 18 (.iad 2) [16,17]<|O 19 (.loadA 2) 18<|m 20 1<|M 21 5<|U 22 (.iad 2) [20,21]<|O 23 (.loadA 2) 22<|U 24 (.eqA true [.i,.i]) [19,23]<|.nil) [0,0,3,7,0,0,48,112,255])<|.cond (t 24) (R (o 4 .mov [cf] []<|.nil)<|.ret) (.skip)))<|.reg<|B 25 .add 13 1<|M 13 25<|.nil)))<|R (o 4 .mov [ct] []<|.nil)<|.ret,true⟩
def lG2:cR:=⟨73,[.tmp 4],R (O 2 (.box 85 13) 0<|O 3 (.box 85 13) 1<|o 4 .mov [cf] [4]<|.nil)<|R (o 5 (.fad 2) [t 2] [4]<|L 6 5<|a 7 2 3<|L 8 7<|C 9 .eql 6 8<|M 10 9<|x 16 10 true (a 11 3 2<|O 12 (.loadA 2) 11<|a 13 3 3<|O 14 (.loadA 2) 13<|U 15 (.eqA false [.i,.i]) [12,14]<|.nil) (t 15) [10]<|M 17 16<|x 23 17 true (a 18 7 2<|L 19 18<|a 20 7 3<|L 21 20<|C 22 .eql 19 21<|.nil) (t 22) [17]<|M 24 23<|x 30 24 true (a 25 8 2<|L 26 25<|a 27 8 3<|L 28 27<|C 29 .eql 26 28<|.nil) (t 29) [24]<|M 31 30<|x 37 31 true (a 32 9 2<|L 33 32<|a 34 9 3<|L 35 34<|C 36 .eql 33 35<|.nil) (t 36) [31]<|M 38 37<|x 44 38 true (a 39 11 2<|L 40 39<|a 41 11 3<|L 42 41<|C 43 .eql 40 42<|.nil) (t 43) [38]<|M 45 44<|x 51 45 true (a 46 12 2<|L 47 46<|a 48 12 3<|L 49 48<|C 50 .eql 47 49<|.nil) (t 50) [45]<|M 52 51<|x 58 52 true (a 53 5 2<|L 54 53<|a 55 5 3<|L 56 55<|U 57 (.callF 236) [54,56]<|.nil) (t 57) [52]<|M 59 58<|x 65 59 true (a 60 6 2<|L 61 60<|a 62 6 3<|L 63 62<|U 64 (.callF 237) [61,63]<|.nil) (t 64) [59]<|M 66 65<|x 72 66 true (A 67 10 2<|L 68 67<|A 69 10 3<|L 70 69<|U 71 (.callF 238) [68,70]<|.nil) (t 71) [2,3,66]<|M 4 72<|.nil)<|.ret,true⟩
def lH2:cR:=⟨9,[.tmp 3],R (O 2 (.box 87 5) 0<|o 3 .mov [cf] [3]<|.nil)<|R (o 4 (.fad 0) [t 2] [2,3]<|O 5 (.loadA 3) 4<|A 6 0 1<|O 7 (.loadA 3) 6<|U 8 (.eqA false [.i,.i,.i]) [5,7]<|M 3 8<|.nil)<|.ret,true⟩
def lI2:cR:=⟨19,[.tmp 4],R (O 2 (.box 85 13) 0<|o 4 .mov [cf] [4]<|.nil)<|R (o 5 .mov [t 1] [4]<|a 6 10 2<|L 7 6<|O 8 (.len 0) 7<|C 9 .geq 5 8<|M 10 9<|x 18 10 false (A 11 10 2<|L 12 11<|M 13 1<|U 14 (.iad 2) [12,13]<|O 15 (.loadA 2) 14<|U 16 (.build [ZS,(J 0)] []) []<|U 17 (.eqA false [.s,.i]) [15,16]<|.nil) (t 17) [1,2,10]<|M 4 18<|.nil)<|.ret,true⟩
def lJ2:cR:=⟨15,[.tmp 4],R (O 2 (.box 85 13) 0<|O 3 (.box 85 13) 1<|o 4 .mov [cf] [4]<|.nil)<|R (o 5 (.fad 0) [t 2] [4]<|O 6 (.loadA 2) 5<|a 7 0 3<|O 8 (.loadA 2) 7<|U 9 (.eqA false [.i,.i]) [6,8]<|M 10 9<|x 14 10 true (O 11 (.loadA 13) 2<|O 12 (.loadA 13) 3<|U 13 (.callF 179) [11,12]<|.nil) (t 13) [2,3,10]<|M 4 14<|.nil)<|.ret,true⟩
def lK2:cR:=⟨26,[.tmp 4],R (o 4 .mov [cf] [4]<|.nil)<|.seq (R (o 6 .mov [t 0] [4]<|O 7 (.len 0) 6<|m 8 1<|O 9 (.len 0) 8<|C 10 .neq 7 9<|.nil)<|.cond (t 10) (R (o 4 .mov [cf] []<|.nil)<|.ret) (.skip))<|.seq (R (m 11 0<|O 12 (.len 0) 11<|o 13 .mov [c 0] []<|.nil)<|.block 0 (.loop [0,1,12,13] [4] (R (b 14 .lss [t 13,t 12] []<|.nil)<|.seq (.cond (t 14) (.skip) (.exit 0))<|.seq (.block 1 (R (m 15 13<|M 5 15<|.nil)<|.seq (.regD 3 (m 16 0<|m 17 5<|U 18 (.iad 5) [16,17]<|O 19 (.loadA 5) 18<|m 20 1<|M 21 5<|U 22 (.iad 5) [20,21]<|O 23 (.loadA 5) 22<|U 24 (.eqA true [.i,.i,.i,.b,.i]) [19,23]<|.nil) [0,0,3,7,0,0,48,112,255])<|.cond (t 24) (R (o 4 .mov [cf] []<|.nil)<|.ret) (.skip)))<|.reg<|B 25 .add 13 1<|M 13 25<|.nil)))<|R (o 4 .mov [ct] []<|.nil)<|.ret,true⟩
def lL2:cR:=⟨26,[.tmp 4],R (o 4 .mov [cf] [4]<|.nil)<|.seq (R (o 6 .mov [t 0] [4]<|O 7 (.len 0) 6<|m 8 1<|O 9 (.len 0) 8<|C 10 .neq 7 9<|.nil)<|.cond (t 10) (R (o 4 .mov [cf] []<|.nil)<|.ret) (.skip))<|.seq (R (m 11 0<|O 12 (.len 0) 11<|o 13 .mov [c 0] []<|.nil)<|.block 0 (.loop [0,1,12,13] [4] (R (b 14 .lss [t 13,t 12] []<|.nil)<|.seq (.cond (t 14) (.skip) (.exit 0))<|.seq (.block 1 (R (m 15 13<|M 5 15<|.nil)<|.seq (.regD 3 (m 16 0<|m 17 5<|U 18 (.iad 5) [16,17]<|O 19 (.loadA 5) 18<|m 20 1<|M 21 5<|U 22 (.iad 5) [20,21]<|O 23 (.loadA 5) 22<|U 24 (.eqA true [.i,.i,.i,.i,.b]) [19,23]<|.nil) [0,0,3,7,0,0,48,112,255])<|.cond (t 24) (R (o 4 .mov [cf] []<|.nil)<|.ret) (.skip)))<|.reg<|B 25 .add 13 1<|M 13 25<|.nil)))<|R (o 4 .mov [ct] []<|.nil)<|.ret,true⟩
def lM2:cR:=⟨26,[.tmp 4],R (o 4 .mov [cf] [4]<|.nil)<|.seq (R (o 6 .mov [t 0] [4]<|O 7 (.len 0) 6<|m 8 1<|O 9 (.len 0) 8<|C 10 .neq 7 9<|.nil)<|.cond (t 10) (R (o 4 .mov [cf] []<|.nil)<|.ret) (.skip))<|.seq (R (m 11 0<|O 12 (.len 0) 11<|o 13 .mov [c 0] []<|.nil)<|.block 0 (.loop [0,1,12,13] [4] (R (b 14 .lss [t 13,t 12] []<|.nil)<|.seq (.cond (t 14) (.skip) (.exit 0))<|.seq (.block 1 (R (m 15 13<|M 5 15<|.nil)<|.seq (.regD 3 (m 16 0<|m 17 5<|U 18 (.iad 2) [16,17]<|O 19 (.loadA 2) 18<|m 20 1<|M 21 5<|U 22 (.iad 2) [20,21]<|O 23 (.loadA 2) 22<|U 24 (.eqA true [.s,.i]) [19,23]<|.nil) [0,0,3,7,0,0,48,112,255])<|.cond (t 24) (R (o 4 .mov [cf] []<|.nil)<|.ret) (.skip)))<|.reg<|B 25 .add 13 1<|M 13 25<|.nil)))<|R (o 4 .mov [ct] []<|.nil)<|.ret,true⟩
def lN2:cR:=⟨6,[.tmp 2],R (O 1 (.box 131 2) 0<|o 2 .mov [cf] [2]<|.nil)<|R (o 3 (.loadA 2) [t 1] [1,2]<|U 4 (.build [ZS,(J 0)] []) []<|U 5 (.eqA false [.s,.i]) [3,4]<|M 2 5<|.nil)<|.ret,true⟩
def cS:PC:=R (U 6 (.alloc 189 z9) []<|.sto (.store 7) [t 6,t 13] [13]<|.nil)<|.reg<|M 7 14<|.nil
def cT:PC:=.block 1 (.seq (.regD 3 (M 15 7<|O 16 .nilc 15<|O 17 (.loadA 2) 16<|O 18 (.loadA 2) 3<|U 19 (.eqA false [.i,.i]) [17,18]<|.nil) [0,1,3,0,15])<|.cond (t 19) (R (O 20 (.loadA 7) 6<|.sto (.store 7) [t 4,t 20] [4,20]<|.sto (.store 1) [t 5,ct] [5]<|.nil)<|.ret) (.skip))
def lO2:cR:=⟨22,[.cellA 4 7,.cellS 5],R (O 2 (.box 27 6) 0<|O 3 (.box 38 2) 1<|U 4 (.alloc 189 z9) []<|U 5 (.alloc 4 [ZB]) []<|.nil)<|.seq (R (o 8 (.loadA 2) [t 3] []<|U 9 (.build z1 []) []<|U 10 (.eqA false [.i,.i]) [8,9]<|.nil)<|.cond (t 10) (R (U 11 (.build z9 []) []<|.sto (.store 7) [t 4,t 11] [11]<|.sto (.store 1) [t 5,cf] []<|.nil)<|.ret) (.skip))<|.seq (R (O 12 (.callF 166) 2<|.nil)<|.block 0 (.rangeF 22 [3,4,5] (t 12) [13,14] cS cT))<|R (U 21 (.build z9 []) []<|.sto (.store 7) [t 4,t 21] [21]<|.sto (.store 1) [t 5,cf] []<|.nil)<|.ret,true⟩
def lP2:cR:=⟨26,[.tmp 4],R (o 4 .mov [cf] [4]<|.nil)<|.seq (R (o 6 .mov [t 0] [4]<|O 7 (.len 0) 6<|m 8 1<|O 9 (.len 0) 8<|C 10 .neq 7 9<|.nil)<|.cond (t 10) (R (o 4 .mov [cf] []<|.nil)<|.ret) (.skip))<|.seq (R (m 11 0<|O 12 (.len 0) 11<|o 13 .mov [c 0] []<|.nil)<|.block 0 (.loop [0,1,12,13] [4] (R (b 14 .lss [t 13,t 12] []<|.nil)<|.seq (.cond (t 14) (.skip) (.exit 0))<|.seq (.block 1 (R (m 15 13<|M 5 15<|.nil)<|.seq (.regD 3 (m 16 0<|m 17 5<|U 18 (.iad 4) [16,17]<|O 19 (.loadA 4) 18<|m 20 1<|M 21 5<|U 22 (.iad 4) [20,21]<|O 23 (.loadA 4) 22<|U 24 (.eqA true [.i,.i,.i,.i]) [19,23]<|.nil) [0,0,3,7,0,0,48,112,255])<|.cond (t 24) (R (o 4 .mov [cf] []<|.nil)<|.ret) (.skip)))<|.reg<|B 25 .add 13 1<|M 13 25<|.nil)))<|R (o 4 .mov [ct] []<|.nil)<|.ret,true⟩
def lQ2:cR:=⟨50,[.tmp 2],R (O 1 (.box 41 8) 0<|o 2 .mov [cf] [2]<|.nil)<|.seq (R (o 7 (.fad 2) [t 1] [2]<|O 8 (.loadA 6) 7<|U 9 (.build z19 []) []<|U 10 (.eqA false [.i,.i,.i,.i,.i,.i]) [8,9]<|.nil)<|.cond (t 10) (R (o 2 .mov [ct] []<|.nil)<|.ret) (.skip))<|R (o 3 .mov [c 0] []<|o 4 .mov [c 0] []<|.nil)<|.seq (R (a 11 2 1<|O 12 (.loadA 6) 11<|o 13 .mov [c 0] []<|.nil)<|.block 0 (.loop [1,3,4,12,13] [1,2,3,4] (R (b 14 .lss [t 13,c 6] []<|.nil)<|.seq (.cond (t 14) (.skip) (.exit 0))<|.seq (.block 1 (R (m 15 13<|o 16 (.idxA 6 1 false) [t 12,t 13] []<|M 5 15<|M 6 16<|.nil)<|.block 2 (R (m 18 6<|B 19 .lss 18 0<|M 20 19<|x 23 20 false (m 21 6<|B 22 .gtr 21 64<|.nil) (t 22) [20]<|M 24 23<|x 32 24 false (m 25 6<|B 26 .gtr 25 0<|M 27 26<|x 31 27 true (M 28 5<|m 29 4<|C 30 .neq 28 29<|.nil) (t 30) [5,27]<|.nil) (t 31) [5,24]<|M 17 32<|.nil)<|.cond (t 17) (R (o 2 .mov [cf] []<|.nil)<|.ret) (R (m 34 6<|B 35 .gtr 34 0<|M 33 35<|.nil)<|.condJ [1,3,4,12,13] (t 33) (.reg<|M 36 3<|M 37 6<|C 38 .add 36 37<|M 39 4<|B 40 .add 39 1<|M 3 38<|M 4 40<|.nil) (.skip)))))<|.reg<|B 41 .add 13 1<|M 13 41<|.nil)))<|R (M 42 3<|A 43 0 1<|L 44 43<|C 45 .eql 42 44<|M 46 45<|x 49 46 true (M 47 4<|B 48 .geq 47 2<|.nil) (t 48) [4,46]<|M 2 49<|.nil)<|.ret,true⟩
def Cu:{l:aA cR//l=[aP 5 0x12cb122111145111110451111104511111045111101111111110011025110011111101110101111110111010130011110111010011111010018764321719187643170000111111010185111111010011100643215187643160000111104511111045111105e1201101001110021264314001110011111101018511111101001110043214543140002122121 true,aP 7 0x111121222121 true,aP 8 0x47214018c1218b12013018a1225474744742e3474624744189124000111035111110786e22111011111001031000191875455958191875470011014c12010110113e1225474744742e34746247443d12410001013912010111002c1225474744742e34746247442b12400011001f1225474744742e34746247441e124000116126120011 true,aP 9 0x1111111111111111111110101010151111006a69685b5a591b1a1943211d6a69685b5a592a1f1b1a1943211f00111111117c12010006a69685b5a591f1b1a1943211e79786f6a69685b5a591f1b1a19432129000106d12010005b5a591b1a1943211a6a69685b5a591b1a1943211d000115e12010001b1a19432175b5a591b1a1943211a000111011101001001a19432161b1a19432170100111001911a194321600035f190511812418121 true,aP 10 0x4d1211110491200101111a123b1a2211011112d121001011281201001115222512011 true,aP 11 0x1583232111115511110105511110105512a5221110106511110105511101041241211 true,aP 16 0x16d122111145111101111110011111010011100321354314000011110451111104511110291201101001110021231202122121 true,aP 17 0x1111111111111101110101011111010043135431400011100314313002122121 true,aP 22 0x1111111b85f221b81af2210111111111101851111101f51111102e51111110786e221111011100205f5e5d342a100115b594f4d4b493f3d3b392f2d2b291f1d1b293101010101010101010101010101010101010329c71966114121222121 true,aP 23 0x2812211135111103511110351112122121 true,aP 24 0x2e1201102c1210110101e12010005421b1a1942500015322512011 true,aP 25 0x1ba121047214125474744740459c10228b1a051c86051af531d1ad02218d1121882d12e5d44194a12e5d3466167c246651b81240030101111111111a818e22488888888881a819f19a19952111100010000685f5e59584f3f3e382f2e1b1a187642918e18d685f5e59584f3f3e382f2e1f1b1a187642c0011011896f22488888888881891887b7a52111100010000685f5e59584f3f3e382f2e1f1b1a187642a6f6e685f5e59584f3f3e382f2e1f1b1a187642c001106b12006526a18059584f3f3e382f2e1b1a187641e10059584f3f3e382f2e1b1a187641e685f5e59584f3f3e382f2e1b1a1876429300115c1200015b1800003f3e382f2e1a187641a59584f3f3e382f2e1b1a187641e0000114e181101010382f2e187647100382f2e1876473f3e382f2e1a187641a201103b12002d13a1800007643382f2e187647000101312002b120152225120110f true,aP 26 0x11a121011642261201 true,aP 27 0x4a121113f120113d1210010111011112c1210010111f1201001115222512011 true,aP 28 0x11111111040224121 true,aP 29 0x11111111013100101011010010101111001162226522542241211 true,aP 30 0x12b422488888888882b2a32003253104011103511111101130223222212 true,aP 31 0x11110111000100041187104001412412 true,aP 32 0x1111322233121 true,aP 33 0x1111112122121 true,aP 36 0x1100111103912011102d1210100006129281f2150001001101612612 true,aP 37 0x1100111103912011102d1210100006129281f2150001001101612612 true,aP 46 0x11111111111c1201000311918734000112122121 true,aP 47 0x11111111011110111002a12101000065431e1d1c140001100001612652254224121 true]}:=by
 apply Subtype.mk
 conv=>rhs;reduce
def p5:cR:=zg Cu.1 0
def p7:cR:=zg Cu.1 1
def p8:cR:=zg Cu.1 2
def p9:cR:=zg Cu.1 3
def p10:cR:=zg Cu.1 4
def p11:cR:=zg Cu.1 5
def p16:cR:=zg Cu.1 6
def p17:cR:=zg Cu.1 7
def p22:cR:=zg Cu.1 8
def p23:cR:=zg Cu.1 9
def p24:cR:=zg Cu.1 10
def p25:cR:=zg Cu.1 11
def p26:cR:=zg Cu.1 12
def p27:cR:=zg Cu.1 13
def p28:cR:=zg Cu.1 14
def p29:cR:=zg Cu.1 15
def p30:cR:=zg Cu.1 16
def p31:cR:=zg Cu.1 17
def p32:cR:=zg Cu.1 18
def p33:cR:=zg Cu.1 19
def p36:cR:=zg Cu.1 20
def p37:cR:=zg Cu.1 21
def p46:cR:=zg Cu.1 22
def p47:cR:=zg Cu.1 23
def Cv:{l:aA cR//l=[aP 55 0x11111010010101110100101011111111010001110351111035111103511101010101151254224121 true,aP 56 0x2be2bd2bc1df4202ac022111111175111111110751111111110185111111111018511111110011dd69221dd1dc1da1d9421110111111c91a2211114511111045111b9120100018a18918869685f650191ae1ad1ac18a18918869685f6501c0001111111045111110451118d120100069685f650618a18918869685f650190001011111045111106c12010000169685f04000111101592922059584e2d4211111104511111105511110032c12010000129281f0400011110 true,aP 58 0x1a19183211712011110 true,aP 59 0x4a492211113e2b2203e3d3b2f42111110032e12010001c1b1a042b2a291c1b1a07000111f1201000011c1b1a0400011110 true,aP 60 0x43232101 true,aP 61 0x32221 true,aP 62 0x32221 true,aP 63 0x32221 true,aP 64 0x43232101 true,aP 65 0x43232101 true,aP 66 0x4a49483211111113c2c223c3b3a39382f62010001000291e1d42062c291e1d5420180010001e1d204291e1d42060010002021e1d20400111111071200 true,aP 67 0x13d292203d3c3a2e42111110032d121010000029281f305000111101a2221922210110 true,aP 68 0x17c2b227c7b7978421110111011111001100195111100301102511111005511002b2a2965320182b2a2976543201a0002f12101000002b2a293206000111101110110 true,aP 69 0x19f19e7f7e4211111111111111010316c32278322111351110185111103511015b3c225b5a583211101114c121011003f12010003023c3b3a3050001111412412001111111e121e1d220111110 true,aP 70 0x43232101 true,aP 71 0x32221 true,aP 72 0x43232101 true,aP 73 0x111111111101101102122121 true,aP 74 0x11114022412 true,aP 75 0x11111132223121 true,aP 76 0x5022112511212212 true,aP 77 0x6f12106e6a2206d5f2206c5c2206b5b2201101101131111584d49483f3211a1910459c10228b1a051c86051af531d1ad02218d1121882d12e5d3f4f171114c12010006321449483f632170001010459c10228b1a051c86051af531d1ad02218d1121882d12e5d03d194a114110111111112b12010003213281f1e3216000101111001 true,aP 78 0x2e2d2211111612110011f1201011110113 true,aP 79 0x11111110131233121 true]}:=by
 apply Subtype.mk
 conv=>rhs;reduce
def p55:cR:=zg Cv.1 0
def p56:cR:=zg Cv.1 1
def p58:cR:=zg Cv.1 2
def p59:cR:=zg Cv.1 3
def p60:cR:=zg Cv.1 4
def p61:cR:=zg Cv.1 5
def p62:cR:=zg Cv.1 6
def p63:cR:=zg Cv.1 7
def p64:cR:=zg Cv.1 8
def p65:cR:=zg Cv.1 9
def p66:cR:=zg Cv.1 10
def p67:cR:=zg Cv.1 11
def p68:cR:=zg Cv.1 12
def p69:cR:=zg Cv.1 13
def p70:cR:=zg Cv.1 14
def p71:cR:=zg Cv.1 15
def p72:cR:=zg Cv.1 16
def p73:cR:=zg Cv.1 17
def p74:cR:=zg Cv.1 18
def p75:cR:=zg Cv.1 19
def p76:cR:=zg Cv.1 20
def p77:cR:=zg Cv.1 21
def p78:cR:=zg Cv.1 22
def p79:cR:=zg Cv.1 23
def Cw:{l:aA cR//l=[aP 81 0x1111111512351211 true,aP 82 0x1111111110111000011111011412432232222121 true,aP 83 0x1111111111113d3c765407111103511014d1201100111000054033d3c76540700011101110001041540300035f4051040035f205104011025113123222212 true,aP 84 0x1d1c1b18752111101110 true,aP 85 0x111114222341211 true,aP 86 0x3b12111101010101010101010101001 true,aP 88 0x1100111103912011102d1210100006129281f2150001001101612612 true,aP 89 0x11a323211111551110141241211 true,aP 91 0x110001100001110111411111000011101010110111011131232222121 true,aP 98 0x2d2b2211111111111110030111 true,aP 99 0x17303211111551110212212 true,aP 100 0x11a203211135111612612 true,aP 102 0x16122111351112122121 true,aP 103 0x11111010101d1201000411a191814000142224121 true,aP 104 0x1381c220382f2d2942111010032812101000001c1b1a10500011110 true,aP 105 0x11111117a1b227f1b22111145111101a5117812010002c2b2a646d6c6b2c2b2a6700011111111110019511111110651111035111112f1201000612c2b2a6400011111115125121 true,aP 106 0x1111010112022212 true,aP 107 0x118a6221125111111015f1b1a326a1b1a3211111110111a51101e51111101065111110451133f1210100002c2b2a76563b3a392c2b2a197651a000102f12010007622c2b2a76560001101110114124121 true,aP 109 0x65432111 true,aP 110 0x15022112511212212 true,aP 111 0x150221113511212212 true,aP 112 0x11111117a5a2207a796f5f421110110000035e1210100004a49483a39382a292864101d5a59584a49483a39382a292818641029000114e1210100003a39382a2928410194a49483a39382a292864101d000113e1210100002a29281053a39382a292841019000112e12101000002a292810500011110 true,aP 113 0x111432241221222022 true,aP 114 0x1111111101101101103110100111110110110301100011110451110000111003001110110100111111011121232121 true]}:=by
 apply Subtype.mk
 conv=>rhs;reduce
def p81:cR:=zg Cw.1 0
def p82:cR:=zg Cw.1 1
def p83:cR:=zg Cw.1 2
def p84:cR:=zg Cw.1 3
def p85:cR:=zg Cw.1 4
def p86:cR:=zg Cw.1 5
def p88:cR:=zg Cw.1 6
def p89:cR:=zg Cw.1 7
def p91:cR:=zg Cw.1 8
def p98:cR:=zg Cw.1 9
def p99:cR:=zg Cw.1 10
def lV2:cR:=zg Cw.1 11
def lW2:cR:=zg Cw.1 12
def lX2:cR:=zg Cw.1 13
def Lr:cR:=zg Cw.1 14
def lY2:cR:=zg Cw.1 15
def lZ2:cR:=zg Cw.1 16
def mA2:cR:=zg Cw.1 17
def wK1:cR:=zg Cw.1 18
def mB2:cR:=zg Cw.1 19
def mC2:cR:=zg Cw.1 20
def Zx:cR:=zg Cw.1 21
def mD2:cR:=zg Cw.1 22
def mE2:cR:=zg Cw.1 23
def Cy:{l:aA cR//l=[aP 115 0x1691a432111145110105c12015b12106421111114c121111111110642311103818222f1822110011111110300001151251211 true,aP 116 0x1111154221a5221101132223121 true,aP 117 0x1111010101131232222121 true,aP 118 0x11114022412 true,aP 119 0x111131223121 true,aP 120 0x11114022412 true,aP 121 0x111131223121 true,aP 122 0x14918432111145111972203e19223d1201011111113012c1201011111103001151251211 true,aP 123 0x16122111351112122121 true,aP 124 0x6d12006c1211110110011110101101049121111101010001111010100110301a1200110512512011 true,aP 125 0x3a1211111110101015121a474564745547431c12410010110512512011 true,aP 126 0x11002b62212f62211104511101a5110281201000411d1c1b3400011001141241211 true,aP 129 0x11111111116d1c22111351691b22112511111101591201111114b120101110013c12010111002e12010005422b2a295406000111100145051040193ad405131243222212 true,aP 130 0x11111111032a1201110000000011041241211 true,aP 131 0x11e322111145111110451114124121 true,aP 132 0x4c1214b12042211113f3e2201103b12003a1210100102d12002c1210110011011c1210111011512512011 true,aP 133 0x1612211111107511121232121 true,aP 134 0x15f420421111116511110111101000111110351110185111103511102a51111104511115125121 true,aP 135 0x11c21321111116511110351113123121 true,aP 136 0x13b322111105511130112e73311011101029287341101001110351101652261211 true,aP 137 0x1111016d1918327819183211111110111a51101e51111104511111010651134d1210100007149483f75360001011111045111110451116121e622110114124121 true,aP 138 0x119c1922111145111025118918221101155111110451111035111018692c29185f2c1f185d2c1d1822c19286a125912000101011101111111103001110105512d42211135111012912010110111512351211 true,aP 140 0x11121222121 true,aP 141 0x11110111000100041187104001412412 true]}:=by
 apply Subtype.mk
 conv=>rhs;reduce
def mF2:cR:=zg Cy.1 0
def mG2:cR:=zg Cy.1 1
def aO2:cR:=zg Cy.1 2
def mH2:cR:=zg Cy.1 3
def mI2:cR:=zg Cy.1 4
def mJ2:cR:=zg Cy.1 5
def mK2:cR:=zg Cy.1 6
def mL2:cR:=zg Cy.1 7
def mM2:cR:=zg Cy.1 8
def mN2:cR:=zg Cy.1 9
def mO2:cR:=zg Cy.1 10
def mP2:cR:=zg Cy.1 11
def aP2:cR:=zg Cy.1 12
def mQ2:cR:=zg Cy.1 13
def mR2:cR:=zg Cy.1 14
def mS2:cR:=zg Cy.1 15
def mT2:cR:=zg Cy.1 16
def mU2:cR:=zg Cy.1 17
def mV2:cR:=zg Cy.1 18
def mW2:cR:=zg Cy.1 19
def mX2:cR:=zg Cy.1 20
def mY2:cR:=zg Cy.1 21
def aQ2:cR:=zg Cy.1 22
def aR2:cR:=zg Cy.1 23
def Cz:{l:aA cR//l=[aP 142 0x71216522011001 true,aP 143 0x3b121110393822012f2c1f1e1d211a1810459c10228b1a051c86051af531d1ad02218d1121883b2e17111052a12010002121f1e1d21500010459c10228b1a051c86051af531d1ad02218d11218811c193e021882d1c6620401b1a22011011001 true,aP 146 0x11111101010101131232222121 true,aP 147 0x111111111117621100111011051235422412 true,aP 148 0x11200 true,aP 149 0x4c32211251101110011103511110351111035111103511110351112122121 true,aP 151 0x11202211120222212 true,aP 153 0x1100111103912011102d1210100006129281f2150001001101612612 true,aP 154 0x11a323211111551110141241211 true,aP 155 0x1111010101131232222121 true,aP 157 0x1111145310410101110111522254224121 true,aP 161 0x1111110100110003221876340001212212 true,aP 162 0x1110010000100010111011412412 true,aP 164 0x15022112511212212 true,aP 165 0x11114022412 true,aP 166 0x121222121 true,aP 167 0x1e12111001a120011025113123120 true,aP 168 0x111862321100001111c12010115125121 true,aP 169 0x11121222121 true,aP 170 0x11114022412 true,aP 171 0x111154225121 true,aP 172 0x11114022412 true,aP 173 0x11b4324211111551111151235121 true,aP 174 0x11114022412 true]}:=by
 apply Subtype.mk
 conv=>rhs;reduce
def aS2:cR:=zg Cz.1 0
def wL1:cR:=zg Cz.1 1
def aT2:cR:=zg Cz.1 2
def aU2:cR:=zg Cz.1 3
def aV2:cR:=zg Cz.1 4
def aW2:cR:=zg Cz.1 5
def aX2:cR:=zg Cz.1 6
def mZ2:cR:=zg Cz.1 7
def nA2:cR:=zg Cz.1 8
def nB2:cR:=zg Cz.1 9
def nC2:cR:=zg Cz.1 10
def nD2:cR:=zg Cz.1 11
def nE2:cR:=zg Cz.1 12
def nF2:cR:=zg Cz.1 13
def nG2:cR:=zg Cz.1 14
def wM1:cR:=zg Cz.1 15
def nH2:cR:=zg Cz.1 16
def nI2:cR:=zg Cz.1 17
def nJ2:cR:=zg Cz.1 18
def nK2:cR:=zg Cz.1 19
def nL2:cR:=zg Cz.1 20
def nM2:cR:=zg Cz.1 21
def nN2:cR:=zg Cz.1 22
def nO2:cR:=zg Cz.1 23
def Da:{l:aA cR//l=[aP 175 0x111c5221b5221011142224121 true,aP 176 0x1111010110002176530002022212 true,aP 177 0x710321113511412412 true,aP 178 0x15022112511212212 true,aP 180 0x21a274562745527434a1241494822011132211103a3922010321311102c12011010101d12101111045111001 true,aP 181 0x2812211135111103511110351112122121 true,aP 182 0x1111001118124918221101111110101102e1201000212b2a29340001000111000111212212 true,aP 183 0x11003c422111351110110102d5222c5221011101f1201000211c1b1a300010011212212 true,aP 184 0x3a60321111116511011011110101111f12010002021c1b1a0400000011212212 true,aP 185 0x11111110011121232121 true,aP 186 0x11110111000100041187104001412412 true,aP 187 0x11110111000100041187104001412412 true,aP 188 0x1121222121 true,aP 189 0x1b32321111110101101c511103001141241211 true,aP 190 0x1111111111111111d18531040111111011101001d51110251111111010019511102511111005511181218121 true,aP 191 0x1d12111110 true,aP 192 0x1f121193ec98ff75193ec98ff7263ec98ff421c1e1b2201d182201c5220100100110501 true,aP 195 0x19d1211110111011030189120011011c1207b1c2211011111101111011a182235b1a2211011004e120111011111303d1200111035111012c12010111111512351201 true,aP 196 0x11111100011111101107511101c5111101100011111045111100011110351112122121 true,aP 197 0x13b3232483232111111175111101d511111011075111110110751111412341211 true,aP 198 0x1111422241211 true,aP 199 0x11b32321111116511110141241211 true,aP 200 0x1111422241211 true,aP 201 0x11b32321111116511110141241211 true]}:=by
 apply Subtype.mk
 conv=>rhs;reduce
def nP2:cR:=zg Da.1 0
def nQ2:cR:=zg Da.1 1
def nR2:cR:=zg Da.1 2
def nS2:cR:=zg Da.1 3
def nT2:cR:=zg Da.1 4
def nU2:cR:=zg Da.1 5
def nV2:cR:=zg Da.1 6
def nW2:cR:=zg Da.1 7
def nX2:cR:=zg Da.1 8
def aY2:cR:=zg Da.1 9
def nY2:cR:=zg Da.1 10
def nZ2:cR:=zg Da.1 11
def oA2:cR:=zg Da.1 12
def oB2:cR:=zg Da.1 13
def oC2:cR:=zg Da.1 14
def oD2:cR:=zg Da.1 15
def mT1:cR:=zg Da.1 16
def oE2:cR:=zg Da.1 17
def oF2:cR:=zg Da.1 18
def oG2:cR:=zg Da.1 19
def oH2:cR:=zg Da.1 20
def oI2:cR:=zg Da.1 21
def oJ2:cR:=zg Da.1 22
def oK2:cR:=zg Da.1 23
def Db:{l:aA cR//l=[aP 202 0x11932321111100751110412341211 true,aP 203 0x1fe121101fc1fb2201101f9121001110111075111110105511101a51103011001be12101001bb12100118e6221111110107511101c51111012b5111003018812107c62211251111001110695f1864106a682205e1200011010311111004c12101111010651111035111001101001e121011103511512512011 true,aP 204 0x1111141223412 true,aP 205 0x111111140224121 true,aP 206 0x11110111000100041187104001412412 true,aP 209 0x391211102f2e22012d2a1d1c1b321a1810459c10228b1a051c86051af531d1ad02218d2f2c17111052812010003221d1c1b325000110459c10228b1a051c86051af531d1ad02218d23193a0218d13662191240111001 true,aP 210 0x11111106c6a2216b5e2211100111001000030011111100110001c51100318321051918321060100100018321050110 true,aP 219 0x111111111111120211011111120211001112021100 true,aP 220 0x1100111103912011102d1210100006129281f2150001001101612612 true,aP 222 0x1114022412 true,aP 223 0x11110011111101075111103511100011110351112122121 true,aP 224 0x1111121232121 true,aP 225 0x11114531041010076212d12211104511110351101110110522254224121 true,aP 226 0x1111103b3a22111110011100003011003143030016121212212 true,aP 229 0x111212212 true,aP 230 0x11110111000100041187104001412412 true,aP 231 0x112111111110100100002cf2ce104001111011111111211111111011101110111010000010001dc1db1bc1bb18c18b76101a2881ff1dc1db1bc1bb18c18b1876101d001111011101110111010001bc1bb18c18b61071dc1db1bc1bb18c18b76101a001111011101110100018c18b1041bc1bb18c18b6107001111011102111101110100100010218c18b10400111101111111211111111011101001000281f3105584f281f4310180011110111021111011101001000102281f310500111100 true,aP 232 0x1a1210000000000 true,aP 233 0x11110111000100041187104001412412 true,aP 234 0x11110111000100041187104001412412 true,aP 235 0x11110111000100041187104001412412 true,aP 239 0x111001212212 true,aP 240 0x11111111a32219322101112122121 true,aP 241 0x1100011025111025111111011312232222121 true]}:=by
 apply Subtype.mk
 conv=>rhs;reduce
def oL2:cR:=zg Db.1 0
def oM2:cR:=zg Db.1 1
def oN2:cR:=zg Db.1 2
def oO2:cR:=zg Db.1 3
def aZ2:cR:=zg Db.1 4
def wN1:cR:=zg Db.1 5
def wO1:cR:=zg Db.1 6
def bA2:cR:=zg Db.1 7
def oP2:cR:=zg Db.1 8
def oQ2:cR:=zg Db.1 9
def oR2:cR:=zg Db.1 10
def oS2:cR:=zg Db.1 11
def oT2:cR:=zg Db.1 12
def oU2:cR:=zg Db.1 13
def oV2:cR:=zg Db.1 14
def oW2:cR:=zg Db.1 15
def wP1:cR:=zg Db.1 16
def oX2:cR:=zg Db.1 17
def oY2:cR:=zg Db.1 18
def oZ2:cR:=zg Db.1 19
def pA2:cR:=zg Db.1 20
def pB2:cR:=zg Db.1 21
def pC2:cR:=zg Db.1 22
def pD2:cR:=zg Db.1 23
def Dc:{l:aA cR//l=[aP 242 0x5812211135111011003d322111105511101010002122d2c130011000111100011110351112122121 true,aP 248 0x12c31321111451111004511110045111002122121 true,aP 249 0x15022112511212212 true,aP 250 0x111111111101412341211 true,aP 251 0x11110001102511212212 true,aP 252 0x11b32321111116511110141241211 true,aP 253 0x1111132223121 true,aP 255 0x3b1213a39220111101102b2a2201291e191873211a1910228b1a051c86051af531d1ad1f2817111051c12010003213191873216000100459c13660228b1a051c86051af531d1ad13192a01d1ad036630401 true,aP 263 0x11121222121 true,aP 264 0x1110110111014531040111111453104101011111001111045110014531040111100145310401110251151254224121 true,aP 265 0x1111111111000311876340001212212 true,aP 268 0x1710321113511412412 true,aP 270 0x171221111116511112122121 true,aP 271 0x11012531040117a1a22791a2210111111125310410101110110101110110125310403c422111104511118511111125310410101102b12101000032131f1e1d14000131232222121 true,aP 273 0x11112f2d222e2a29322e28220111101f121010000311b1a1934000117121212212 true,aP 274 0x11111111111453104101011101111011100007543382f2e7050001111011453104101011105125422412 true,aP 275 0x111111111014531040111110110101000185433a3918105001011101145310410102962228622101105125422412 true,aP 277 0x111011110101110351101131232222121 true,aP 278 0x1100111000018e7221101111018511030011101055111110451111104511111001075111103511101045111039121010000412d2c2b61060000111459c056610400110001102511412412 true,aP 279 0x1111110001101001110111100011025117127622612 true,aP 280 0x111011001111010030107621d1918300111111100011011101111000110030110019187641a1918210601100291201107127622612 true,aP 281 0x1111010101131232222121 true,aP 282 0x111100003d422484221111110101951101d5110311038121110000111011111001a51110321221203121 true,aP 283 0x111112122121 true]}:=by
 apply Subtype.mk
 conv=>rhs;reduce
def pE2:cR:=zg Dc.1 0
def pF2:cR:=zg Dc.1 1
def pG2:cR:=zg Dc.1 2
def pH2:cR:=zg Dc.1 3
def pI2:cR:=zg Dc.1 4
def pJ2:cR:=zg Dc.1 5
def pK2:cR:=zg Dc.1 6
def wQ1:cR:=zg Dc.1 7
def pL2:cR:=zg Dc.1 8
def pM2:cR:=zg Dc.1 9
def pN2:cR:=zg Dc.1 10
def pO2:cR:=zg Dc.1 11
def pP2:cR:=zg Dc.1 12
def pQ2:cR:=zg Dc.1 13
def pR2:cR:=zg Dc.1 14
def pS2:cR:=zg Dc.1 15
def pT2:cR:=zg Dc.1 16
def pU2:cR:=zg Dc.1 17
def pV2:cR:=zg Dc.1 18
def pW2:cR:=zg Dc.1 19
def pX2:cR:=zg Dc.1 20
def pY2:cR:=zg Dc.1 21
def bB2:cR:=zg Dc.1 22
def pZ2:cR:=zg Dc.1 23
def zA8:{l:aA cR//l=[aP 284 0x15022112511212212 true,aP 285 0x11111011010000111110110141241211 true,aP 286 0x111111011111101311000111111110131b1a19541611001e12010005421b1a195416000105125422412 true,aP 287 0x1111110111100411c1b43400111011112122121 true,aP 288 0x119213211111017511104124121 true,aP 289 0x1101111103010011020412 true]}:=by
 apply Subtype.mk
 conv=>rhs;reduce
def qA2:cR:=zg zA8.1 0
def qB2:cR:=zg zA8.1 1
def qC2:cR:=zg zA8.1 2
def qD2:cR:=zg zA8.1 3
def qE2:cR:=zg zA8.1 4
def qF2:cR:=zg zA8.1 5
end
noncomputable section
def pl:aA (aB cR):=[none,none,none,some p3,none,some p5,none,some p7,some p8,some p9,some p10,some p11,none,none,none,none,some p16,some p17,none,none,none,none,some p22,some p23,some p24,some p25,some p26,some p27,some p28,some p29,some p30,some p31,some p32,some p33,some p34,some p35,some p36,some p37,some p38,some p39,some p40,none,none,none,none,none,some p46,some p47,none,none,none,none,none,none,none,some p55,some p56,some p57,some p58,some p59,some p60,some p61,some p62,some p63,some p64,some p65,some p66,some p67,some p68,some p69,some p70,some p71,some p72,some p73,some p74,some p75,some p76,some p77,some p78,some p79,some p80,some p81,some p82,some p83,some p84,some p85,some p86,some p87,some p88,some p89,none,some p91,none,none,none,none,none,none,some p98,some p99,some lV2,some lC2,some lW2,some lX2,some Lr,some lY2,some lZ2,some mA2,some lD2,some wK1,some mB2,some mC2,some Zx,some mD2,some mE2,some mF2,some mG2,some aO2,some mH2,some mI2,some mJ2,some mK2,some mL2,some mM2,some mN2,some mO2,some mP2,some aN2,some lE2,some aP2,some mQ2,some mR2,some mS2,some mT2,some mU2,some mV2,some mW2,some mX2,some mY2,some wI1,some aQ2,some aR2,some aS2,some wL1,none,none,some aT2,some aU2,some aV2,some aW2,some wJ1,some aX2,some lF2,some mZ2,some nA2,some nB2,none,some nC2,none,none,none,some nD2,some nE2,none,some nF2,some nG2,some wM1,some nH2,some nI2,some nJ2,some nK2,some nL2,some nM2,some nN2,some nO2,some nP2,some nQ2,some nR2,some nS2,some lG2,some nT2,some nU2,some nV2,some nW2,some nX2,some aY2,some nY2,some nZ2,some oA2,some oB2,some oC2,some oD2,some mT1,some lH2,some lI2,some oE2,some oF2,some oG2,some oH2,some oI2,some oJ2,some oK2,some oL2,some oM2,some oN2,some oO2,some aZ2,none,none,some wN1,some wO1,none,none,none,none,none,none,none,none,some bA2,some oP2,some lJ2,some oQ2,some oR2,some oS2,some oT2,some oU2,none,none,some oV2,some oW2,some wP1,some oX2,some oY2,some oZ2,some pA2,some lK2,some lL2,some lM2,some pB2,some pC2,some pD2,some pE2,some lN2,none,none,none,some lO2,some pF2,some pG2,some pH2,some pI2,some pJ2,some pK2,none,some wQ1,none,none,none,none,none,some lP2,some lQ2,some pL2,some pM2,some pN2,none,none,some pO2,none,some pP2,some pQ2,none,some pR2,some pS2,some pT2,none,some pU2,some pV2,some pW2,some pX2,some pY2,some bB2,some pZ2,some qA2,some qB2,some qC2,some qD2,some qE2,some qF2]
def Qo:Al:=fun f=>(pl[f]?).join
def oF (f:Nat):Bool:=wD f [25,56,57,58,59,60,61,62,63,64,65,66,67,68,69,70,71,72,77,78,83,84,98,104,109,112,127,129,139,143,150,166,192,209,210,231,244,245,246,255,282]
def NW1 (f:Nat):Bool:=wD f [25,77,83,129,143,166,192,209,244,245,246,255]
def Ls (f:Nat):Bool:=wD f [25,77,143,192,209,244,245,246,255]
def clN:Nat->aB (Nat×Nat):=fun f=>bif Nat.beq f 244 then some (87,5)else bif Nat.beq f 245 then some (96,5)else bif Nat.beq f 246 then some (131,2)else none
def Ap:NB:=⟨NW1,Ls,yN clN⟩
def fT1 (f e:Nat):Bool:=wD f [144,145,207,208,254]&&Nat.beq e (match f with|144=>7|145=>2|207=>3|208=>3|254=>2|_=>0)
def bC2 (k:Int):YM:=⟨⟨0,3⟩,⟨4,4,⟨0,0,0,0,0,0⟩⟩,0,k,false,0,0,0,0,0,0,⟨#[]⟩,[],[⟨[],[⟨[⟨⟨0,4⟩,1,⟨0,0⟩,[⟨⟨6,(-1),3⟩,false,0⟩],[],0,0,0,[],0,0⟩],[]⟩]⟩]⟩
def fU1:Y0:=⟨⟨#[]⟩,false,[⟨⟨0,1⟩,⟨#[]⟩,⟨1,2⟩,[⟨⟨0,2⟩,1⟩]⟩],[bC2 (-2)],[],[⟨0,4⟩]⟩
def Qp:Y0:=⟨⟨#[]⟩,false,[⟨⟨0,1⟩,⟨#[]⟩,⟨1,2⟩,[⟨⟨0,2⟩,1⟩]⟩],[bC2 6],[],[⟨0,4⟩]⟩
def lD {A:Type} (l:aA A):aB (aA A):=bif Nat.ble l.length 1073741824 then some l else none
def Zy (k:Bool):zF:=fun f xs=>match xs with
 |[.is e rows]=>bif fT1 f e&&Nat.ble rows.length 1073741824 then some (.is e rows)else none
 |[]=>bif k&&Nat.beq f 6 then some (bv true)else none
 |_=>none
def okg {k:Bool} {d N:Nat} {ps:aA Nat} {a b:PC} (h:okL oF N ps a b=true):okG (Xd (Zy k) oF Ap Qo d).is N ps a b=some ():=by
 unfold okG;rw[show(Xd (Zy k) oF Ap Qo d).is=oF from Wp d,bK3 h]
noncomputable abbrev OD (k:Bool) (d:Nat):zF:=Od (Zy k) oF Ap Qo d
noncomputable abbrev XD (k:Bool) (d:Nat):NX:=Xd (Zy k) oF Ap Qo d
def od {k:Bool} {f:Nat} {fn:cR} (hn:oF f=false) (h:Qo f=some fn) (a:fn.frz=true) {d:Nat} {xs:aA PV}:OD k (d+1) f xs=Gu (OD k d) (XD k d) fn xs some:=aD2 hn h a d xs
def oe {k:Bool} {f:Nat} {fn:cR} {d:Nat} {xs:aA PV} {A:Type} {F:aB A} {e:A->PV} (h:(oF f,Qo f,fn.frz)=(false,some fn,true)) (hb:Gu (OD k d) (XD k d) fn xs some=F.map e):OD k (d+1) f xs=F.map e:=by
 simp only[cC3]at h;rw[od h.1 h.2.1 h.2.2];exact hb
def xd {k:Bool} {f:Nat} {fn:cR} (h:Qo f=some fn) {d:Nat} {xs:aA PV} {hs:aS} {m:Nat} {nw:Bool}:gY (XD k (d+1)) f xs hs m nw=fE1 (OD k d) (XD k d) fn xs hs m (Lb hs nw m):=aE2 h d xs hs m _
def yd {kf:Bool} {k d:Nat} {xs:aA PV} {hs:aS} {m:Nat}:Fl (XD kf (d+1)) k xs hs m=mG1 (OD kf d) (XD kf d) k xs hs m (Lb hs false m):=rfl
def pP {k:Bool} (f d:Nat) {A:Type} (e:Nat) (c:A->aA PV) (l:aA A) (h1:oF f=false) (h2:Qo f=none) (a:fT1 f e=true):OD k d f [.is e (l.map c)]=(lD l).map fun l=>.is e (l.map c):=by
 rw[OD,Wq h1 h2];unfold lD;simp only[Zy,a,fE3,cX3];cases Nat.ble l.length 1073741824<;>rfl
def fV1 (d:Nat):OD true d 6 []=(some true).map fun y=>bv y:=by
 rw[OD,Wq rfl rfl];rfl
def mG {kf:Bool} (f d ty e:Nat) {A:Type} (c:A->aA PV) (l:aA A) (m:Nat) (h1:Qo f=none) (h2:clN f=some (ty,e)) (a:Nat.beq e e=true) (b:∀rows,Lb [] true m (.own m) [(m,.lst ty e true rows)] (m+1)=some (.own m,[(m,.lst ty e true rows)],m+1)):gY (XD kf (d+1)) f [.is e (l.map c)] [] m true=(lD l).map fun l=>(.own m,[(m,.lst ty e true (l.map c))],m+1):=by
 show(Xd (Zy kf) oF Ap Qo (d+1)).run f _ _ _ _=_
 rw[mL1 h1];simp only[Ap,yN,h2,bE3,a,fE3,cX3];unfold lD;cases Nat.ble l.length 1073741824;rfl;exact b _
def rI:okL oF 16 [7,8] fI fJ=true:=by kernel_rfl
def pQ:okL oF 22 [13,14] cS cT=true:=by kernel_rfl
end
end Go.P
namespace Go.P
open Go.Sim (Ex hZ CK)
open K (I Q rq nq xq ck)
abbrev dH {A B:Type} (l:aA A) (i:Int) (t:A->aB B) (e:aB B):aB B:=if decide (i<(l.length:Int))=true then(cC l i).bind t else e
abbrev cL (l:aA YV) (s:Y0) (r:Int):aS:=[(2,.lst 140 3 false (I YV.g l)),(1,.box (ck s r (.own 2)))]
abbrev zLn {A:Type} (l:aA A):PV:=i64 (l.length:Int)
abbrev Ha (l:aA UInt8):PV:=.is 1 (List.map aG2 l)
abbrev oK (l:aA Int):PV:=.is 1 (List.map cI l)
abbrev mH (l:aA YE):PV:=.is 13 (List.map YE.g l)
abbrev nY (l:aA YW):PV:=.is 2 (List.map YW.g l)
abbrev jY (l:aA YC):PV:=.is 2 (List.map YC.g l)
abbrev jZ (l:aA YZ):PV:=.is 2 (List.map YZ.g l)
abbrev sN (l:aA YL):PV:=.is 2 (List.map YL.g l)
abbrev mY (l:aA YY):PV:=.is 2 (List.map YY.g l)
abbrev mI (l:aA YO):PV:=.is 2 (List.map YO.g l)
abbrev kH (l:aA YM):PV:=.is 22 (List.map YM.g l)
abbrev rJ (l:aA YH):PV:=.is 3 (List.map YH.g l)
abbrev Aq (l:aA YF):PV:=.is 3 (List.map YF.g l)
abbrev dQ (l:aA YT):PV:=.is 3 (List.map YT.g l)
abbrev Hv (l:aA YV):PV:=.is 3 (List.map YV.g l)
abbrev iR (l:aA YU):PV:=.is 4 (List.map YU.g l)
abbrev nK (l:aA YD):PV:=.is 5 (List.map YD.g l)
abbrev lE (l:aA YB):PV:=.is 5 (List.map YB.g l)
abbrev Hb (l:aA YJ):PV:=.is 6 (List.map YJ.g l)
abbrev dT (l:aA YN):PV:=.is 7 (List.map YN.g l)
abbrev fW1 (x:YW):dX:=.box x.g
abbrev Hc (x:YG):dX:=.box x.g
abbrev Zz (x:YE):dX:=.box x.g
abbrev wR1 (x:YZ):dX:=.box x.g
abbrev Lt (x:YL):dX:=.box x.g
abbrev Qq (x:YM):dX:=.box x.g
abbrev aA1 (x:YX):dX:=.box x.g
abbrev fX1 (x:YJ):dX:=.box x.g
abbrev aB1 (x:YH):dX:=.box x.g
abbrev aC1 (x:Y0):dX:=.box x.g
abbrev Hd (x:YP):dX:=.box x.g
abbrev Qr (x:YN):dX:=.box x.g
abbrev Lu (x:YY):dX:=.box x.g
abbrev Tx (x:YU):dX:=.box x.g
abbrev aD1 (x:YA):dX:=.box x.g
abbrev aE1 (x:YO):dX:=.box x.g
abbrev Jv (x:Y6):PV:=.agg x.g
abbrev Ar (x:Ao):PV:=.agg x.g
abbrev Cf (x:Y9):PV:=.agg x.g
abbrev uG (x:YW):PV:=.agg x.g
abbrev lF (x:YG):PV:=.agg x.g
abbrev Lv (x:YI):PV:=.agg x.g
abbrev eU (x:YE):PV:=.agg x.g
abbrev aF1 (x:YD):PV:=.agg x.g
abbrev yP (x:YB):PV:=.agg x.g
abbrev Lw (x:YZ):PV:=.agg x.g
abbrev fQ (x:YL):PV:=.agg x.g
abbrev eD (x:YM):PV:=.agg x.g
abbrev As (x:lW):PV:=.agg x.g
abbrev rK (x:YX):PV:=.agg x.g
abbrev yQ (x:YJ):PV:=.agg x.g
abbrev eO (x:YH):PV:=.agg x.g
abbrev eW (x:Y0):PV:=.agg x.g
abbrev fK (x:YP):PV:=.agg x.g
abbrev lN (x:YQ):PV:=.agg x.g
abbrev cV (x:YS):PV:=.agg x.g
abbrev yR (x:YY):PV:=.agg x.g
abbrev pR (x:YU):PV:=.agg x.g
abbrev Au (x:YA):PV:=.agg x.g
abbrev jC (x:YO):PV:=.agg x.g
abbrev dB (x:YK):PV:=.ip x.g
abbrev Jw (x:YE):PV:=.ip x.g
abbrev yS (x:YB):PV:=.ip x.g
abbrev mZ (x:YL):PV:=.ip x.g
abbrev mJ (x:YM):PV:=.ip x.g
abbrev Qs (x:YJ):PV:=.ip x.g
abbrev Bz (x:YN):PV:=.ip x.g
abbrev Jx (x:YF):PV:=.ip x.g
abbrev bF (n k:Nat):Nat×PV:=(n,.ref k 0)
abbrev aU (n:Nat) (x:Int):Nat×PV:=(n,i64 x)
abbrev cH {A:Type} (n:Nat) (l:aA A):Nat×PV:=(n,zLn l)
abbrev cG (n:Nat) (l:aA YW):Nat×PV:=(n,nY l)
abbrev oG (n:Nat) (l:aA YC):Nat×PV:=(n,jY l)
abbrev eQ (n:Nat) (l:aA YE):Nat×PV:=(n,mH l)
abbrev sO (n:Nat) (l:aA YD):Nat×PV:=(n,nK l)
abbrev mK (n:Nat) (l:aA YB):Nat×PV:=(n,lE l)
abbrev yT (n:Nat) (l:aA YZ):Nat×PV:=(n,jZ l)
abbrev vR (n:Nat) (l:aA YL):Nat×PV:=(n,sN l)
abbrev aT (n:Nat) (l:aA YM):Nat×PV:=(n,kH l)
abbrev kA (n:Nat) (l:aA YJ):Nat×PV:=(n,Hb l)
abbrev sP (n:Nat) (l:aA YH):Nat×PV:=(n,rJ l)
abbrev kL (n:Nat) (l:aA YN):Nat×PV:=(n,dT l)
abbrev wQ (n:Nat) (l:aA YF):Nat×PV:=(n,Aq l)
abbrev kO (n:Nat) (l:aA YY):Nat×PV:=(n,mY l)
abbrev pS (n:Nat) (l:aA YT):Nat×PV:=(n,dQ l)
abbrev jO (n:Nat) (l:aA YU):Nat×PV:=(n,iR l)
abbrev cU (n:Nat) (l:aA YO):Nat×PV:=(n,mI l)
abbrev aG1 (n:Nat) (l:aA UInt8):Nat×PV:=(n,Ha l)
abbrev uH (n:Nat) (l:aA Int):Nat×PV:=(n,oK l)
abbrev dG (n:Nat) (x:YW):Nat×dX:=(n,fW1 x)
abbrev lY (n:Nat) (x:YG):Nat×dX:=(n,Hc x)
abbrev eR (n:Nat) (x:YE):Nat×dX:=(n,Zz x)
abbrev dE (n:Nat) (x:YZ):Nat×dX:=(n,wR1 x)
abbrev bB (n:Nat) (x:YL):Nat×dX:=(n,Lt x)
abbrev aR (n:Nat) (x:YM):Nat×dX:=(n,Qq x)
abbrev sQ (n:Nat) (x:YX):Nat×dX:=(n,aA1 x)
abbrev Av (n:Nat) (x:YJ):Nat×dX:=(n,fX1 x)
abbrev pT (n:Nat) (x:YH):Nat×dX:=(n,aB1 x)
abbrev aL (n:Nat) (x:Y0):Nat×dX:=(n,aC1 x)
abbrev bM (n:Nat) (x:YP):Nat×dX:=(n,Hd x)
abbrev yU (n:Nat) (x:YN):Nat×dX:=(n,Qr x)
abbrev fL (n:Nat) (x:YY):Nat×dX:=(n,Lu x)
abbrev jP (n:Nat) (x:YU):Nat×dX:=(n,Tx x)
abbrev He (n:Nat) (x:YA):Nat×dX:=(n,aD1 x)
abbrev cN (n:Nat) (x:YO):Nat×dX:=(n,aE1 x)
abbrev Qt (n:Nat):Int⊕Unit->Ex×Mt:=fun|.inl v=>rq [aU n v] []|.inr _=>xq 0 [] []
abbrev bD2:Nat×dX:=(1,.box [i64 0,i64 0,i64 0,i64 0,i64 0,.v (.slice none 0 0),.v (.slice none 0 0),i64 0,i64 0,i64 0,.v (.slice none 0 0),i64 0,i64 0])
abbrev mU1:Nat×dX:=(2,.box [bv false,i64 0,i64 0,i64 0,bv false,i64 0])
abbrev tB:Nat×dX:=(6,.box [.fn 26 [] [.ref 4 0]])
abbrev aH1:Nat×dX:=(18,.box [.undef,.undef])
def ig {α A B:Type} {f:A->aA PV} {l:aA A} {i:Int} {b:Bool} {K:aA PV->aB α} {F:A->aB B} {Y:aB α} {FY:aB B} {enc:B->α} (hk:∀y,K (f y)=(F y).map enc) (hy:Y=FY.map enc:=by rfl):Om b (cM (wF (l.map f) i) K) Y=(if b then(cC l i).bind F else FY).map enc:=io (bo rg hk) hy
variable {k:Bool} (d:Nat)
def fY1 (x1:Int):aB Bool:=
 some ((decide (x1<32))||(x1==127))
def bE2 (x1:Int):OD k (d+1) 164 [.v (.int .u8 x1)]=(fY1 x1).map bv:=oe rfl<|by
 refine bz (kG rfl) ?_;rfl
def mV1 (x1:aA UInt8):aB Int:=
 (aW (E:=Int⊕Unit) (fun(a:Int)=>dH x1 a (fun b=>(fY1 (b.toNat:Int)).bind fun c=>if c then some (.inr (.inl a))else some (.inl (bN (a+1)))) (some (.inr (.inr ())))) bP 0).bind fun d=>(match d with|.inl x7=>some x7|.inr _=>some (-1))
def bF2 (x1:aA UInt8):OD k (d+2) 230 [Ha x1,.fn 164 [] []]=(mV1 x1).map i64:=oe rfl<|by
 refine bz lm ?_;refine bo (aM (S:=Int) (enc:=fun a=>(Q [aG1 0 x1,(1,.fn 164 [] []),cH 7 x1,aU 8 a] [])) (encE:=Qt 4) (fun a=>?_) bP 0) fun c=>?_;refine ig fun b=>?_;refine bo (bE2 d (b.toNat:Int)) fun e=>?_;refine io rfl rfl;rcases c with f|_;rfl;rfl
def aI1 (x1:aA UInt8):aB Bool:=
 (mV1 x1).bind fun a=>some (decide (a>=0))
def bG2 (x1:aA UInt8):OD k (d+3) 165 [Ha x1,.fn 164 [] []]=(aI1 x1).map bv:=oe rfl<|by
 refine bo (bF2 d x1) fun a=>?_;rfl
def F99 (x1:ByteArray):aB Bool:=
 ((if decide ((x1.size:Int)<=256)then(aI1 x1.data.toList).bind fun a=>some (!a)else some false:aB (Bool))).bind fun b=>some b
def wS1 (x1:ByteArray):OD k (d+4) 99 [.v (.string x1)]=(F99 x1).map bv:=oe rfl<|by
 refine bo (e:=id) ?_ fun b=>?_;refine io ?_ rfl;refine bo (bG2 d x1.data.toList) fun a=>?_;rfl;rfl
def qQ (x1 a b:Int):aB Bool:=
 some ((decide (x1>=a))&&(decide (x1<=b)))
def nZ (x1 a b:Int):OD k (d+1) 100 [i64 x1,i64 a,i64 b]=(qQ x1 a b).map bv:=oe rfl<|by
 refine bz (jR rfl) ?_;rfl
def F23 (x1:YL):aB Int:=
 if(((decide (x1.eH<(-77)))||(decide (x1.eH>77)))||(decide (x1.bK<(-140))))||(decide (x1.bK>140))then some 2 else some 0
def mW1 (x1:YL):OD k (d+1) 23 [fQ x1]=(F23 x1).map i64:=oe rfl<|by
 refine bz (kG rfl) ?_;refine bz (kG rfl) ?_;refine bz (kG rfl) ?_;refine io rfl rfl
def nA (x1:Bool) (b:YZ) (a:aA YV) (f:Y0) (c:Int):aB (aA YV):=
 ((if x1 then(nE false a [(YV.mk c b)]).bind fun d=>some d else some a:aB (aA YV))).bind fun e=>some e
def lG (x1:Bool) (b:YZ) (f:aA YV) (c:Y0) (a:Int):gY (XD k (d+1)) 98 [.ref 1 0,bv x1,Lw b] (cL f c a) 3 false=(nA x1 b f c a).map (fun(i:aA YV)=>((.tup [],(cL i c a),0))):=by
 rw[xd (fn:=p98) rfl];refine bo (e:=(fun(h:aA YV)=>(nq [] (dE 3 b::cL h c a)))) ?_ fun h=>?_;refine io ?_ rfl;refine bo (dO false YV.g f [(YV.mk a b)]) fun j=>?_;rfl;rfl
def Ty (x1:aA YV) (a:Y0) (u:Int):aB (aA YV):=
 (aW (E:=aA YV) (fun(⟨e,f⟩:Int×(aA YV))=>dH a.cD e (fun b=>(F99 b.zA).bind fun n=>((if !n then some true else(qQ (b.eG.length:Int) 1 4).bind fun o=>some (!o):aB (Bool))).bind fun p=>((if p then some true else(F23 b.jK).bind fun q=>some (q !=0):aB (Bool))).bind fun r=>(nA r b.ID f a u).bind fun s=>some (.inl ((bN (e+1)),s))) (some (.inr f))) bP (0,x1)).bind fun t=>(aW (E:=aA YV) (fun(⟨g,h⟩:Int×(aA YV))=>dH a.aE g (fun c=>(F99 c.cA).bind fun v=>(aW (E:=Bool) (fun(⟨i,j⟩:Bool×Int)=>dH c.aQ j (fun d=>(aW (E:=Bool) (fun(⟨k,l⟩:Bool×Int)=>dH d.aO l (fun m=>some (.inl (((k||(decide ((m.aX.length:Int)>128)))||(decide ((m.eJ.length:Int)>16))),(bN (l+1))))) (some (.inr k))) bP (((i||(decide ((d.jG.length:Int)>64)))||(decide ((d.aO.length:Int)>2))),0)).bind fun w=>some (.inl (w,(bN (j+1))))) (some (.inr i))) bP (((!v)||(decide ((c.eS.length:Int)>64))),0)).bind fun x=>(nA x c.ID h a u).bind fun y=>some (.inl ((bN (g+1)),y))) (some (.inr h))) bP (0,t)).bind fun z=>(F99 a.hJ).bind fun A=>((if !A then some true else(qQ (a.cD.length:Int) 1 32).bind fun B=>some (!B):aB (Bool))).bind fun C=>((if C then some true else(qQ (a.aE.length:Int) 1 1024).bind fun D=>some (!D):aB (Bool))).bind fun F=>(nA ((F||(decide ((a.bU.length:Int)>4096)))||(decide ((a.kV.length:Int)>100))) (YZ.mk 0 0) z a u).bind fun G=>some G
def bH2 (x1:aA YV) (a:Y0) (f:Int):gY (XD k (d+5)) 56 [.ref 1 0] (cL x1 a f) 3 false=(Ty x1 a f).map (fun(x:aA YV)=>((.tup [],(cL x a f),0))):=by
 rw[xd (fn:=p56) rfl];refine bz lm ?_;refine bo (aM (S:=Int×(aA YV)) (enc:=fun⟨q,l⟩=>(Q [bF 0 1,kA 15 a.cD,cH 16 a.cD,aU 17 q] (cL l a f))) (encE:=(fun(m:aA YV)=>(xq 0 [bF 0 1] (cL m a f)))) (fun⟨q,l⟩=>?_) bP (0,x1)) fun m=>?_;refine ig fun i=>?_;refine bo (wS1 d i.zA) fun y=>?_;refine bo (e:=id) ?_ fun A=>?_;refine io rfl ?_;refine bz lm ?_;refine bo (nZ (d+3) (i.eG.length:Int) 1 4) fun z=>?_;rfl;refine bo (e:=id) ?_ fun u=>?_;refine io rfl ?_;refine bo (mW1 (d+3) i.jK) fun B=>?_;rfl;refine bo (lG (d+3) u i.ID l a f) fun C=>?_;rfl;refine bz lm ?_;refine bo (aM (S:=Int×(aA YV)) (enc:=fun⟨g,c⟩=>(Q [bF 0 1,aT 47 a.aE,cH 48 a.aE,aU 49 g] (cL c a f))) (encE:=(fun(p:aA YV)=>(xq 2 [bF 0 1] (cL p a f)))) (fun⟨g,c⟩=>?_) bP (0,m)) fun p=>?_;refine ig fun b=>?_;refine bo (wS1 d b.cA) fun v=>?_;refine bz (kG (bz lm rfl)) ?_;refine bz lm ?_;refine bo (aM (S:=Bool×Int) (enc:=fun⟨n,j⟩=>(Q [bF 0 1,bF 5 3,(6,bv n),aT 47 a.aE,cH 48 a.aE,aU 49 g,cG 64 b.aQ,cH 65 b.aQ,aU 66 j] (aR 3 b::cL c a f))) (encE:=(fun(o:Bool)=>(xq 4 [bF 0 1,bF 5 3,(6,bv o),aT 47 a.aE,cH 48 a.aE,aU 49 g] (aR 3 b::cL c a f)))) (fun⟨n,j⟩=>?_) bP (((!v)||(decide ((b.eS.length:Int)>64))),0)) fun o=>?_;refine ig fun h=>?_;refine bz (kG (bz lm rfl)) ?_;refine bz (kG (bz lm rfl)) ?_;refine bz lm ?_;refine bo (aM (S:=Bool×Int) (enc:=fun⟨r,s⟩=>(Q [bF 0 1,bF 5 3,(6,bv r),aT 47 a.aE,cH 48 a.aE,aU 49 g,cG 64 b.aQ,cH 65 b.aQ,aU 66 j,cU 84 h.aO,cH 85 h.aO,aU 86 s] (dG 4 h::aR 3 b::cL c a f))) (encE:=(fun(t:Bool)=>(xq 6 [bF 0 1,bF 5 3,(6,bv t),aT 47 a.aE,cH 48 a.aE,aU 49 g,cG 64 b.aQ,cH 65 b.aQ,aU 66 j] (dG 4 h::aR 3 b::cL c a f)))) (fun⟨r,s⟩=>?_) bP (((n||(decide ((h.jG.length:Int)>64)))||(decide ((h.aO.length:Int)>2))),0)) fun t=>?_;refine ig fun D=>?_;refine bz (kG (bz lm rfl)) ?_;refine bz (kG (bz lm rfl)) ?_;rfl;rfl;refine bo (lG (d+3) o b.ID c a f) fun E=>?_;rfl;refine bo (wS1 d a.hJ) fun F=>?_;refine bo (e:=id) ?_ fun H=>?_;refine io rfl ?_;refine bz lm ?_;refine bo (nZ (d+3) (a.cD.length:Int) 1 32) fun G=>?_;rfl;refine bo (e:=id) ?_ fun w=>?_;refine io rfl ?_;refine bz lm ?_;refine bo (nZ (d+3) (a.aE.length:Int) 1 1024) fun J=>?_;rfl;refine bz (kG (bz lm rfl)) ?_;refine bz (kG (bz lm rfl)) ?_;refine bo (lG (d+3) ((w||(decide ((a.bU.length:Int)>4096)))||(decide ((a.kV.length:Int)>100))) (YZ.mk 0 0) p a f) fun K=>?_;rfl
def Wv (x1:Y0):aB Unit:=
 some ()
def wT1 (x1:Y0):gY (XD k (d+1)) 166 [.ref 0 0] [aL 0 x1] 3 true=(Wv x1).map (fun(_:Unit)=>((.fn 231 [] [.ref 3 0],[(3,.box [.ref 0 0]),aL 0 x1],4))):=by
 rw[xd (fn:=wM1) rfl];rfl
def Dd (x1 d:Int) (e f:Int) (g h i:Int) (b:YJ) (c:aA YZ):aB (aA YZ):=
 (nE false c [b.ID]).bind fun a=>some a
def gA1 (x1 e:Int) (f h:Int) (i j l:Int) (b:YJ) (c:aA YZ):Fl (XD k (d+1)) 4 [.agg [i64 x1,i64 e,i64 f,i64 h,i64 i,i64 j,i64 l],Qs b] [(4,.loop 16 [bF 3 1] [7,8] fI fJ false none),(2,.lst 38 2 false (I YZ.g c)),(1,.box [.own 2])] 5=(Dd x1 e f h i j l b c).map (fun(a:aA YZ)=>((bv true,[(4,.loop 16 [bF 3 1] [7,8] fI fJ false none),(2,.lst 38 2 false (I YZ.g a)),(1,.box [.own 2])],0))):=by
 rw[yd];refine bz (okg rI) ?_;refine bo (dO false YZ.g c [b.ID]) fun m=>?_;rfl
def uZ (x1 d:Int) (e f:Int) (g h i:Int) (b:YF) (c:aA YZ):aB (aA YZ):=
 (nE false c [b.ID]).bind fun a=>some a
def Tz (x1 e:Int) (f h:Int) (i j l:Int) (b:YF) (c:aA YZ):Fl (XD k (d+1)) 4 [.agg [i64 x1,i64 e,i64 f,i64 h,i64 i,i64 j,i64 l],Jx b] [(4,.loop 16 [bF 3 1] [7,8] fI fJ false none),(2,.lst 38 2 false (I YZ.g c)),(1,.box [.own 2])] 5=(uZ x1 e f h i j l b c).map (fun(a:aA YZ)=>((bv true,[(4,.loop 16 [bF 3 1] [7,8] fI fJ false none),(2,.lst 38 2 false (I YZ.g a)),(1,.box [.own 2])],0))):=by
 rw[yd];refine bz (okg rI) ?_;refine bo (dO false YZ.g c [b.ID]) fun m=>?_;rfl
def vA (x1 d:Int) (e f:Int) (g h i:Int) (b:YM) (c:aA YZ):aB (aA YZ):=
 (nE false c [b.ID]).bind fun a=>some a
def Ua (x1 e:Int) (f h:Int) (i j l:Int) (b:YM) (c:aA YZ):Fl (XD k (d+1)) 4 [.agg [i64 x1,i64 e,i64 f,i64 h,i64 i,i64 j,i64 l],mJ b] [(4,.loop 16 [bF 3 1] [7,8] fI fJ false none),(2,.lst 38 2 false (I YZ.g c)),(1,.box [.own 2])] 5=(vA x1 e f h i j l b c).map (fun(a:aA YZ)=>((bv true,[(4,.loop 16 [bF 3 1] [7,8] fI fJ false none),(2,.lst 38 2 false (I YZ.g a)),(1,.box [.own 2])],0))):=by
 rw[yd];refine bz (okg rI) ?_;refine bo (dO false YZ.g c [b.ID]) fun m=>?_;rfl
def vB (x1 d:Int) (e f:Int) (g h i:Int) (b:YE) (c:aA YZ):aB (aA YZ):=
 (nE false c [b.ID]).bind fun a=>some a
def Ub (x1 e:Int) (f h:Int) (i j l:Int) (b:YE) (c:aA YZ):Fl (XD k (d+1)) 4 [.agg [i64 x1,i64 e,i64 f,i64 h,i64 i,i64 j,i64 l],Jw b] [(4,.loop 16 [bF 3 1] [7,8] fI fJ false none),(2,.lst 38 2 false (I YZ.g c)),(1,.box [.own 2])] 5=(vB x1 e f h i j l b c).map (fun(a:aA YZ)=>((bv true,[(4,.loop 16 [bF 3 1] [7,8] fI fJ false none),(2,.lst 38 2 false (I YZ.g a)),(1,.box [.own 2])],0))):=by
 rw[yd];refine bz (okg rI) ?_;refine bo (dO false YZ.g c [b.ID]) fun m=>?_;rfl
def vC (x1 d:Int) (e f:Int) (g h i:Int) (b:YN) (c:aA YZ):aB (aA YZ):=
 (nE false c [b.ID]).bind fun a=>some a
def Uc (x1 e:Int) (f h:Int) (i j l:Int) (b:YN) (c:aA YZ):Fl (XD k (d+1)) 4 [.agg [i64 x1,i64 e,i64 f,i64 h,i64 i,i64 j,i64 l],Bz b] [(4,.loop 16 [bF 3 1] [7,8] fI fJ false none),(2,.lst 38 2 false (I YZ.g c)),(1,.box [.own 2])] 5=(vC x1 e f h i j l b c).map (fun(a:aA YZ)=>((bv true,[(4,.loop 16 [bF 3 1] [7,8] fI fJ false none),(2,.lst 38 2 false (I YZ.g a)),(1,.box [.own 2])],0))):=by
 rw[yd];refine bz (okg rI) ?_;refine bo (dO false YZ.g c [b.ID]) fun m=>?_;rfl
def Ww (x1:Y0) (W:aA YZ):aB (aA YZ):=
 (aW (E:=aA YZ) (fun(⟨L,e,w⟩:Int×Int×(aA YZ))=>dH x1.cD e (fun M=>(Dd 1 e 0 0 0 0 0 M w).bind fun N=>(cC x1.cD e).bind fun O=>(aW (E:=Int×(aA YZ)) (fun(⟨l,m,K⟩:Int×Int×(aA YZ))=>if decide (m<(O.eG.length:Int))then(cC x1.cD e).bind fun P=>(cC P.eG m).bind fun R=>(uZ 2 0 l 0 0 0 0 R K).bind fun S=>some (.inl ((bN (l+1)),(bN (m+1)),S))else some (.inr (l,K))) bP (L,0,N)).bind fun⟨T,U⟩=>some (.inl (T,(bN (e+1)),U))) (some (.inr w))) bP (0,0,W)).bind fun V=>(aW (E:=aA YZ) (fun(⟨a,g⟩:Int×(aA YZ))=>dH x1.aE a (fun n=>(vA 3 0 0 a 0 0 0 n g).bind fun o=>(cC x1.aE a).bind fun p=>(aW (E:=aA YZ) (fun(⟨b,h⟩:Int×(aA YZ))=>if decide (b<(p.aQ.length:Int))then(cC x1.aE a).bind fun q=>(cC q.aQ b).bind fun r=>(aW (E:=aA YZ) (fun(⟨c,i⟩:Int×(aA YZ))=>if decide (c<(r.aO.length:Int))then(cC x1.aE a).bind fun s=>(cC s.aQ b).bind fun t=>(cC t.aO c).bind fun u=>(aW (E:=aA YZ) (fun(⟨d,j⟩:Int×(aA YZ))=>if decide (d<(u.aX.length:Int))then(cC x1.aE a).bind fun v=>(cC v.aQ b).bind fun x=>(cC x.aO c).bind fun y=>(cC y.aX d).bind fun z=>(vB 4 0 b a c d 0 z j).bind fun A=>some (.inl ((bN (d+1)),A))else some (.inr j)) bP (0,i)).bind fun B=>some (.inl ((bN (c+1)),B))else some (.inr i)) bP (0,h)).bind fun C=>some (.inl ((bN (b+1)),C))else some (.inr h)) bP (0,o)).bind fun D=>some (.inl ((bN (a+1)),D))) (some (.inr g))) bP (0,V)).bind fun F=>(aW (E:=aA YZ) (fun(⟨f,k⟩:Int×(aA YZ))=>dH x1.bU f (fun G=>(vC 5 0 0 0 0 0 f G k).bind fun H=>some (.inl ((bN (f+1)),H))) (some (.inr k))) bP (0,F)).bind fun J=>some J
def wU1 (x1:Y0) (K:aA YZ):gY (XD k (d+2)) 231 [.yld 4,.ref 3 0] [(4,.loop 16 [bF 3 1] [7,8] fI fJ false none),(3,.box [.ref 0 0]),aL 0 x1,(2,.lst 38 2 false (I YZ.g K)),(1,.box [.own 2])] 5 false=(Ww x1 K).map (fun(F:aA YZ)=>((.tup [],[(4,.loop 16 [bF 3 1] [7,8] fI fJ false none),(3,.box [.ref 0 0]),aL 0 x1,(2,.lst 38 2 false (I YZ.g F)),(1,.box [.own 2])],0))):=by
 rw[xd (fn:=wP1) rfl];refine bz lm ?_;refine bo (aM (S:=Int×Int×(aA YZ)) (enc:=fun⟨v,f,w⟩=>(Q [(0,.yld 4),bF 1 3,aU 3 v,cH 15 x1.cD,aU 16 f] [(4,.loop 16 [bF 3 1] [7,8] fI fJ false none),(3,.box [.ref 0 0]),aL 0 x1,(2,.lst 38 2 false (I YZ.g w)),(1,.box [.own 2])])) (encE:=(fun(z:aA YZ)=>(xq 0 [(0,.yld 4),bF 1 3] [(4,.loop 16 [bF 3 1] [7,8] fI fJ false none),(3,.box [.ref 0 0]),aL 0 x1,(2,.lst 38 2 false (I YZ.g z)),(1,.box [.own 2])]))) (fun⟨v,f,w⟩=>?_) bP (0,0,K)) fun z=>?_;refine ig fun L=>?_;refine bo (gA1 d 1 f 0 0 0 0 0 L w) fun M=>?_;refine bo rg fun N=>?_;refine bz lm ?_;refine bo (aM (S:=Int×Int×(aA YZ)) (enc:=fun⟨x,G,y⟩=>(Q [(0,.yld 4),bF 1 3,aU 3 x,aU 4 f,cH 15 x1.cD,aU 16 f,cH 39 N.eG,aU 40 G] [(4,.loop 16 [bF 3 1] [7,8] fI fJ false none),(2,.lst 38 2 false (I YZ.g y)),(1,.box [.own 2]),(3,.box [.ref 0 0]),aL 0 x1])) (encE:=(fun(⟨H,J⟩:Int×(aA YZ))=>(xq 2 [(0,.yld 4),bF 1 3,aU 3 H,cH 15 x1.cD,aU 16 f] [(4,.loop 16 [bF 3 1] [7,8] fI fJ false none),(2,.lst 38 2 false (I YZ.g J)),(1,.box [.own 2]),(3,.box [.ref 0 0]),aL 0 x1]))) (fun⟨x,G,y⟩=>?_) bP (v,0,M)) fun⟨H,J⟩=>?_;refine ig fun Z=>?_;refine bo rg fun O=>?_;refine bo (Tz d 2 0 x 0 0 0 0 O y) fun b0=>?_;rfl;rfl;refine bz lm ?_;refine bo (aM (S:=Int×(aA YZ)) (enc:=fun⟨a,h⟩=>(Q [(0,.yld 4),bF 1 3,cH 67 x1.aE,aU 68 a] [(4,.loop 16 [bF 3 1] [7,8] fI fJ false none),(3,.box [.ref 0 0]),aL 0 x1,(2,.lst 38 2 false (I YZ.g h)),(1,.box [.own 2])])) (encE:=(fun(o:aA YZ)=>(xq 4 [(0,.yld 4),bF 1 3] [(4,.loop 16 [bF 3 1] [7,8] fI fJ false none),(3,.box [.ref 0 0]),aL 0 x1,(2,.lst 38 2 false (I YZ.g o)),(1,.box [.own 2])]))) (fun⟨a,h⟩=>?_) bP (0,z)) fun o=>?_;refine ig fun A=>?_;refine bo (Ua d 3 0 0 a 0 0 0 A h) fun B=>?_;refine bo rg fun e=>?_;refine bz lm ?_;refine bo (aM (S:=Int×(aA YZ)) (enc:=fun⟨b,i⟩=>(Q [(0,.yld 4),bF 1 3,aU 6 a,cH 67 x1.aE,aU 68 a,cH 91 e.aQ,aU 92 b] [(4,.loop 16 [bF 3 1] [7,8] fI fJ false none),(2,.lst 38 2 false (I YZ.g i)),(1,.box [.own 2]),(3,.box [.ref 0 0]),aL 0 x1])) (encE:=(fun(t:aA YZ)=>(xq 6 [(0,.yld 4),bF 1 3,cH 67 x1.aE,aU 68 a] [(4,.loop 16 [bF 3 1] [7,8] fI fJ false none),(2,.lst 38 2 false (I YZ.g t)),(1,.box [.own 2]),(3,.box [.ref 0 0]),aL 0 x1]))) (fun⟨b,i⟩=>?_) bP (0,B)) fun t=>?_;refine ig fun P=>?_;refine bo rg fun j=>?_;refine bz lm ?_;refine bo (aM (S:=Int×(aA YZ)) (enc:=fun⟨c,l⟩=>(Q [(0,.yld 4),bF 1 3,aU 6 a,aU 7 b,cH 67 x1.aE,aU 68 a,cH 91 e.aQ,aU 92 b,cH 107 j.aO,aU 108 c] [(4,.loop 16 [bF 3 1] [7,8] fI fJ false none),(2,.lst 38 2 false (I YZ.g l)),(1,.box [.own 2]),(3,.box [.ref 0 0]),aL 0 x1])) (encE:=(fun(s:aA YZ)=>(xq 8 [(0,.yld 4),bF 1 3,aU 6 a,cH 67 x1.aE,aU 68 a,cH 91 e.aQ,aU 92 b] [(4,.loop 16 [bF 3 1] [7,8] fI fJ false none),(2,.lst 38 2 false (I YZ.g s)),(1,.box [.own 2]),(3,.box [.ref 0 0]),aL 0 x1]))) (fun⟨c,l⟩=>?_) bP (0,i)) fun s=>?_;refine ig fun R=>?_;refine bo rg fun T=>?_;refine bo rg fun C=>?_;refine bz lm ?_;refine bo (aM (S:=Int×(aA YZ)) (enc:=fun⟨m,n⟩=>(Q [(0,.yld 4),bF 1 3,aU 6 a,aU 7 b,aU 8 c,cH 67 x1.aE,aU 68 a,cH 91 e.aQ,aU 92 b,cH 107 j.aO,aU 108 c,cH 127 C.aX,aU 128 m] [(4,.loop 16 [bF 3 1] [7,8] fI fJ false none),(2,.lst 38 2 false (I YZ.g n)),(1,.box [.own 2]),(3,.box [.ref 0 0]),aL 0 x1])) (encE:=(fun(r:aA YZ)=>(xq 10 [(0,.yld 4),bF 1 3,aU 6 a,aU 7 b,cH 67 x1.aE,aU 68 a,cH 91 e.aQ,aU 92 b,cH 107 j.aO,aU 108 c] [(4,.loop 16 [bF 3 1] [7,8] fI fJ false none),(2,.lst 38 2 false (I YZ.g r)),(1,.box [.own 2]),(3,.box [.ref 0 0]),aL 0 x1]))) (fun⟨m,n⟩=>?_) bP (0,l)) fun r=>?_;refine ig fun U=>?_;refine bo rg fun V=>?_;refine bo rg fun W=>?_;refine bo rg fun D=>?_;refine bo (Ub d 4 0 b a c m 0 D n) fun X=>?_;rfl;rfl;rfl;rfl;refine bz lm ?_;refine bo (aM (S:=Int×(aA YZ)) (enc:=fun⟨p,q⟩=>(Q [(0,.yld 4),bF 1 3,cH 166 x1.bU,aU 167 p] [(4,.loop 16 [bF 3 1] [7,8] fI fJ false none),(3,.box [.ref 0 0]),aL 0 x1,(2,.lst 38 2 false (I YZ.g q)),(1,.box [.own 2])])) (encE:=(fun(u:aA YZ)=>(xq 12 [] [(4,.loop 16 [bF 3 1] [7,8] fI fJ false none),(3,.box [.ref 0 0]),aL 0 x1,(2,.lst 38 2 false (I YZ.g u)),(1,.box [.own 2])]))) (fun⟨p,q⟩=>?_) bP (0,o)) fun u=>?_;refine ig fun E=>?_;refine bo (Uc d 5 0 0 0 0 0 p E q) fun Y=>?_;rfl;rfl
def mX1 (x1:Y0):aB (aA YZ):=
 (Wv x1).bind fun _=>(Ww x1 []).bind fun a=>some a
def bI2 (x1:Y0):OD k (d+3) 101 [eW x1]=(mX1 x1).map (fun a=>jZ a):=oe rfl<|by
 refine bo (wT1 (d+1) x1) fun _=>?_;refine bo (wU1 d x1 []) fun b=>?_;rfl
def gB1 (x1:YZ):aB Bool:=
 (qQ x1.fS 0 99).bind fun a=>((if a then(qQ x1.cO 1 1073741824).bind fun b=>some b else some false:aB (Bool))).bind fun c=>some c
def tF1 (x1:YZ):OD k (d+2) 102 [Lw x1]=(gB1 x1).map bv:=oe rfl<|by
 refine bo (nZ d x1.fS 0 99) fun a=>?_;refine bo (e:=id) ?_ fun c=>?_;refine io ?_ rfl;refine bo (nZ d x1.cO 1 1073741824) fun b=>?_;rfl;rfl
def mY1 (x1:Y0) (c:Int):aB Int:=
 (aW (E:=Int⊕Unit) (fun(a:Int)=>dH x1.kV a (fun b=>if b.fS==c then some (.inr (.inl b.cO))else some (.inl (bN (a+1)))) (some (.inr (.inr ())))) bP 0).bind fun d=>(match d with|.inl x6=>some x6|.inr _=>some 0)
def bJ2 (x1:Y0) (a:Int):OD k (d+1) 103 [eW x1,i64 a]=(mY1 x1 a).map i64:=oe rfl<|by
 refine bz lm ?_;refine bo (aM (S:=Int) (enc:=fun b=>(Q [aU 1 a,yT 8 x1.kV,cH 9 x1.kV,aU 10 b] [aL 0 x1])) (encE:=(fun|.inl c=>(rq [aU 4 c] [aL 0 x1])|.inr _=>(xq 0 [] [aL 0 x1]))) (fun b=>?_) bP 0) fun e=>?_;refine ig fun f=>?_;refine io rfl rfl;rcases e with c|_;rfl;rfl
def gC1 (x1:aA YV) (d:Y0) (u:Int):aB (aA YV):=
 (mX1 d).bind fun w=>(aW (E:=(aA (YZ×Bool))×(aA YV)) (fun(⟨e,c,f⟩:Int×(aA (YZ×Bool))×(aA YV))=>dH w e (fun a=>(gB1 a).bind fun i=>((if(!i)||(mO1 c a false)then some true else(mY1 d a.fS).bind fun j=>some (decide (a.cO>j)):aB (Bool))).bind fun k=>(nA k a f d u).bind fun l=>some (.inl ((bN (e+1)),(Zu c a true),l))) (some (.inr (c,f)))) bP (0,[],x1)).bind fun⟨v,m⟩=>(aW (E:=Bool) (fun(⟨g,b⟩:Bool×Int)=>dH d.kV b (fun h=>((if g then some true else(gB1 h).bind fun n=>some (!n):aB (Bool))).bind fun o=>((if o then some true else((if decide (b>0)then(cC d.kV (bN (b-1))).bind fun p=>some (decide (h.fS<=p.fS))else some false:aB (Bool))).bind fun q=>some q:aB (Bool))).bind fun r=>some (.inl (r,(bN (b+1))))) (some (.inr g))) bP (false,0)).bind fun s=>(nA s (YZ.mk 0 0) m d u).bind fun t=>some t
def bK2 (x1:aA YV) (a:Y0) (i:Int):gY (XD k (d+4)) 57 [.ref 1 0] (cL x1 a i) 3 false=(gC1 x1 a i).map (fun(r:aA YV)=>((.tup [],(cL r a i),0))):=by
 rw[xd (fn:=p57) rfl];refine bo (bI2 d a) fun s=>?_;refine bz lm ?_;refine bo (aM (S:=Int×(aA (YZ×Bool))×(aA YV)) (enc:=fun⟨m,f,j⟩=>(Q [bF 0 1,(2,.map 3),yT 13 s,cH 14 s,aU 15 m] ((3,.mp (I (kQ (eA YZ.g) bv) f))::cL j a i))) (encE:=(fun(⟨h,c⟩:(aA (YZ×Bool))×(aA YV))=>(xq 0 [bF 0 1] ((3,.mp (I (kQ (eA YZ.g) bv) h))::cL c a i)))) (fun⟨m,f,j⟩=>?_) bP (0,[],x1)) fun⟨h,c⟩=>?_;refine ig fun b=>?_;refine bo (tF1 (d+1) b) fun t=>?_;refine bz (kG (bz (Gx Wu bv f b false) rfl)) ?_;refine bo (e:=id) ?_ fun p=>?_;refine io rfl ?_;refine bo (bJ2 (d+2) a b.fS) fun u=>?_;rfl;refine bo (lG (d+2) p b j a i) fun v=>?_;refine bz (sL Wu bv f b true) ?_;rfl;refine bz lm ?_;refine bo (aM (S:=Bool×Int) (enc:=fun⟨n,o⟩=>(Q [bF 0 1,(5,bv n),yT 49 a.kV,cH 50 a.kV,aU 51 o] ((3,.mp (I (kQ (eA YZ.g) bv) h))::cL c a i))) (encE:=(fun(l:Bool)=>(xq 2 [bF 0 1,(5,bv l)] ((3,.mp (I (kQ (eA YZ.g) bv) h))::cL c a i)))) (fun⟨n,o⟩=>?_) bP (false,0)) fun l=>?_;refine ig fun q=>?_;refine bo (e:=id) ?_ fun x=>?_;refine io rfl ?_;refine bo (tF1 (d+1) q) fun w=>?_;rfl;refine bo (e:=id) ?_ fun A=>?_;refine io rfl ?_;refine bo (e:=id) ?_ fun z=>?_;refine ig fun y=>?_;rfl;rfl;rfl;refine bo (lG (d+2) l (YZ.mk 0 0) c a i) fun B=>?_;rfl
def F46 (x1:Y0):aB Int:=
 (aW (E:=Int) (fun(⟨a,b⟩:Int×Int)=>dH x1.cD b (fun c=>some (.inl ((bN (a+(c.eG.length:Int))),(bN (b+1))))) (some (.inr a))) bP (0,0)).bind fun d=>some d
def bL2 (x1:Y0):OD k (d+1) 46 [eW x1]=(F46 x1).map i64:=oe rfl<|by
 refine bz lm ?_;refine bo (aM (S:=Int×Int) (enc:=fun⟨a,b⟩=>(Q [aU 3 a,kA 7 x1.cD,cH 8 x1.cD,aU 9 b] [aL 0 x1])) (encE:=(fun(c:Int)=>(xq 0 [aU 3 c] [aL 0 x1]))) (fun⟨a,b⟩=>?_) bP (0,0)) fun c=>?_;refine ig fun e=>?_;refine bz lm ?_;rfl;rfl
def aJ1 (x1:Int) (m:YM) (n:Int):aB Bool:=
 (aW (E:=Bool) (fun(⟨b,c⟩:Bool×Int)=>dH m.aQ c (fun a=>((if b||((a.aO.length:Int)==0)then some true else(cC a.aO 0).bind fun g=>some ((g.aX.length:Int)==0):aB (Bool))).bind fun h=>((if h then some true else(cC a.aO (bN ((a.aO.length:Int)-1))).bind fun i=>some ((i.aX.length:Int)==0):aB (Bool))).bind fun j=>(aW (E:=Bool) (fun(⟨d,e⟩:Bool×Int)=>dH a.aO e (fun f=>some (.inl ((d||(((f.aX.length:Int)==0)&&(decide ((f.eJ.length:Int)>0)))),(bN (e+1))))) (some (.inr d))) bP (j,0)).bind fun k=>some (.inl (k,(bN (c+1))))) (some (.inr b))) bP (((m.aQ.length:Int)!=n),0)).bind fun l=>some l
def bM2 (x1:Int) (a:YM) (m:Int):OD k (d+1) 105 [i64 x1,eD a,.ip [i64 m]]=(aJ1 x1 a m).map bv:=oe rfl<|by
 refine bz lm ?_;refine bz lm ?_;refine bo (aM (S:=Bool×Int) (enc:=fun⟨f,b⟩=>(Q [(6,bv f),cG 18 a.aQ,cH 19 a.aQ,aU 20 b] [aR 0 a])) (encE:=(fun(j:Bool)=>(xq 0 [(6,bv j)] [aR 0 a]))) (fun⟨f,b⟩=>?_) bP (((a.aQ.length:Int)!=m),0)) fun j=>?_;refine ig fun c=>?_;refine bz (kG (bz lm rfl)) ?_;refine bo (e:=id) ?_ fun o=>?_;refine io rfl ?_;refine bo rg fun n=>?_;refine bz lm ?_;rfl;refine bo (e:=id) ?_ fun l=>?_;refine io rfl ?_;refine bz lm ?_;refine bo rg fun p=>?_;refine bz lm ?_;rfl;refine bz lm ?_;refine bo (aM (S:=Bool×Int) (enc:=fun⟨g,h⟩=>(Q [(6,bv g),cG 18 a.aQ,cH 19 a.aQ,aU 20 b,cU 51 c.aO,cH 52 c.aO,aU 53 h] [dG 1 c,aR 0 a])) (encE:=(fun(i:Bool)=>(xq 2 [(6,bv i),cG 18 a.aQ,cH 19 a.aQ,aU 20 b] [dG 1 c,aR 0 a]))) (fun⟨g,h⟩=>?_) bP (l,0)) fun i=>?_;refine ig fun q=>?_;refine bz (kG (bz lm (bz (jR (bz lm rfl)) rfl))) ?_;rfl;rfl;rfl
def Jy (x1:Int) (h:aA YV) (f:Y0) (i:Int):aB (aA YV):=
 (aW (E:=aA YV) (fun(⟨e,g⟩:Int×(aA YV))=>dH f.aE e (fun a=>(aJ1 e a x1).bind fun b=>(nA b a.ID g f i).bind fun c=>some (.inl ((bN (e+1)),c))) (some (.inr g))) bP (0,h)).bind fun d=>some d
def wW1 (x1:Int) (h:aA YV) (a:Y0) (b:Int):gY (XD k (d+2)) 104 [.ref 1 0,.fn 105 [] [.ref 3 0]] ((3,.box [i64 x1])::cL h a b) 4 false=(Jy x1 h a b).map (fun(g:aA YV)=>((.tup [],((3,.box [i64 x1])::cL g a b),0))):=by
 rw[xd (fn:=Lr) rfl];refine bz lm ?_;refine bo (aM (S:=Int×(aA YV)) (enc:=fun⟨i,j⟩=>(Q [bF 0 1,(1,.fn 105 [] [.ref 3 0]),aT 10 a.aE,cH 11 a.aE,aU 12 i] ((3,.box [i64 x1])::cL j a b))) (encE:=(fun(e:aA YV)=>(xq 0 [] ((3,.box [i64 x1])::cL e a b)))) (fun⟨i,j⟩=>?_) bP (0,h)) fun e=>?_;refine ig fun c=>?_;refine bo (bM2 d i c x1) fun f=>?_;refine bo (lG d f c.ID j a b) fun l=>?_;rfl;rfl
def aK1 (x1:aA YV) (a:Y0) (b:Int):aB (aA YV):=
 (F46 a).bind fun c=>(Jy c x1 a b).bind fun d=>some d
def bN2 (x1:aA YV) (a:Y0) (b:Int):gY (XD k (d+3)) 58 [.ref 1 0] (cL x1 a b) 3 false=(aK1 x1 a b).map (fun(e:aA YV)=>((.tup [],(cL e a b),0))):=by
 rw[xd (fn:=p58) rfl];refine bo (bL2 (d+1) a) fun c=>?_;refine bo (wW1 d c x1 a b) fun f=>?_;rfl
def mZ1:aB Y9:=
 some (Y9.mk (YI.mk (⟨#[116,114,101,98,108,101]⟩:ByteArray) 71 (-2) 0 34 (-1) (-3)) (YI.mk (⟨#[98,97,115,115]⟩:ByteArray) 70 2 0 22 (-3) (-5)) (YI.mk (⟨#[97,108,116,111]⟩:ByteArray) 67 0 0 28 (-2) (-4)) (YI.mk (⟨#[116,101,110,111,114]⟩:ByteArray) 67 2 0 26 (-2) (-2)) (YI.mk (⟨#[115,111,112,114,97,110,111]⟩:ByteArray) 67 (-4) 0 32 (-2) (-3)) (YI.mk (⟨#[109,101,122,122,111,115,111,112,114,97,110,111]⟩:ByteArray) 67 (-2) 0 30 (-2) (-3)) (YI.mk (⟨#[98,97,114,105,116,111,110,101]⟩:ByteArray) 70 0 0 24 (-2) (-3)) (YI.mk (⟨#[116,114,101,98,108,101,56]⟩:ByteArray) 71 (-2) (-1) 27 (-1) (-3)) (YI.mk (⟨#[98,97,115,115,56]⟩:ByteArray) 70 2 (-1) 15 (-3) (-5)))
def bO2:OD k (d+1) 232 []=(mZ1).map (fun a=>Cf a):=oe rfl<|by
 rfl
def nA1 (x1:Int):aB (YI×Int):=
 if(decide (x1<1))||(decide (x1>9))then some ((YI.mk (⟨#[]⟩:ByteArray) 0 0 0 0 0 0),11)else(mZ1).bind fun a=>(cC [a.c0,a.c1,a.c2,a.c3,a.c4,a.c5,a.c6,a.c7,a.c8] (bN (x1-1))).bind fun b=>some (b,0)
def bP2 (x1:Int):OD k (d+2) 167 [i64 x1]=(nA1 x1).map (fun⟨b,c⟩=>.tup [Lv b,i64 c]):=oe rfl<|by
 refine bz (kG rfl) ?_;refine io rfl ?_;refine bo (bO2 d) fun a=>?_;refine bo (Qh (A:=YI) YI.g [a.c0,a.c1,a.c2,a.c3,a.c4,a.c5,a.c6,a.c7,a.c8] (bN (x1-1)) rfl (fun _=>rfl) rfl) fun e=>?_;rfl
def gD1 (x1:Int):aB Int:=
 (nA1 x1).bind fun⟨b,a⟩=>some a
def tG1 (x1:Int):OD k (d+3) 106 [i64 x1]=(gD1 x1).map i64:=oe rfl<|by
 refine bo (bP2 d x1) fun⟨a,b⟩=>?_;rfl
def nB1 (x1:YX):aB Bool:=
 if((x1.aY.c0==0)&&((x1.aY.c1==0)&&((x1.aY.c2==0)&&((x1.aY.c3==0)&&((x1.aY.c4==0)&&((x1.aY.c5==0)&&true))))))!=false then some true else(aW (E:=(Int×Int)⊕(Int×Int)) (fun(⟨c,a,d⟩:Int×Int×Int)=>if decide (d<6)then(cC [x1.aY.c0,x1.aY.c1,x1.aY.c2,x1.aY.c3,x1.aY.c4,x1.aY.c5] d).bind fun b=>if((decide (b<0))||(decide (b>64)))||((decide (b>0))&&(d !=a))then some (.inr (.inl (c,a)))else((if decide (b>0)then some ((bN (c+b)),(bN (a+1)))else some (c,a):aB (Int×Int))).bind fun⟨g,e⟩=>some (.inl (g,e,(bN (d+1))))else some (.inr (.inr (c,a)))) bP (0,0,0)).bind fun f=>(match f with|.inl ⟨x11,x12⟩=>some false|.inr ⟨x13,x14⟩=>some ((x13==x1.fR)&&(decide (x14>=2))))
def bQ2 (x1:YX):OD k (d+1) 262 [rK x1]=(nB1 x1).map bv:=oe rfl<|by
 refine io rfl ?_;refine bo (aM (S:=Int×Int×Int) (enc:=fun⟨h,i,f⟩=>(Q [bF 1 0,aU 3 h,aU 4 i,(12,Jv x1.aY),aU 13 f] [sQ 0 x1])) (encE:=(fun|.inl ⟨b,c⟩=>(rq [bF 1 0,(2,bv false),aU 3 b,aU 4 c] [sQ 0 x1])|.inr ⟨x13,x14⟩=>(xq 0 [bF 1 0,aU 3 x13,aU 4 x14] [sQ 0 x1]))) (fun⟨h,i,f⟩=>?_) bP (0,0,0)) fun g=>?_;refine io ?_ rfl;refine bo (sK .i64 [x1.aY.c0,x1.aY.c1,x1.aY.c2,x1.aY.c3,x1.aY.c4,x1.aY.c5] f rfl) fun l=>?_;refine bz (kG rfl) ?_;refine bz (kG (bz (jR rfl) rfl)) ?_;refine io rfl ?_;refine bo (e:=(fun(⟨j,a⟩:Int×Int)=>(nq [bF 1 0,aU 3 j,aU 4 a,(12,Jv x1.aY),aU 13 f] [sQ 0 x1]))) ?_ fun⟨j,a⟩=>?_;refine io rfl rfl;rfl;rcases g with⟨b,c⟩|⟨x13,x14⟩
 rfl;refine bz (jR rfl) ?_;rfl
def nC1 (x1:YX):aB Int:=
 if(decide (x1.fR<1))||(decide (x1.fR>64))then some 2 else if((decide (x1.Unit<1))||(decide (x1.Unit>64)))||((Qj .i64 x1.Unit (bN (x1.Unit-1)))!=0)then some 17 else(nB1 x1).bind fun a=>if !a then some 19 else some 0
def bR2 (x1:YX):OD k (d+2) 223 [rK x1]=(nC1 x1).map i64:=oe rfl<|by
 refine bz (kG rfl) ?_;refine io rfl ?_;refine bz (kG rfl) ?_;refine bz (kG rfl) ?_;refine io rfl ?_;refine bo (bQ2 d x1) fun a=>?_;refine io rfl rfl
def nD1 (x1:YX):aB Int:=
 (Qi .i64 1935360 x1.Unit).bind fun a=>some a
def bS2 (x1:YX):OD k (d+1) 263 [rK x1]=(nD1 x1).map i64:=oe rfl<|by
 refine bo oi fun a=>?_;rfl
def nE1 (x1:YX):aB Int:=
 (nD1 x1).bind fun a=>some (bN (x1.fR*a))
def bT2 (x1:YX):OD k (d+2) 224 [rK x1]=(nE1 x1).map i64:=oe rfl<|by
 refine bo (bS2 d x1) fun a=>?_;rfl
def nF1 (x1:YX):aB (Int×Int):=
 (nC1 x1).bind fun a=>if a !=0 then some (0,a)else(nE1 x1).bind fun b=>some (b,0)
def bU2 (x1:YX):OD k (d+3) 155 [rK x1]=(nF1 x1).map (fun⟨a,b⟩=>.tup [i64 a,i64 b]):=oe rfl<|by
 refine bo (bR2 d x1) fun c=>?_;refine io rfl ?_;refine bo (bT2 d x1) fun e=>?_;rfl
def F91 (x1:YM):aB (Int×Int):=
 (nF1 x1.bJ).bind fun⟨c,b⟩=>if b !=0 then some (0,b)else if decide (x1.fA<0)then some (0,2)else((if decide (x1.fA>0)then some x1.fA else some c:aB (Int))).bind fun a=>(Zt .i64 a 7560).bind fun d=>if d !=0 then some (0,16)else if decide (a>15482880)then some (0,5)else some (a,0)
def aL1 (x1:YM):OD k (d+4) 91 [eD x1]=(F91 x1).map (fun⟨b,c⟩=>.tup [i64 b,i64 c]):=oe rfl<|by
 refine bo (bU2 d x1.bJ) fun⟨f,g⟩=>?_;refine io rfl ?_;refine io rfl ?_;refine bo (e:=(fun(a:Int)=>(nq [aU 4 a] [aR 0 x1]))) ?_ fun a=>?_;refine io rfl rfl;refine bo oi fun h=>?_;refine io rfl ?_;refine io rfl rfl
def nH1 (x1:Int) (p:YM):aB Bool:=
 (F91 p).bind fun⟨q,r⟩=>(aW (E:=Bool) (fun(⟨c,d⟩:Bool×Int)=>dH p.aQ d (fun e=>(aW (E:=Bool) (fun(⟨f,a⟩:Bool×Int)=>dH e.jG a (fun b=>((if f then some true else(gD1 b.Hi).bind fun g=>some (g !=0):aB (Bool))).bind fun h=>((if h then some true else(qQ b.At 0 (bN (q-1))).bind fun i=>some (!i):aB (Bool))).bind fun j=>((if j then some true else((if decide (a>0)then(cC e.jG (bN (a-1))).bind fun k=>some (decide (b.At<=k.At))else some false:aB (Bool))).bind fun l=>some l:aB (Bool))).bind fun m=>some (.inl (m,(bN (a+1))))) (some (.inr f))) bP (c,0)).bind fun n=>some (.inl (n,(bN (d+1))))) (some (.inr c))) bP (false,0)).bind fun o=>some (o&&(r==0))
def bV2 (x1:Int) (a:YM):OD k (d+5) 107 [i64 x1,eD a]=(nH1 x1 a).map bv:=oe rfl<|by
 refine bo (aL1 d a) fun⟨m,n⟩=>?_;refine bz lm ?_;refine bo (aM (S:=Bool×Int) (enc:=fun⟨f,b⟩=>(Q [aU 5 m,aU 6 n,(7,bv f),cG 18 a.aQ,cH 19 a.aQ,aU 20 b] [aR 0 a])) (encE:=(fun(l:Bool)=>(xq 0 [aU 6 n,(7,bv l)] [aR 0 a]))) (fun⟨f,b⟩=>?_) bP (false,0)) fun l=>?_;refine ig fun c=>?_;refine bz lm ?_;refine bo (aM (S:=Bool×Int) (enc:=fun⟨g,h⟩=>(Q [aU 5 m,aU 6 n,(7,bv g),bF 9 1,cG 18 a.aQ,cH 19 a.aQ,aU 20 b,oG 25 c.jG,cH 26 c.jG,aU 27 h] [dG 1 c,aR 0 a])) (encE:=(fun(j:Bool)=>(xq 2 [aU 5 m,aU 6 n,(7,bv j),cG 18 a.aQ,cH 19 a.aQ,aU 20 b] [dG 1 c,aR 0 a]))) (fun⟨g,h⟩=>?_) bP (f,0)) fun j=>?_;refine ig fun i=>?_;refine bo (e:=id) ?_ fun p=>?_;refine io rfl ?_;refine bo (tG1 (d+1) i.Hi) fun o=>?_;rfl;refine bo (e:=id) ?_ fun r=>?_;refine io rfl ?_;refine bo (nZ (d+3) i.At 0 (bN (m-1))) fun q=>?_;rfl;refine bo (e:=id) ?_ fun u=>?_;refine io rfl ?_;refine bo (e:=id) ?_ fun t=>?_;refine ig fun s=>?_;rfl;rfl;rfl;rfl;refine bz (jR rfl) ?_;rfl
def De (x1:aA YV) (e:Y0) (h:Int):aB (aA YV):=
 (aW (E:=aA YV) (fun(⟨d,f⟩:Int×(aA YV))=>dH e.aE d (fun g=>(nH1 d g).bind fun a=>(nA a g.ID f e h).bind fun b=>some (.inl ((bN (d+1)),b))) (some (.inr f))) bP (0,x1)).bind fun c=>some c
def gE1 (x1:aA YV) (a:Y0) (b:Int):gY (XD k (d+6)) 104 [.ref 1 0,.fn 107 [] []] (cL x1 a b) 3 false=(De x1 a b).map (fun(f:aA YV)=>((.tup [],(cL f a b),0))):=by
 rw[xd (fn:=Lr) rfl];refine bz lm ?_;refine bo (aM (S:=Int×(aA YV)) (enc:=fun⟨g,h⟩=>(Q [bF 0 1,(1,.fn 107 [] []),aT 10 a.aE,cH 11 a.aE,aU 12 g] (cL h a b))) (encE:=(fun(c:aA YV)=>(xq 0 [] (cL c a b)))) (fun⟨g,h⟩=>?_) bP (0,x1)) fun c=>?_;refine ig fun i=>?_;refine bo (bV2 d g i) fun e=>?_;refine bo (lG (d+4) e i.ID h a b) fun j=>?_;rfl;rfl
def gF1 (x1:aA YV) (g:Y0) (m:Int):aB (aA YV):=
 (aW (E:=aA YV) (fun(⟨a,b⟩:Int×(aA YV))=>dH g.cD a (fun f=>(aW (E:=aA YV) (fun(⟨c,d⟩:Int×(aA YV))=>dH f.eG c (fun e=>(gD1 e.Hi).bind fun h=>(nA (h !=0) e.ID d g m).bind fun i=>some (.inl ((bN (c+1)),i))) (some (.inr d))) bP (0,b)).bind fun j=>some (.inl ((bN (a+1)),j))) (some (.inr b))) bP (0,x1)).bind fun k=>(De k g m).bind fun l=>some l
def bW2 (x1:aA YV) (a:Y0) (e:Int):gY (XD k (d+7)) 59 [.ref 1 0] (cL x1 a e) 3 false=(gF1 x1 a e).map (fun(n:aA YV)=>((.tup [],(cL n a e),0))):=by
 rw[xd (fn:=p59) rfl];refine bz lm ?_;refine bo (aM (S:=Int×(aA YV)) (enc:=fun⟨b,f⟩=>(Q [bF 0 1,kA 10 a.cD,cH 11 a.cD,aU 12 b] (cL f a e))) (encE:=(fun(h:aA YV)=>(xq 0 [bF 0 1] (cL h a e)))) (fun⟨b,f⟩=>?_) bP (0,x1)) fun h=>?_;refine ig fun c=>?_;refine bz lm ?_;refine bo (aM (S:=Int×(aA YV)) (enc:=fun⟨i,g⟩=>(Q [bF 0 1,kA 10 a.cD,cH 11 a.cD,aU 12 b,wQ 17 c.eG,cH 18 c.eG,aU 19 i] (Av 3 c::cL g a e))) (encE:=(fun(l:aA YV)=>(xq 2 [bF 0 1,kA 10 a.cD,cH 11 a.cD,aU 12 b] (Av 3 c::cL l a e)))) (fun⟨i,g⟩=>?_) bP (0,f)) fun l=>?_;refine ig fun j=>?_;refine bo (tG1 (d+3) j.Hi) fun m=>?_;refine bo (lG (d+5) (m !=0) j.ID g a e) fun o=>?_;rfl;rfl;refine bo (gE1 d h a e) fun p=>?_;rfl
def F76 (x1:Int):aB Int:=
 if(decide (x1<(-7)))||(decide (x1>7))then some 2 else some 0
def bX2 (x1:Int):OD k (d+1) 76 [i64 x1]=(F76 x1).map i64:=oe rfl<|by
 refine bz (kG rfl) ?_;refine io rfl rfl
def F55 (x1:Int) (a:YL):aB (Int×Int):=
 (F76 x1).bind fun d=>if d !=0 then some (0,d)else if(((decide (a.eH<(-77)))||(decide (a.eH>77)))||(decide (a.bK<(-140))))||(decide (a.bK>140))then some (0,2)else(aW (E:=Int) (fun(b:Int)=>if decide (b>7)then some (.inl (bN (b-12)))else some (.inr b)) bP (bN (x1+(bN ((bN (7*a.bK))-(bN (12*a.eH))))))).bind fun e=>(aW (E:=Int) (fun(c:Int)=>if decide (c<(-7))then some (.inl (bN (c+12)))else some (.inr c)) bP e).bind fun f=>some (f,0)
def qG2 (x1:Int) (a:YL):OD k (d+2) 55 [i64 x1,fQ a]=(F55 x1 a).map (fun⟨g,h⟩=>.tup [i64 g,i64 h]):=oe rfl<|by
 refine bo (bX2 d x1) fun i=>?_;refine io rfl ?_;refine bz (kG rfl) ?_;refine bz (kG rfl) ?_;refine bz (kG rfl) ?_;refine io rfl ?_;refine bo (aM (S:=Int) (enc:=fun c=>(Q [aU 0 c] [bB 0 a])) (encE:=(fun(b:Int)=>(xq 0 [aU 0 b] [bB 0 a]))) (fun c=>?_) bP (bN (x1+(bN ((bN (7*a.bK))-(bN (12*a.eH))))))) fun b=>?_;refine io rfl rfl;refine bo (aM (S:=Int) (enc:=fun e=>(Q [aU 0 e] [bB 0 a])) (encE:=(fun(f:Int)=>(xq 2 [aU 0 f] [bB 0 a]))) (fun e=>?_) bP b) fun f=>?_;refine io rfl rfl;rfl
def aM1 (x1:Int) (g:YM) (h:YK):aB Bool:=
 (F91 g).bind fun⟨m,j⟩=>((if j !=0 then some true else(qQ g.cQ (-7) 7).bind fun k=>some (!k):aB (Bool))).bind fun l=>(aW (E:=Bool) (fun(⟨a,b⟩:Bool×Int)=>dH h.s'.cD b (fun c=>((if h.s'.fB&&(!a)then(F55 g.cQ c.jK).bind fun⟨i,d⟩=>some (d !=0)else some a:aB (Bool))).bind fun e=>some (.inl (e,(bN (b+1))))) (some (.inr a))) bP (l,0)).bind fun f=>some f
def bY2 (x1:Int) (a:YM) (b:YK):OD k (d+5) 108 [i64 x1,eD a,.ip [dB b]]=(aM1 x1 a b).map bv:=oe rfl<|by
 refine bo (aL1 d a) fun⟨n,o⟩=>?_;refine bo (e:=id) ?_ fun m=>?_;refine io rfl ?_;refine bo (nZ (d+3) a.cQ (-7) 7) fun p=>?_;rfl;refine bz lm ?_;refine bo (aM (S:=Bool×Int) (enc:=fun⟨f,c⟩=>(Q [(2,.ip [dB b]),bF 4 0,(8,bv f),kA 28 b.s'.cD,cH 29 b.s'.cD,aU 30 c] [aR 0 a])) (encE:=(fun(i:Bool)=>(xq 0 [(8,bv i)] [aR 0 a]))) (fun⟨f,c⟩=>?_) bP (m,0)) fun i=>?_;refine ig fun g=>?_;refine bz (jR rfl) ?_;refine bo (e:=(fun(h:Bool)=>(nq [(2,.ip [dB b]),bF 4 0,(8,bv h),kA 28 b.s'.cD,cH 29 b.s'.cD,aU 30 c] [Av 1 g,aR 0 a]))) ?_ fun h=>?_;refine io ?_ rfl;refine bo (qG2 (d+2) a.cQ g.jK) fun⟨j,l⟩=>?_;rfl;rfl;rfl
def yV (x1:aA YV) (d:Y0) (g:Int):aB (aA YV):=
 (aW (E:=aA YV) (fun(⟨e,f⟩:Int×(aA YV))=>dH d.aE e (fun h=>(aM1 e h (YK.mk d g f)).bind fun a=>(nA a h.ID f d g).bind fun b=>some (.inl ((bN (e+1)),b))) (some (.inr f))) bP (0,x1)).bind fun c=>some c
def gI1 (x1:aA YV) (a:Y0) (b:Int):gY (XD k (d+6)) 104 [.ref 1 0,.fn 108 [] [.ref 3 0]] ((3,.box [.ref 1 0])::cL x1 a b) 4 false=(yV x1 a b).map (fun(g:aA YV)=>((.tup [],((3,.box [.ref 1 0])::cL g a b),0))):=by
 rw[xd (fn:=Lr) rfl];refine bz lm ?_;refine bo (aM (S:=Int×(aA YV)) (enc:=fun⟨h,e⟩=>(Q [bF 0 1,(1,.fn 108 [] [.ref 3 0]),aT 10 a.aE,cH 11 a.aE,aU 12 h] ((3,.box [.ref 1 0])::cL e a b))) (encE:=(fun(c:aA YV)=>(xq 0 [] ((3,.box [.ref 1 0])::cL c a b)))) (fun⟨h,e⟩=>?_) bP (0,x1)) fun c=>?_;refine ig fun i=>?_;refine bo (bY2 d h i (YK.mk a b e)) fun f=>?_;refine bo (lG (d+4) f i.ID e a b) fun j=>?_;rfl;rfl
def aN1 (x1:aA YV) (a:Y0) (b:Int):aB (aA YV):=
 (yV x1 a b).bind fun c=>some c
def bZ2 (x1:aA YV) (a:Y0) (b:Int):gY (XD k (d+7)) 60 [.ref 1 0] (cL x1 a b) 3 false=(aN1 x1 a b).map (fun(c:aA YV)=>((.tup [],(cL c a b),0))):=by
 rw[xd (fn:=p60) rfl];refine bo (gI1 d x1 a b) fun e=>?_;rfl
def vI (x1 a:Int):aB Int:=
 if(decide (x1<0))||(decide (x1>a))then some 2 else some 0
def rL (x1 a:Int):OD k (d+1) 177 [i64 x1,i64 a]=(vI x1 a).map i64:=oe rfl<|by
 refine bz (kG rfl) ?_;refine io rfl rfl
def Qu (x1:aA Int):aB Int:=
 (aW (E:=Int⊕Unit) (fun(a:Int)=>dH x1 a (fun b=>if b !=0 then some (.inr (.inl b))else some (.inl (bN (a+1)))) (some (.inr (.inr ())))) bP 0).bind fun c=>(match c with|.inl x5=>some x5|.inr _=>some 0)
def Qv (x1:aA Int):OD k (d+1) 176 [oK x1]=(Qu x1).map i64:=oe rfl<|by
 refine bz lm ?_;refine bo (aM (S:=Int) (enc:=fun a=>(Q [uH 5 x1,cH 6 x1,aU 7 a] [])) (encE:=Qt 2) (fun a=>?_) bP 0) fun b=>?_;refine ig fun c=>?_;refine io rfl rfl;rcases b with e|_;rfl;rfl
def gJ1 (x1:Int):aB Bool:=
 some ((decide (x1>=1))&&(decide (x1<=4)))
def tH1 (x1:Int):OD k (d+1) 178 [i64 x1]=(gJ1 x1).map bv:=oe rfl<|by
 refine bz (jR rfl) ?_;rfl
def nI1 (x1:Int):aB Int:=
 if decide (x1<0)then some 0 else some (Qj .i64 x1 16)
def cA2 (x1:Int):OD k (d+1) 239 [i64 x1]=(nI1 x1).map i64:=oe rfl<|by
 refine io rfl rfl
def nJ1 (x1:YE):aB YE:=
 ((if x1.dW==1 then some true else(gJ1 x1.dW).bind fun a=>some (!a):aB (Bool))).bind fun b=>if b then some x1 else((if x1.dW !=3 then some x1.Value else some (YA.mk 0 0):aB (YA))).bind fun c=>((if x1.dW !=4 then(nI1 x1.bR).bind fun d=>some d else some 0:aB (Int))).bind fun e=>some (YE.mk x1.ID x1.dW c [] [] e 0 x1.eK [] 0 0)
def cB2 (x1:YE):OD k (d+2) 180 [eU x1]=(nJ1 x1).map (fun c=>eU c):=oe rfl<|by
 refine bo (e:=id) ?_ fun g=>?_;refine io rfl ?_;refine bo (tH1 d x1.dW) fun f=>?_;rfl;refine io rfl ?_;refine bo (e:=(fun(a:YA)=>(nq [bF 1 0,bF 2 1,bF 3 2] [(2,.box [i64 x1.ID.fS,i64 x1.ID.cO,i64 x1.dW,i64 a.Log,i64 a.pY,.v (.slice none 0 0),.v (.slice none 0 0),i64 0,i64 0,i64 x1.eK,.v (.slice none 0 0),i64 0,i64 0]),bD2,eR 0 x1]))) ?_ fun a=>?_;refine io rfl rfl;refine bo (e:=(fun(b:Int)=>(nq [bF 2 1,bF 3 2] [(2,.box [i64 x1.ID.fS,i64 x1.ID.cO,i64 x1.dW,i64 a.Log,i64 a.pY,.v (.slice none 0 0),.v (.slice none 0 0),i64 b,i64 0,i64 x1.eK,.v (.slice none 0 0),i64 0,i64 0]),bD2,eR 0 x1]))) ?_ fun b=>?_;refine io ?_ rfl;refine bo (cA2 d x1.bR) fun h=>?_;rfl;rfl
def aO1 (x1 d:aA YB):aB Bool:=
 if(x1.length:Int)!=(d.length:Int)then some false else(aW (E:=Unit⊕Unit) (fun(c:Int)=>dH x1 c (fun a=>(cC d c).bind fun b=>if((a.dC.kE==b.dC.kE)&&((a.dC.jA==b.dC.jA)&&((a.dC.fW==b.dC.fW)&&((a.Rn==b.Rn)&&((a.Ro==b.Ro)&&true)))))!=true then some (.inr (.inl ()))else some (.inl (bN (c+1)))) (some (.inr (.inr ())))) bP 0).bind fun e=>(match e with|.inl _=>some false|.inr _=>some true)
def cC2 (x1 a:aA YB):OD k (d+1) 236 [lE x1,lE a]=(aO1 x1 a).map bv:=oe rfl<|by
 refine bz lm ?_;refine bz lm ?_;refine io rfl ?_;refine bz lm ?_;refine bo (aM (S:=Int) (enc:=fun b=>(Q [mK 0 x1,mK 1 a,cH 12 x1,aU 13 b] [])) (encE:=(fun|.inl _=>(rq [(4,bv false)] [])|.inr _=>(xq 0 [] []))) (fun b=>?_) bP 0) fun c=>?_;refine ig fun e=>?_;refine bo rg fun f=>?_;refine io rfl rfl;rcases c with _|_;rfl;rfl
def aP1 (x1 d:aA YD):aB Bool:=
 if(x1.length:Int)!=(d.length:Int)then some false else(aW (E:=Unit⊕Unit) (fun(c:Int)=>dH x1 c (fun a=>(cC d c).bind fun b=>if((a.dC.kE==b.dC.kE)&&((a.dC.jA==b.dC.jA)&&((a.dC.fW==b.dC.fW)&&((a.Log==b.Log)&&((a.Kf==b.Kf)&&true)))))!=true then some (.inr (.inl ()))else some (.inl (bN (c+1)))) (some (.inr (.inr ())))) bP 0).bind fun e=>(match e with|.inl _=>some false|.inr _=>some true)
def cD2 (x1 a:aA YD):OD k (d+1) 237 [nK x1,nK a]=(aP1 x1 a).map bv:=oe rfl<|by
 refine bz lm ?_;refine bz lm ?_;refine io rfl ?_;refine bz lm ?_;refine bo (aM (S:=Int) (enc:=fun b=>(Q [sO 0 x1,sO 1 a,cH 12 x1,aU 13 b] [])) (encE:=(fun|.inl _=>(rq [(4,bv false)] [])|.inr _=>(xq 0 [] []))) (fun b=>?_) bP 0) fun c=>?_;refine ig fun e=>?_;refine bo rg fun f=>?_;refine io rfl rfl;rcases c with _|_;rfl;rfl
end Go.P
namespace Go.P
open Go.Sim (Ex hZ CK)
open K (I Q rq nq xq ck)
variable {k:Bool} (d:Nat)
def aQ1 (x1 b:aA YY):aB Bool:=
 if(x1.length:Int)!=(b.length:Int)then some false else(aW (E:=Unit⊕Unit) (fun(a:Int)=>dH x1 a (fun c=>(cC b a).bind fun d=>if((c.qR==d.qR)&&((c.Ci==d.Ci)&&true))!=true then some (.inr (.inl ()))else some (.inl (bN (a+1)))) (some (.inr (.inr ())))) bP 0).bind fun e=>(match e with|.inl _=>some false|.inr _=>some true)
def cE2 (x1 a:aA YY):OD k (d+1) 238 [mY x1,mY a]=(aQ1 x1 a).map bv:=oe rfl<|by
 refine bz lm ?_;refine bz lm ?_;refine io rfl ?_;refine bz lm ?_;refine bo (aM (S:=Int) (enc:=fun b=>(Q [kO 0 x1,kO 1 a,cH 12 x1,aU 13 b] [])) (encE:=(fun|.inl _=>(rq [(4,bv false)] [])|.inr _=>(xq 0 [] []))) (fun b=>?_) bP 0) fun c=>?_;refine ig fun e=>?_;refine bo rg fun f=>?_;refine io rfl rfl;rcases c with _|_;rfl;rfl
def aR1 (x1 a:YE):aB Bool:=
 ((if((((((x1.dW==a.dW)&&(((x1.Value.Log==a.Value.Log)&&((x1.Value.pY==a.Value.pY)&&true))!=false))&&(x1.bR==a.bR))&&(x1.dV==a.dV))&&(x1.eK==a.eK))&&(x1.nC==a.nC))&&(x1.nD==a.nD)then(aO1 x1.dJ a.dJ).bind fun b=>some b else some false:aB (Bool))).bind fun c=>((if c then(aP1 x1.cX a.cX).bind fun d=>some d else some false:aB (Bool))).bind fun e=>((if e then(aQ1 x1.dL a.dL).bind fun f=>some f else some false:aB (Bool))).bind fun g=>some g
def tI1 (x1 a:YE):OD k (d+2) 179 [eU x1,eU a]=(aR1 x1 a).map bv:=oe rfl<|by
 refine bz (jR rfl) ?_;refine bz (jR rfl) ?_;refine bz (jR rfl) ?_;refine bz (jR rfl) ?_;refine bz (jR rfl) ?_;refine bz (jR rfl) ?_;refine bo (e:=id) ?_ fun c=>?_;refine io ?_ rfl;refine bo (cC2 d x1.dJ a.dJ) fun b=>?_;rfl;refine bo (e:=id) ?_ fun g=>?_;refine io ?_ rfl;refine bo (cD2 d x1.cX a.cX) fun f=>?_;rfl;refine bo (e:=id) ?_ fun i=>?_;refine io ?_ rfl;refine bo (cE2 d x1.dL a.dL) fun h=>?_;rfl;rfl
def gK1 (x1:YA):aB Int:=
 if(((decide (x1.Log<(-1)))||(decide (x1.Log>8)))||(decide (x1.pY<0)))||(decide (x1.pY>3))then some 17 else some 0
def tJ1 (x1:YA):OD k (d+1) 181 [Au x1]=(gK1 x1).map i64:=oe rfl<|by
 refine bz (kG rfl) ?_;refine bz (kG rfl) ?_;refine bz (kG rfl) ?_;refine io rfl rfl
def aS1:aB Ao:=
 some (Ao.mk 0 2 4 5 7 9 11)
def tK1:OD k (d+1) 148 []=(aS1).map (fun a=>Ar a):=oe rfl<|by
 rfl
def Ud (x1:YH):aB Int:=
 (aS1).bind fun a=>(cC [a.c0,a.c1,a.c2,a.c3,a.c4,a.c5,a.c6] x1.kE).bind fun b=>some (bN ((bN ((bN (12*(bN (x1.fW+1))))+b))+x1.jA))
def tL1 (x1:YH):OD k (d+2) 185 [eO x1]=(Ud x1).map i64:=oe rfl<|by
 refine bo (tK1 d) fun a=>?_;refine bo (sK .i64 [a.c0,a.c1,a.c2,a.c3,a.c4,a.c5,a.c6] x1.kE rfl) fun b=>?_;rfl
def Qw (x1:YH):aB Int:=
 if(((((decide (x1.kE<0))||(decide (x1.kE>6)))||(decide (x1.jA<(-2))))||(decide (x1.jA>2)))||(decide (x1.fW<(-1))))||(decide (x1.fW>9))then some 18 else(Ud x1).bind fun a=>if(decide (a<0))||(decide (a>127))then some 18 else some 0
def gL1 (x1:YH):OD k (d+3) 149 [eO x1]=(Qw x1).map i64:=oe rfl<|by
 refine bz (kG rfl) ?_;refine bz (kG rfl) ?_;refine bz (kG rfl) ?_;refine bz (kG rfl) ?_;refine bz (kG rfl) ?_;refine io rfl ?_;refine bo (tL1 d x1) fun a=>?_;refine bz (kG rfl) ?_;refine io rfl rfl
def Ue (x1:YH):aB (Int×Int):=
 (Qw x1).bind fun a=>if a !=0 then some (0,a)else(Ud x1).bind fun b=>some (b,0)
def gM1 (x1:YH):OD k (d+4) 117 [eO x1]=(Ue x1).map (fun⟨a,b⟩=>.tup [i64 a,i64 b]):=oe rfl<|by
 refine bo (gL1 d x1) fun c=>?_;refine io rfl ?_;refine bo (tL1 (d+1) x1) fun e=>?_;rfl
def aT1 (x1:YH):aB (Int×Int):=
 (Ue x1).bind fun⟨a,b⟩=>if((b !=0)||(decide (a<0)))||(decide (a>127))then some (0,18)else some (a,0)
def gN1 (x1:YH):OD k (d+5) 241 [eO x1]=(aT1 x1).map (fun⟨a,b⟩=>.tup [i64 a,i64 b]):=oe rfl<|by
 refine bo (gM1 d x1) fun⟨c,e⟩=>?_;refine bz (kG rfl) ?_;refine bz (kG rfl) ?_;refine io rfl rfl
def nK1 (x1:YB):aB Int:=
 (aT1 x1.dC).bind fun⟨d,a⟩=>(vI x1.Ro 2).bind fun b=>(Qu [a,b]).bind fun c=>some c
def cF2 (x1:YB):OD k (d+6) 240 [yP x1]=(nK1 x1).map i64:=oe rfl<|by
 refine bo (gN1 d x1.dC) fun⟨c,a⟩=>?_;refine bo (rL (d+4) x1.Ro 2) fun b=>?_;refine bo (Qv (d+4) [a,b]) fun e=>?_;rfl
def nL1 (x1:aA YB):aB Int:=
 if(x1.length:Int)==0 then some 4 else if decide ((x1.length:Int)>10)then some 9 else(aW (E:=Int⊕Unit) (fun(⟨g,c⟩:Int×Int)=>dH x1 c (fun d=>(nK1 d).bind fun e=>if e !=0 then some (.inr (.inl e))else(aT1 d.dC).bind fun⟨a,f⟩=>if decide (a<=g)then some (.inr (.inl 25))else some (.inl (a,(bN (c+1))))) (some (.inr (.inr ())))) bP ((-1),0)).bind fun b=>(match b with|.inl x12=>some x12|.inr _=>some 0)
def cG2 (x1:aA YB):OD k (d+7) 182 [lE x1]=(nL1 x1).map i64:=oe rfl<|by
 refine bz lm ?_;refine io rfl ?_;refine bz lm ?_;refine io rfl ?_;refine bz lm ?_;refine bo (aM (S:=Int×Int) (enc:=fun⟨c,e⟩=>(Q [aU 3 c,mK 17 x1,cH 18 x1,aU 19 e] [])) (encE:=(fun|.inl a=>(rq [aU 2 a] [])|.inr _=>(xq 1 [] []))) (fun⟨c,e⟩=>?_) bP ((-1),0)) fun b=>?_;refine ig fun f=>?_;refine bo (cF2 d f) fun i=>?_;refine io rfl ?_;refine bo (gN1 (d+1) f.dC) fun⟨g,h⟩=>?_;refine io rfl rfl;rcases b with a|_;rfl;rfl
def nM1 (x1:aA YD):aB Int:=
 if decide ((x1.length:Int)>8)then some 9 else(aW (E:=Int⊕Unit) (fun(c:Int)=>dH x1 c (fun b=>(aT1 b.dC).bind fun⟨e,d⟩=>if d !=0 then some (.inr (.inl d))else if(decide (b.Log<1))||(decide (b.Log>6))then some (.inr (.inl 2))else some (.inl (bN (c+1)))) (some (.inr (.inr ())))) bP 0).bind fun a=>(match a with|.inl x9=>some x9|.inr _=>some 0)
def cH2 (x1:aA YD):OD k (d+6) 183 [nK x1]=(nM1 x1).map i64:=oe rfl<|by
 refine bz lm ?_;refine io rfl ?_;refine bz lm ?_;refine bo (aM (S:=Int) (enc:=fun b=>(Q [sO 10 x1,cH 11 x1,aU 12 b] [])) (encE:=Qt 2) (fun b=>?_) bP 0) fun a=>?_;refine ig fun c=>?_;refine bo (gN1 d c.dC) fun⟨e,f⟩=>?_;refine io rfl ?_;refine bz (kG rfl) ?_;refine io rfl rfl;rcases a with g|_;rfl;rfl
def nN1 (x1:YY):aB Int:=
 if(decide (x1.Ci<0))||(decide (x1.Ci>2))then some 2 else if decide ((x1.qR.size:Int)>256)then some 5 else(aW (E:=Unit⊕Unit) (fun(a:Int)=>if decide (a<(x1.qR.size:Int))then(tU x1.qR a).bind fun b=>((if decide (b<32)then some true else(tU x1.qR a).bind fun c=>some (c==127):aB (Bool))).bind fun d=>if d then some (.inr (.inl ()))else some (.inl (bN (a+1)))else some (.inr (.inr ()))) bP 0).bind fun e=>(match e with|.inl _=>some 6|.inr _=>if(x1.qR.toList==(⟨#[]⟩:ByteArray).toList)&&(x1.Ci==1)then some 3 else some 0)
def cI2 (x1:YY):OD k (d+1) 242 [yR x1]=(nN1 x1).map i64:=oe rfl<|by
 refine bz (kG rfl) ?_;refine io rfl ?_;refine io rfl ?_;refine bo (aM (S:=Int) (enc:=fun a=>(Q [bF 1 0,(20,i64 (x1.qR.size:Int)),aU 21 a] [fL 0 x1])) (encE:=(fun|.inl _=>(rq [bF 1 0,aU 2 6] [fL 0 x1])|.inr _=>(xq 1 [bF 1 0] [fL 0 x1]))) (fun a=>?_) bP 0) fun b=>?_;refine io ?_ rfl;refine bo oi fun c=>?_;refine bo (e:=id) ?_ fun g=>?_;refine io rfl ?_;refine bo oi fun f=>?_;rfl;refine io rfl rfl;rcases b with _|_;rfl;refine bz (jR rfl) ?_;refine io rfl rfl
def nO1 (x1:YY):aB Bool:=
 some (((x1.qR==(⟨#[]⟩:ByteArray))&&((x1.Ci==0)&&true))!=false)
def cJ2 (x1:YY):OD k (d+1) 243 [yR x1]=(nO1 x1).map bv:=oe rfl<|by
 rfl
def nP1 (x1:aA YY):aB Int:=
 if decide ((x1.length:Int)>4)then some 9 else(aW (E:=Int⊕Unit) (fun(c:Int)=>dH x1 c (fun e=>(nN1 e).bind fun d=>if d !=0 then some (.inr (.inl d))else some (.inl (bN (c+1)))) (some (.inr (.inr ())))) bP 0).bind fun f=>(match f with|.inl x7=>some x7|.inr _=>((if decide ((x1.length:Int)>0)then(cC x1 (bN ((x1.length:Int)-1))).bind fun g=>(nO1 g).bind fun a=>some a else some false:aB (Bool))).bind fun b=>if b then some 3 else some 0)
def cK2 (x1:aA YY):OD k (d+2) 184 [mY x1]=(nP1 x1).map i64:=oe rfl<|by
 refine bz lm ?_;refine io rfl ?_;refine bz lm ?_;refine bo (aM (S:=Int) (enc:=fun a=>(Q [kO 0 x1,kO 10 x1,cH 11 x1,aU 12 a] [])) (encE:=(fun|.inl b=>(rq [kO 0 x1,aU 2 b] [])|.inr _=>(xq 0 [kO 0 x1] []))) (fun a=>?_) bP 0) fun h=>?_;refine ig fun g=>?_;refine bo (cI2 d g) fun j=>?_;refine io rfl rfl;rcases h with b|_;rfl;refine bz lm ?_;refine bo (e:=id) ?_ fun f=>?_;refine ig fun i=>?_;refine bo (cJ2 d i) fun c=>?_;rfl;refine io rfl rfl
def Lx (x1:YE):aB Int:=
 (vI x1.ID.fS 99).bind fun r=>(vI x1.ID.cO 1073741824).bind fun s=>(Qu [r,s]).bind fun q=>if q !=0 then some q else(gJ1 x1.dW).bind fun t=>if !t then some 11 else(nJ1 x1).bind fun u=>(aR1 x1 u).bind fun v=>if !v then some 3 else((if x1.dW !=3 then(gK1 x1.Value).bind fun w=>some (w !=0)else some false:aB (Bool))).bind fun x=>if x then some 17 else if x1.dW==1 then(nL1 x1.dJ).bind fun b=>(nM1 x1.cX).bind fun c=>(nP1 x1.dL).bind fun d=>(Qu [b,c,d]).bind fun a=>if a !=0 then some a else(vI x1.bR 31).bind fun e=>(vI x1.dV 4).bind fun f=>(vI x1.eK 9).bind fun g=>(vI x1.nC 2).bind fun h=>(vI x1.nD 2).bind fun i=>(Qu [e,f,g,h,i]).bind fun j=>some j else(vI x1.bR 31).bind fun k=>(vI x1.dV 4).bind fun l=>(vI x1.eK 9).bind fun m=>(vI x1.nC 2).bind fun n=>(vI x1.nD 2).bind fun o=>(Qu [k,l,m,n,o]).bind fun p=>some p
def Jz (x1:YE):OD k (d+8) 114 [eU x1]=(Lx x1).map i64:=oe rfl<|by
 refine bo (rL (d+6) x1.ID.fS 99) fun s=>?_;refine bo (rL (d+6) x1.ID.cO 1073741824) fun u=>?_;refine bo (Qv (d+6) [s,u]) fun w=>?_;refine io rfl ?_;refine bo (tH1 (d+6) x1.dW) fun x=>?_;refine io rfl ?_;refine bo (cB2 (d+5) x1) fun v=>?_;refine bo (tI1 (d+5) x1 v) fun y=>?_;refine io rfl ?_;refine bo (e:=id) ?_ fun A=>?_;refine io ?_ rfl;refine bo (tJ1 (d+6) x1.Value) fun z=>?_;rfl;refine io rfl ?_;refine io ?_ ?_;refine bo (cG2 d x1.dJ) fun a=>?_;refine bo (cH2 (d+1) x1.cX) fun b=>?_;refine bo (cK2 (d+5) x1.dL) fun c=>?_;refine bo (Qv (d+6) [a,b,c]) fun q=>?_;refine io rfl ?_;refine bo (rL (d+6) x1.bR 31) fun f=>?_;refine bo (rL (d+6) x1.dV 4) fun g=>?_;refine bo (rL (d+6) x1.eK 9) fun h=>?_;refine bo (rL (d+6) x1.nC 2) fun i=>?_;refine bo (rL (d+6) x1.nD 2) fun j=>?_;refine bo (Qv (d+6) [f,g,h,i,j]) fun r=>?_;rfl;refine bo (rL (d+6) x1.bR 31) fun l=>?_;refine bo (rL (d+6) x1.dV 4) fun m=>?_;refine bo (rL (d+6) x1.eK 9) fun n=>?_;refine bo (rL (d+6) x1.nC 2) fun o=>?_;refine bo (rL (d+6) x1.nD 2) fun p=>?_;refine bo (Qv (d+6) [l,m,n,o,p]) fun t=>?_;rfl
def nQ1 (x1:YE):aB Bool:=
 (Lx x1).bind fun a=>some (a !=0)
def cL2 (x1:YE):OD k (d+9) 169 [eU x1]=(nQ1 x1).map bv:=oe rfl<|by
 refine bo (Jz d x1) fun a=>?_;rfl
def nR1 (x1:aA YE):aB Int:=
 (aW (E:=Int⊕Unit) (fun(a:Int)=>dH x1 a (fun b=>(nQ1 b).bind fun c=>if c then some (.inr (.inl a))else some (.inl (bN (a+1)))) (some (.inr (.inr ())))) bP 0).bind fun d=>(match d with|.inl x7=>some x7|.inr _=>some (-1))
def cM2 (x1:aA YE):OD k (d+10) 235 [mH x1,.fn 169 [] []]=(nR1 x1).map i64:=oe rfl<|by
 refine bz lm ?_;refine bo (aM (S:=Int) (enc:=fun a=>(Q [eQ 0 x1,(1,.fn 169 [] []),cH 7 x1,aU 8 a] [])) (encE:=Qt 4) (fun a=>?_) bP 0) fun c=>?_;refine ig fun b=>?_;refine bo (cL2 d b) fun e=>?_;refine io rfl rfl;rcases c with f|_;rfl;rfl
def gO1 (x1:aA YE):aB Bool:=
 (nR1 x1).bind fun a=>some (decide (a>=0))
def tM1 (x1:aA YE):OD k (d+11) 174 [mH x1,.fn 169 [] []]=(gO1 x1).map bv:=oe rfl<|by
 refine bo (cM2 d x1) fun a=>?_;rfl
def nS1 (x1:YO):aB Bool:=
 ((if decide ((x1.aX.length:Int)>0)then(cC x1.aX 0).bind fun a=>some (a.dW==3)else some false:aB (Bool))).bind fun b=>some b
def cN2 (x1:YO):OD k (d+1) 270 [jC x1]=(nS1 x1).map bv:=oe rfl<|by
 refine bz lm ?_;refine bo (e:=id) ?_ fun b=>?_;refine ig fun a=>?_;rfl;rfl
def nT1 (x1:YA):aB Int:=
 (Tu .i64 3870720 (bN (x1.Log+1))).bind fun a=>(aW (E:=Int) (fun(⟨e,b,c⟩:Int×Int×Int)=>if decide (c<x1.pY)then(Qi .i64 e 2).bind fun d=>some (.inl (d,(bN (b+d)),(bN (c+1))))else some (.inr b)) bP (a,a,0)).bind fun f=>some f
def cO2 (x1:YA):OD k (d+1) 287 [Au x1]=(nT1 x1).map i64:=oe rfl<|by
 refine bo oi fun a=>?_;refine bo (aM (S:=Int×Int×Int) (enc:=fun⟨b,c,e⟩=>(Q [aU 3 b,aU 4 c,(11,i64 x1.pY),aU 12 e] [He 0 x1])) (encE:=(fun(f:Int)=>(xq 0 [aU 4 f] [He 0 x1]))) (fun⟨b,c,e⟩=>?_) bP (a,a,0)) fun f=>?_;refine io ?_ rfl;refine bo oi fun g=>?_;rfl;rfl
def nU1 (x1:YA):aB (Int×Int):=
 (gK1 x1).bind fun a=>if a !=0 then some (0,a)else(nT1 x1).bind fun b=>some (b,0)
def cP2 (x1:YA):OD k (d+2) 281 [Au x1]=(nU1 x1).map (fun⟨a,b⟩=>.tup [i64 a,i64 b]):=oe rfl<|by
 refine bo (tJ1 d x1) fun c=>?_;refine io rfl ?_;refine bo (cO2 d x1) fun e=>?_;rfl
def nV1 (x1:YE):aB (Int×Int):=
 (Lx x1).bind fun a=>if(a !=0)||(x1.dW==3)then some (0,a)else(nU1 x1.Value).bind fun⟨b,c⟩=>some (b,c)
def cQ2 (x1:YE):OD k (d+9) 277 [eU x1]=(nV1 x1).map (fun⟨a,b⟩=>.tup [i64 a,i64 b]):=oe rfl<|by
 refine bo (Jz d x1) fun c=>?_;refine bz (kG rfl) ?_;refine io rfl ?_;refine bo (cP2 (d+6) x1.Value) fun⟨e,f⟩=>?_;rfl
def nW1 (x1:aA YE):aB (aA Int):=
 (Bx (x1.length:Int) (x1.length:Int) 0).bind fun j=>(aW (E:=aA Int) (fun(⟨g,a⟩:Int×(aA Int))=>dH x1 g (fun b=>(nV1 b).bind fun⟨c,h⟩=>(gI a g).bind fun d=>(lV a d (fun i=>c)).bind fun e=>some (.inl ((bN (g+1)),e))) (some (.inr a))) bP (0,j)).bind fun f=>some f
def cR2 (x1:aA YE):OD k (d+10) 273 [mH x1]=(nW1 x1).map (fun p=>oK p):=oe rfl<|by
 refine bz lm ?_;refine bo (oQ cI _ _ 0) fun o=>?_;refine bz lm ?_;refine bo (aM (S:=Int×(aA Int)) (enc:=fun⟨h,a⟩=>(Q [(3,.own 0),eQ 9 x1,cH 10 x1,aU 11 h] [(0,.lst 3 1 true (I cI a))])) (encE:=(fun(b:aA Int)=>(xq 0 [(3,.own 0)] [(0,.lst 3 1 true (I cI b))]))) (fun⟨h,a⟩=>?_) bP (0,o)) fun b=>?_;refine ig fun e=>?_;refine bo (cQ2 d e) fun⟨g,i⟩=>?_;refine bo (bX cI a _) fun j=>?_;refine bo (eT (A:=Int) (c:=cI) (m:=1) (f:=fun l=>g) (fun _=>⟨rfl,rfl⟩) (bP3 rfl) a _) fun n=>?_;rfl;rfl
def gP1 (x1:Int):aB Bool:=
 some ((decide (x1>=1))&&(decide (x1<=32)))
def tN1 (x1:Int):OD k (d+1) 284 [i64 x1]=(gP1 x1).map bv:=oe rfl<|by
 refine bz (jR rfl) ?_;rfl
def nX1 (x1 a:YU):aB Int:=
 if x1.lH !=a.lH then if decide (x1.lH<a.lH)then some (-1)else some 1 else if x1.fR !=a.fR then if decide (x1.fR>a.fR)then some (-1)else some 1 else some 0
def cS2 (x1 a:YU):OD k (d+1) 285 [pR x1,pR a]=(nX1 x1 a).map i64:=oe rfl<|by
 refine io ?_ ?_;refine io rfl rfl;refine io ?_ rfl;refine io rfl rfl
def Uf (x1:YU):aB Int:=
 some (bN (x1.lH+x1.fR))
def Wx (x1:YU):OD k (d+1) 283 [pR x1]=(Uf x1).map i64:=oe rfl<|by
 rfl
def Wy (x1:YU) (n:aA YU):aB (Bool×(aA YU)):=
 (aW (E:=aA YU) (fun(b:aA YU)=>((if decide ((b.length:Int)>0)then(gI b (bN ((b.length:Int)-1))).bind fun o=>(gT b o).bind fun c=>(Uf c).bind fun d=>some (decide (d<=x1.lH))else some false:aB (Bool))).bind fun e=>if e then(uE b (bN ((b.length:Int)-1))).bind fun f=>some (.inl f)else some (.inr b)) bP n).bind fun a=>((if(a.length:Int)==3 then some true else((if decide ((a.length:Int)>0)then(Uf x1).bind fun g=>(gI a (bN ((a.length:Int)-1))).bind fun h=>(gT a h).bind fun i=>(Uf i).bind fun j=>some (decide (g>j))else some false:aB (Bool))).bind fun k=>some k:aB (Bool))).bind fun l=>if l then some (false,a)else(nE true a [x1]).bind fun m=>some (true,m)
def wY1 (x1:YU) (i:aA YU):gY (XD k (d+2)) 282 [pR x1,.ref 0 0] [(1,.lst 332 4 true (I YU.g i)),(0,.box [.own 1])] 2 false=(Wy x1 i).map (fun(⟨j,l⟩:Bool×(aA YU))=>((bv j,[(1,.lst 332 4 true (I YU.g l)),(0,.box [.own 1])],0))):=by
 rw[xd (fn:=bB2) rfl];refine bo (aM (S:=aA YU) (enc:=fun h=>(Q [bF 1 0,bF 2 2] [jP 2 x1,(1,.lst 332 4 true (I YU.g h)),(0,.box [.own 1])])) (encE:=(fun(b:aA YU)=>(xq 0 [bF 1 0,bF 2 2] [jP 2 x1,(1,.lst 332 4 true (I YU.g b)),(0,.box [.own 1])]))) (fun h=>?_) bP i) fun b=>?_;refine bz (dS YU.g h) ?_;refine bo (e:=id) ?_ fun o=>?_;refine io ?_ rfl;refine bz (dS YU.g h) ?_;refine bo (bX YU.g h _) fun w=>?_;refine bo (gR (A:=YU) (c:=YU.g) (m:=4) (g:=fun a=>[i64 a.lH,i64 a.fR,i64 a.iY,i64 a.jT]) (fun _=>⟨rfl,rfl⟩) (bP3 rfl) h _) fun a=>?_;refine bo (Wx d a) fun n=>?_;rfl;refine io ?_ rfl;refine bz (dS YU.g h) ?_;refine bo (vQ YU.g h (bN ((h.length:Int)-1))) fun p=>?_;rfl;refine bz (dS YU.g b) ?_;refine bo (e:=id) ?_ fun u=>?_;refine io rfl ?_;refine bo (e:=id) ?_ fun t=>?_;refine io ?_ rfl;refine bo (Wx d x1) fun q=>?_;refine bo (bX YU.g b _) fun r=>?_;refine bo (gR (A:=YU) (c:=YU.g) (m:=4) (g:=fun f=>[i64 f.lH,i64 f.fR,i64 f.iY,i64 f.jT]) (fun _=>⟨rfl,rfl⟩) (bP3 rfl) b _) fun f=>?_;refine bo (Wx d f) fun s=>?_;rfl;rfl;refine io rfl ?_;refine bo (dO true YU.g b [x1]) fun v=>?_;rfl
def nY1 (x1:aA YU) (e:Int):aB Int:=
 if(decide (e<0))||(decide (e>128))then some 2 else if decide ((x1.length:Int)>16)then some 9 else(aW (E:=(Int×(aA YU))⊕(aA YU)) (fun(⟨b,c⟩:Int×(aA YU))=>dH x1 b (fun a=>((if(((decide (a.fR<1))||(decide (a.fR>e)))||(decide (a.lH<0)))||(decide (a.lH>(bN (e-a.fR))))then some true else(gP1 a.iY).bind fun f=>some (!f):aB (Bool))).bind fun g=>((if g then some true else(gP1 a.jT).bind fun h=>some (!h):aB (Bool))).bind fun i=>if i||(a.iY==a.jT)then some (.inr (.inl (2,c)))else((if decide (b>0)then(cC x1 (bN (b-1))).bind fun j=>(nX1 j a).bind fun k=>some (decide (k>0))else some false:aB (Bool))).bind fun l=>if l then some (.inr (.inl (25,c)))else(Wy a c).bind fun⟨m,d⟩=>if !m then some (.inr (.inl (21,d)))else some (.inl ((bN (b+1)),d))) (some (.inr (.inr c)))) bP (0,[])).bind fun n=>(match n with|.inl ⟨x25,x26⟩=>some x25|.inr x27=>some 0)
def cT2 (x1:aA YU) (i:Int):OD k (d+3) 278 [iR x1,i64 i]=(nY1 x1 i).map i64:=oe rfl<|by
 refine bz (kG rfl) ?_;refine io rfl ?_;refine bz lm ?_;refine io rfl ?_;refine bz lm ?_;refine bo (aM (S:=Int×(aA YU)) (enc:=fun⟨c,b⟩=>(Q [jO 0 x1,aU 1 i,(6,.fn 282 [] [.ref 0 0]),jO 19 x1,cH 20 x1,aU 21 c] [(1,.lst 332 4 true (I YU.g b)),(0,.box [.own 1])])) (encE:=(fun|.inl ⟨f,h⟩=>(rq [aU 4 f] [(1,.lst 332 4 true (I YU.g h)),(0,.box [.own 1])])|.inr x27=>(xq 0 [] [(1,.lst 332 4 true (I YU.g x27)),(0,.box [.own 1])]))) (fun⟨c,b⟩=>?_) bP (0,[])) fun l=>?_;refine ig fun a=>?_;refine bz (kG rfl) ?_;refine bz (kG rfl) ?_;refine bz (kG rfl) ?_;refine bo (e:=id) ?_ fun n=>?_;refine io rfl ?_;refine bo (tN1 (d+1) a.iY) fun m=>?_;rfl;refine bo (e:=id) ?_ fun p=>?_;refine io rfl ?_;refine bo (tN1 (d+1) a.jT) fun o=>?_;rfl;refine bz (kG rfl) ?_;refine io rfl ?_;refine bo (e:=id) ?_ fun r=>?_;refine ig fun j=>?_;refine bo (cS2 (d+1) j a) fun q=>?_;rfl;refine io rfl ?_;refine bo (wY1 d a b) fun⟨s,t⟩=>?_;refine io rfl rfl;rcases l with⟨f,h⟩|x27;rfl;rfl
def nZ1 (x1:YU) (a:Int):aB Bool:=
 some ((decide (a>=x1.lH))&&(decide ((bN (a-x1.lH))<x1.fR)))
def cU2 (x1:YU) (a:Int):OD k (d+1) 288 [pR x1,i64 a]=(nZ1 x1 a).map bv:=oe rfl<|by
 refine bz (jR rfl) ?_;rfl
def oA1 (x1 c:Int):aB Int:=
 (aW (E:=Int) (fun(⟨b,a⟩:Int×Int)=>if decide (a>0)then(Zt .i64 b a).bind fun d=>some (.inl (a,d))else some (.inr b)) bP (x1,c)).bind fun e=>some e
def cV2 (x1 a:Int):OD k (d+1) 289 [i64 x1,i64 a]=(oA1 x1 a).map i64:=oe rfl<|by
 refine bo (aM (S:=Int×Int) (enc:=fun⟨b,c⟩=>(Q [aU 0 b,aU 1 c] [])) (encE:=(fun(e:Int)=>(xq 0 [aU 0 e] []))) (fun⟨b,c⟩=>?_) bP (x1,a)) fun e=>?_;refine io ?_ rfl;refine bo oi fun f=>?_;rfl;rfl
def oB1 (x1:aA YU) (m:Int):aB (Int×Int):=
 (aW (E:=Int×Int) (fun(⟨b,c,d⟩:Int×Int×Int)=>dH x1 d (fun a=>(nZ1 a m).bind fun f=>((if f then(oA1 (bN (b*a.jT)) (bN (c*a.iY))).bind fun e=>(Qi .i64 (bN (b*a.jT)) e).bind fun g=>(Qi .i64 (bN (c*a.iY)) e).bind fun h=>some (g,h)else some (b,c):aB (Int×Int))).bind fun⟨i,j⟩=>some (.inl (i,j,(bN (d+1))))) (some (.inr (b,c)))) bP (1,1,0)).bind fun⟨k,l⟩=>some (k,l)
def cW2 (x1:aA YU) (i:Int):OD k (d+2) 286 [iR x1,i64 i]=(oB1 x1 i).map (fun⟨q,r⟩=>.tup [i64 q,i64 r]):=oe rfl<|by
 refine bz lm ?_;refine bo (aM (S:=Int×Int×Int) (enc:=fun⟨b,c,f⟩=>(Q [aU 1 i,aU 4 b,aU 5 c,jO 9 x1,cH 10 x1,aU 11 f] [])) (encE:=(fun(⟨j,l⟩:Int×Int)=>(xq 0 [aU 4 j,aU 5 l] []))) (fun⟨b,c,f⟩=>?_) bP (1,1,0)) fun⟨j,l⟩=>?_;refine ig fun a=>?_;refine bo (cU2 d a i) fun m=>?_;refine bo (e:=(fun(⟨g,h⟩:Int×Int)=>(nq [aU 1 i,aU 4 g,aU 5 h,jO 9 x1,cH 10 x1,aU 11 f] [jP 0 a]))) ?_ fun⟨g,h⟩=>?_;refine io ?_ rfl;refine bo (cV2 d (bN (b*a.jT)) (bN (c*a.iY))) fun n=>?_;refine bo oi fun o=>?_;refine bo oi fun p=>?_;rfl;rfl;rfl
def gQ1 (x1:aA YU) (d a:Int):aB (Int×Int):=
 if(decide (a<0))||(decide (a>7741440))then some (0,2)else(oB1 x1 d).bind fun⟨b,c⟩=>(Zt .i64 (bN (a*b)) c).bind fun e=>if e !=0 then some (0,16)else(Qi .i64 (bN (a*b)) c).bind fun f=>some (f,0)
def tO1 (x1:aA YU) (a b:Int):OD k (d+3) 279 [iR x1,i64 a,i64 b]=(gQ1 x1 a b).map (fun⟨c,e⟩=>.tup [i64 c,i64 e]):=oe rfl<|by
 refine bz (kG rfl) ?_;refine io rfl ?_;refine bo (cW2 d x1 a) fun⟨f,g⟩=>?_;refine bo oi fun h=>?_;refine io rfl ?_;refine bo oi fun i=>?_;rfl
def gR1 (x1:aA YU) (g:aA Int):aB ((aA Int)×Int):=
 (nY1 x1 (g.length:Int)).bind fun i=>if i !=0 then some ([],i)else(Bx 0 (g.length:Int) 0).bind fun j=>(aW (E:=(Int×(aA Int))⊕(aA Int)) (fun(⟨h,a⟩:Int×(aA Int))=>dH g h (fun c=>(gQ1 x1 h c).bind fun⟨d,b⟩=>if b !=0 then some (.inr (.inl (b,a)))else(nE true a [d]).bind fun e=>some (.inl ((bN (h+1)),e))) (some (.inr (.inr a)))) bP (0,j)).bind fun f=>(match f with|.inl ⟨x15,x16⟩=>some ([],x15)|.inr x17=>some (x17,0))
def tP1 (x1:aA YU) (e:aA Int):OD k (d+4) 274 [iR x1,oK e]=(gR1 x1 e).map (fun⟨n,o⟩=>.tup [oK n,i64 o]):=oe rfl<|by
 refine bz lm ?_;refine bo (cT2 d x1 (e.length:Int)) fun p=>?_;refine io rfl ?_;refine bz lm ?_;refine bo (oQ cI _ _ 0) fun m=>?_;refine bz lm ?_;refine bo (aM (S:=Int×(aA Int)) (enc:=fun⟨i,a⟩=>(Q [jO 0 x1,(7,.own 0),uH 22 e,cH 23 e,aU 24 i] [(0,.lst 3 1 true (I cI a))])) (encE:=(fun|.inl ⟨b,c⟩=>(rq [(4,.is 1 (I cI [])),aU 5 b,(7,.own 0)] [(0,.lst 3 1 true (I cI c))])|.inr x17=>(xq 0 [(7,.own 0)] [(0,.lst 3 1 true (I cI x17))]))) (fun⟨i,a⟩=>?_) bP (0,m)) fun h=>?_;refine ig fun f=>?_;refine bo (tO1 d x1 i f) fun⟨g,j⟩=>?_;refine io rfl ?_;refine bo (dO true cI a [g]) fun l=>?_;rfl;rcases h with⟨b,c⟩|x17;rfl;rfl
def oC1 (x1:aA YU) (m:Int) (n:aA Int):aB (Int×Bool):=
 (cC x1 m).bind fun l=>(aW (E:=Int⊕Int) (fun(⟨c,a⟩:Int×Int)=>(Uf l).bind fun d=>if decide (a<d)then(wP x1 (bN (m+1)) ((x1).length)).bind fun e=>(cC n a).bind fun f=>(gQ1 e a f).bind fun⟨g,h⟩=>if h !=0 then some (.inr (.inl c))else some (.inl ((bN (c+g)),(bN (a+1))))else some (.inr (.inr c))) bP (0,l.lH)).bind fun i=>(match i with|.inl x17=>some (0,false)|.inr x18=>(aW (E:=Int⊕Unit) (fun(b:Int)=>if decide (b<=8)then(Tu .i64 3870720 (bN (b+1))).bind fun j=>if x18==(bN (l.iY*j))then some (.inr (.inl b))else some (.inl (bN (b+1)))else some (.inr (.inr ()))) bP (-1)).bind fun k=>(match k with|.inl x23=>some (x23,true)|.inr _=>some (0,false)))
def cX2 (x1:aA YU) (l:Int) (n:aA Int):OD k (d+4) 280 [iR x1,i64 l,oK n]=(oC1 x1 l n).map (fun⟨s,t⟩=>.tup [i64 s,bv t]):=oe rfl<|by
 refine bo rg fun a=>?_;refine bo (aM (S:=Int×Int) (enc:=fun⟨c,b⟩=>(Q [jO 0 x1,aU 1 l,uH 2 n,bF 8 0,aU 9 c,aU 10 b] [jP 0 a])) (encE:=(fun|.inl e=>(rq [aU 6 0,(7,bv false),bF 8 0,aU 9 e] [jP 0 a])|.inr x18=>(xq 0 [bF 8 0,aU 9 x18] [jP 0 a]))) (fun⟨c,b⟩=>?_) bP (0,a.lH)) fun j=>?_;refine bo (Wx (d+2) a) fun o=>?_;refine io ?_ rfl;refine bo (Ht _ _ _) fun h=>?_;refine bo rg fun i=>?_;refine bo (tO1 d h b i) fun⟨p,q⟩=>?_;refine io rfl rfl;rcases j with e|x18;rfl;refine bo (aM (S:=Int) (enc:=fun f=>(Q [bF 8 0,aU 9 x18,aU 13 f] [jP 0 a])) (encE:=(fun|.inl g=>(rq [aU 6 g,(7,bv true)] [jP 0 a])|.inr _=>(xq 2 [] [jP 0 a]))) (fun f=>?_) bP (-1)) fun m=>?_;refine io ?_ rfl;refine bo oi fun r=>?_;refine io rfl rfl;rcases m with g|_;rfl;rfl
def oD1 (x1:aA YU) (g:aA Int):aB ((aA Int)×Int):=
 (gR1 x1 g).bind fun⟨j,h⟩=>if h !=0 then some ([],h)else(Bx 0 (x1.length:Int) 0).bind fun i=>(aW (E:=(aA Int)⊕(aA Int)) (fun(⟨f,a⟩:Int×(aA Int))=>if decide (f<(x1.length:Int))then(oC1 x1 f g).bind fun⟨b,c⟩=>if !c then some (.inr (.inl a))else(nE true a [b]).bind fun d=>some (.inl ((bN (f+1)),d))else some (.inr (.inr a))) bP (0,i)).bind fun e=>(match e with|.inl x14=>some ([],21)|.inr x15=>some (x15,0))
def cY2 (x1:aA YU) (c:aA Int):OD k (d+5) 275 [iR x1,oK c]=(oD1 x1 c).map (fun⟨l,m⟩=>.tup [oK l,i64 m]):=oe rfl<|by
 refine bo (tP1 d x1 c) fun⟨n,o⟩=>?_;refine io rfl ?_;refine bz lm ?_;refine bo (oQ cI _ _ 0) fun j=>?_;refine bz lm ?_;refine bo (aM (S:=Int×(aA Int)) (enc:=fun⟨g,a⟩=>(Q [jO 0 x1,uH 1 c,(8,.own 0),cH 25 x1,aU 26 g] [(0,.lst 3 1 true (I cI a))])) (encE:=(fun|.inl b=>(rq [(4,.is 1 (I cI [])),aU 5 21,(8,.own 0)] [(0,.lst 3 1 true (I cI b))])|.inr x15=>(xq 0 [(8,.own 0)] [(0,.lst 3 1 true (I cI x15))]))) (fun⟨g,a⟩=>?_) bP (0,j)) fun f=>?_;refine io ?_ rfl;refine bo (cX2 d x1 g c) fun⟨e,h⟩=>?_;refine io rfl ?_;refine bo (dO true cI a [e]) fun i=>?_;rfl;rcases f with b|x15;rfl;rfl
def oE1 (x1:YO):aB ((aA Int)×Int):=
 (aW (E:=Int⊕Unit) (fun(d:Int)=>dH x1.aX d (fun e=>(Lx e).bind fun f=>if f !=0 then some (.inr (.inl f))else if(e.dW==3)&&((decide (d>0))||(decide ((x1.aX.length:Int)>1)))then some (.inr (.inl 11))else some (.inl (bN (d+1)))) (some (.inr (.inr ())))) bP 0).bind fun i=>(match i with|.inl x7=>some ([],x7)|.inr _=>(nW1 x1.aX).bind fun g=>(gR1 x1.eJ g).bind fun⟨b,a⟩=>if a !=0 then some ([],a)else(oD1 x1.eJ g).bind fun⟨h,c⟩=>if c !=0 then some ([],21)else some (b,0))
def cZ2 (x1:YO):OD k (d+11) 271 [jC x1]=(oE1 x1).map (fun⟨l,m⟩=>.tup [oK l,i64 m]):=oe rfl<|by
 refine bz lm ?_;refine bo (aM (S:=Int) (enc:=fun a=>(Q [bF 1 0,eQ 13 x1.aX,cH 14 x1.aX,aU 15 a] [cN 0 x1])) (encE:=(fun|.inl b=>(rq [bF 1 0,(2,.is 1 (I cI [])),aU 3 b] [cN 0 x1])|.inr _=>(xq 0 [bF 1 0] [cN 0 x1]))) (fun a=>?_) bP 0) fun j=>?_;refine ig fun i=>?_;refine bo (Jz (d+2) i) fun n=>?_;refine io rfl ?_;refine bz (jR (bz (kG (bz lm rfl)) rfl)) ?_;refine io rfl rfl;rcases j with b|_;rfl;refine bo (cR2 d x1.aX) fun c=>?_;refine bo (tP1 (d+6) x1.eJ c) fun⟨e,f⟩=>?_;refine io rfl ?_;refine bo (cY2 (d+5) x1.eJ c) fun⟨g,h⟩=>?_;refine io rfl rfl
def oF1 (x1:YO) (a:Int):aB ((aA Int)×Int):=
 if(decide (a<1))||(decide (a>15482880))then some ([],2)else if decide ((x1.aX.length:Int)>128)then some ([],9)else(nS1 x1).bind fun c=>if c&&((x1.aX.length:Int)==1)then(cC x1.aX 0).bind fun d=>(Lx d).bind fun b=>if b !=0 then some ([],b)else if decide ((x1.eJ.length:Int)>0)then some ([],21)else some ([a],0)else(oE1 x1).bind fun⟨e,f⟩=>some (e,f)
def dA2 (x1:YO) (a:Int):OD k (d+12) 264 [jC x1,i64 a]=(oF1 x1 a).map (fun⟨c,e⟩=>.tup [oK c,i64 e]):=oe rfl<|by
 refine bz (kG rfl) ?_;refine io rfl ?_;refine bz lm ?_;refine io rfl ?_;refine bo (cN2 (d+10) x1) fun f=>?_;refine bz (jR (bz lm rfl)) ?_;refine io ?_ ?_;refine bo rg fun b=>?_;refine bo (Jz (d+3) b) fun g=>?_;refine io rfl ?_;refine bz lm ?_;refine io rfl rfl;refine bo (cZ2 d x1) fun⟨h,i⟩=>?_;rfl
def oG1 (x1:aA Int):aB Int:=
 (aW (E:=Int) (fun(⟨a,b⟩:Int×Int)=>dH x1 b (fun c=>some (.inl ((bN (a+c)),(bN (b+1))))) (some (.inr a))) bP (0,0)).bind fun d=>some d
def dB2 (x1:aA Int):OD k (d+1) 265 [oK x1]=(oG1 x1).map i64:=oe rfl<|by
 refine bz lm ?_;refine bo (aM (S:=Int×Int) (enc:=fun⟨a,b⟩=>(Q [aU 3 a,uH 6 x1,cH 7 x1,aU 8 b] [])) (encE:=(fun(c:Int)=>(xq 0 [aU 3 c] []))) (fun⟨a,b⟩=>?_) bP (0,0)) fun c=>?_;refine ig fun e=>?_;rfl;rfl
def gS1 (x1:YO) (b:Int):aB ((aA Int)×Int):=
 (oF1 x1 b).bind fun⟨a,c⟩=>((if(c==0)&&(decide ((a.length:Int)>0))then(oG1 a).bind fun e=>some (e !=b)else some false:aB (Bool))).bind fun f=>((if f then some 20 else some c:aB (Int))).bind fun d=>if d !=0 then some ([],d)else some (a,0)
def tQ1 (x1:YO) (a:Int):OD k (d+13) 225 [jC x1,i64 a]=(gS1 x1 a).map (fun⟨f,g⟩=>.tup [oK f,i64 g]):=oe rfl<|by
 refine bo (dA2 d x1 a) fun⟨b,h⟩=>?_;refine bz (jR (bz lm rfl)) ?_;refine bo (e:=id) ?_ fun j=>?_;refine io ?_ rfl;refine bo (dB2 (d+11) b) fun i=>?_;rfl;refine bo (e:=(fun(c:Int)=>(nq [uH 6 b,aU 7 c] [cN 0 x1]))) ?_ fun c=>?_;refine io rfl rfl;refine io rfl rfl
def gT1 (x1:YO) (a:Int):aB Int:=
 (gS1 x1 a).bind fun⟨c,b⟩=>some b
def tR1 (x1:YO) (a:Int):OD k (d+14) 175 [jC x1,i64 a]=(gT1 x1 a).map i64:=oe rfl<|by
 refine bo (tQ1 d x1 a) fun⟨b,c⟩=>?_;rfl
def gU1 (x1:Int):aB Bool:=
 some ((x1==11)||(x1==20))
def tS1 (x1:Int):OD k (d+1) 110 [i64 x1]=(gU1 x1).map bv:=oe rfl<|by
 refine bz (kG rfl) ?_;rfl
def oH1 (x1:YO) (a:Int):aB Bool:=
 (gO1 x1.aX).bind fun b=>((if !b then(gT1 x1 a).bind fun c=>(gU1 c).bind fun d=>some d else some false:aB (Bool))).bind fun e=>some e
def dC2 (x1:YO) (a:Int):OD k (d+15) 173 [jC x1,.ip [.fn 169 [] []],.ip [.fn 110 [] []],.ip [i64 a]]=(oH1 x1 a).map bv:=oe rfl<|by
 refine bo (tM1 (d+3) x1.aX) fun c=>?_;refine bo (e:=id) ?_ fun g=>?_;refine io ?_ rfl;refine bo (tR1 d x1 a) fun b=>?_;refine bo (tS1 (d+13) b) fun f=>?_;rfl;rfl
def oI1 (x1:aA YO) (b:Int):aB Int:=
 (aW (E:=Int⊕Unit) (fun(a:Int)=>dH x1 a (fun c=>(oH1 c b).bind fun d=>if d then some (.inr (.inl a))else some (.inl (bN (a+1)))) (some (.inr (.inr ())))) bP 0).bind fun e=>(match e with|.inl x8=>some x8|.inr _=>some (-1))
def dD2 (x1:aA YO) (a:Int):OD k (d+16) 234 [mI x1,.fn 173 [] [.ip [.fn 169 [] []],.ip [.fn 110 [] []],.ip [i64 a]]]=(oI1 x1 a).map i64:=oe rfl<|by
 refine bz lm ?_;refine bo (aM (S:=Int) (enc:=fun b=>(Q [cU 0 x1,(1,.fn 173 [] [.ip [.fn 169 [] []],.ip [.fn 110 [] []],.ip [i64 a]]),cH 7 x1,aU 8 b] [])) (encE:=Qt 4) (fun b=>?_) bP 0) fun e=>?_;refine ig fun c=>?_;refine bo (dC2 d c a) fun f=>?_;refine io rfl rfl;rcases e with g|_;rfl;rfl
def oJ1 (x1:aA YO) (a:Int):aB Bool:=
 (oI1 x1 a).bind fun b=>some (decide (b>=0))
def dE2 (x1:aA YO) (a:Int):OD k (d+17) 172 [mI x1,.fn 173 [] [.ip [.fn 169 [] []],.ip [.fn 110 [] []],.ip [i64 a]]]=(oJ1 x1 a).map bv:=oe rfl<|by
 refine bo (dD2 d x1 a) fun b=>?_;rfl
def oK1 (x1:YW) (a:Int):aB Bool:=
 (oJ1 x1.aO a).bind fun b=>some b
def dF2 (x1:YW) (a:Int):OD k (d+18) 171 [uG x1,.ip [.fn 169 [] []],.ip [.fn 110 [] []],.ip [i64 a]]=(oK1 x1 a).map bv:=oe rfl<|by
 refine bo (dE2 d x1.aO a) fun b=>?_;rfl
def oL1 (x1:aA YW) (b:Int):aB Int:=
 (aW (E:=Int⊕Unit) (fun(a:Int)=>dH x1 a (fun c=>(oK1 c b).bind fun d=>if d then some (.inr (.inl a))else some (.inl (bN (a+1)))) (some (.inr (.inr ())))) bP 0).bind fun e=>(match e with|.inl x8=>some x8|.inr _=>some (-1))
def dG2 (x1:aA YW) (a:Int):OD k (d+19) 233 [nY x1,.fn 171 [] [.ip [.fn 169 [] []],.ip [.fn 110 [] []],.ip [i64 a]]]=(oL1 x1 a).map i64:=oe rfl<|by
 refine bz lm ?_;refine bo (aM (S:=Int) (enc:=fun b=>(Q [cG 0 x1,(1,.fn 171 [] [.ip [.fn 169 [] []],.ip [.fn 110 [] []],.ip [i64 a]]),cH 7 x1,aU 8 b] [])) (encE:=Qt 4) (fun b=>?_) bP 0) fun e=>?_;refine ig fun c=>?_;refine bo (dF2 d c a) fun f=>?_;refine io rfl rfl;rcases e with g|_;rfl;rfl
def oM1 (x1:aA YW) (a:Int):aB Bool:=
 (oL1 x1 a).bind fun b=>some (decide (b>=0))
def dH2 (x1:aA YW) (a:Int):OD k (d+20) 170 [nY x1,.fn 171 [] [.ip [.fn 169 [] []],.ip [.fn 110 [] []],.ip [i64 a]]]=(oM1 x1 a).map bv:=oe rfl<|by
 refine bo (dG2 d x1 a) fun b=>?_;rfl
def oN1 (x1:Int) (a:YM):aB Bool:=
 (F91 a).bind fun⟨b,c⟩=>if c !=0 then some false else(oM1 a.aQ b).bind fun d=>some d
def dI2 (x1:Int) (a:YM):OD k (d+21) 168 [i64 x1,eD a,.ip [.fn 110 [] []]]=(oN1 x1 a).map bv:=oe rfl<|by
 refine bo (aL1 (d+16) a) fun⟨b,c⟩=>?_;refine io rfl ?_;refine bo (dH2 d a.aQ b) fun e=>?_;rfl
def Df (x1:aA YV) (e:Y0) (h:Int):aB (aA YV):=
 (aW (E:=aA YV) (fun(⟨d,f⟩:Int×(aA YV))=>dH e.aE d (fun g=>(oN1 d g).bind fun a=>(nA a g.ID f e h).bind fun b=>some (.inl ((bN (d+1)),b))) (some (.inr f))) bP (0,x1)).bind fun c=>some c
def gV1 (x1:aA YV) (a:Y0) (b:Int):gY (XD k (d+22)) 104 [.ref 1 0,.fn 168 [] [.ref 3 0]] ((3,.box [.fn 110 [] []])::cL x1 a b) 4 false=(Df x1 a b).map (fun(f:aA YV)=>((.tup [],((3,.box [.fn 110 [] []])::cL f a b),0))):=by
 rw[xd (fn:=Lr) rfl];refine bz lm ?_;refine bo (aM (S:=Int×(aA YV)) (enc:=fun⟨g,h⟩=>(Q [bF 0 1,(1,.fn 168 [] [.ref 3 0]),aT 10 a.aE,cH 11 a.aE,aU 12 g] ((3,.box [.fn 110 [] []])::cL h a b))) (encE:=(fun(c:aA YV)=>(xq 0 [] ((3,.box [.fn 110 [] []])::cL c a b)))) (fun⟨g,h⟩=>?_) bP (0,x1)) fun c=>?_;refine ig fun i=>?_;refine bo (dI2 d g i) fun e=>?_;refine bo (lG (d+20) e i.ID h a b) fun j=>?_;rfl;rfl
def Wz (x1:aA YV) (a:Y0) (b:Int):aB (aA YV):=
 (Df x1 a b).bind fun c=>some c
def wZ1 (x1:aA YV) (a:Y0) (b:Int):gY (XD k (d+23)) 109 [.ref 1 0,.fn 110 [] []] (cL x1 a b) 3 false=(Wz x1 a b).map (fun(c:aA YV)=>((.tup [],(cL c a b),0))):=by
 rw[xd (fn:=wK1) rfl];refine bo (gV1 d x1 a b) fun e=>?_;rfl
def gW1 (x1:aA YV) (a:Y0) (b:Int):aB (aA YV):=
 (Wz x1 a b).bind fun c=>some c
def dJ2 (x1:aA YV) (a:Y0) (b:Int):gY (XD k (d+24)) 61 [.ref 1 0] (cL x1 a b) 3 false=(gW1 x1 a b).map (fun(c:aA YV)=>((.tup [],(cL c a b),0))):=by
 rw[xd (fn:=p61) rfl];refine bo (wZ1 d x1 a b) fun e=>?_;rfl
def oO1 (x1:Int):aB Bool:=
 ((if x1 !=0 then(gU1 x1).bind fun a=>some (!a)else some false:aB (Bool))).bind fun b=>some b
def dK2 (x1:Int):OD k (d+2) 111 [i64 x1]=(oO1 x1).map bv:=oe rfl<|by
 refine bo (e:=id) ?_ fun b=>?_;refine io ?_ rfl;refine bo (tS1 d x1) fun a=>?_;rfl;rfl
def Ly (x1:YO) (a:Int):aB Bool:=
 (gO1 x1.aX).bind fun b=>((if !b then(gT1 x1 a).bind fun c=>(oO1 c).bind fun d=>some d else some false:aB (Bool))).bind fun e=>some e
def oP1 (x1:YO) (a:Int):OD k (d+15) 173 [jC x1,.ip [.fn 169 [] []],.ip [.fn 111 [] []],.ip [i64 a]]=(Ly x1 a).map bv:=oe rfl<|by
 refine bo (tM1 (d+3) x1.aX) fun c=>?_;refine bo (e:=id) ?_ fun g=>?_;refine io ?_ rfl;refine bo (tR1 d x1 a) fun b=>?_;refine bo (dK2 (d+12) b) fun f=>?_;rfl;rfl
def Lz (x1:aA YO) (b:Int):aB Int:=
 (aW (E:=Int⊕Unit) (fun(a:Int)=>dH x1 a (fun c=>(Ly c b).bind fun d=>if d then some (.inr (.inl a))else some (.inl (bN (a+1)))) (some (.inr (.inr ())))) bP 0).bind fun e=>(match e with|.inl x8=>some x8|.inr _=>some (-1))
def oQ1 (x1:aA YO) (a:Int):OD k (d+16) 234 [mI x1,.fn 173 [] [.ip [.fn 169 [] []],.ip [.fn 111 [] []],.ip [i64 a]]]=(Lz x1 a).map i64:=oe rfl<|by
 refine bz lm ?_;refine bo (aM (S:=Int) (enc:=fun b=>(Q [cU 0 x1,(1,.fn 173 [] [.ip [.fn 169 [] []],.ip [.fn 111 [] []],.ip [i64 a]]),cH 7 x1,aU 8 b] [])) (encE:=Qt 4) (fun b=>?_) bP 0) fun e=>?_;refine ig fun c=>?_;refine bo (oP1 d c a) fun f=>?_;refine io rfl rfl;rcases e with g|_;rfl;rfl
def Ma (x1:aA YO) (a:Int):aB Bool:=
 (Lz x1 a).bind fun b=>some (decide (b>=0))
def oR1 (x1:aA YO) (a:Int):OD k (d+17) 172 [mI x1,.fn 173 [] [.ip [.fn 169 [] []],.ip [.fn 111 [] []],.ip [i64 a]]]=(Ma x1 a).map bv:=oe rfl<|by
 refine bo (oQ1 d x1 a) fun b=>?_;rfl
def Mb (x1:YW) (a:Int):aB Bool:=
 (Ma x1.aO a).bind fun b=>some b
def oS1 (x1:YW) (a:Int):OD k (d+18) 171 [uG x1,.ip [.fn 169 [] []],.ip [.fn 111 [] []],.ip [i64 a]]=(Mb x1 a).map bv:=oe rfl<|by
 refine bo (oR1 d x1.aO a) fun b=>?_;rfl
def Mc (x1:aA YW) (b:Int):aB Int:=
 (aW (E:=Int⊕Unit) (fun(a:Int)=>dH x1 a (fun c=>(Mb c b).bind fun d=>if d then some (.inr (.inl a))else some (.inl (bN (a+1)))) (some (.inr (.inr ())))) bP 0).bind fun e=>(match e with|.inl x8=>some x8|.inr _=>some (-1))
def oT1 (x1:aA YW) (a:Int):OD k (d+19) 233 [nY x1,.fn 171 [] [.ip [.fn 169 [] []],.ip [.fn 111 [] []],.ip [i64 a]]]=(Mc x1 a).map i64:=oe rfl<|by
 refine bz lm ?_;refine bo (aM (S:=Int) (enc:=fun b=>(Q [cG 0 x1,(1,.fn 171 [] [.ip [.fn 169 [] []],.ip [.fn 111 [] []],.ip [i64 a]]),cH 7 x1,aU 8 b] [])) (encE:=Qt 4) (fun b=>?_) bP 0) fun e=>?_;refine ig fun c=>?_;refine bo (oS1 d c a) fun f=>?_;refine io rfl rfl;rcases e with g|_;rfl;rfl
def Md (x1:aA YW) (a:Int):aB Bool:=
 (Mc x1 a).bind fun b=>some (decide (b>=0))
def oU1 (x1:aA YW) (a:Int):OD k (d+20) 170 [nY x1,.fn 171 [] [.ip [.fn 169 [] []],.ip [.fn 111 [] []],.ip [i64 a]]]=(Md x1 a).map bv:=oe rfl<|by
 refine bo (oT1 d x1 a) fun b=>?_;rfl
def Me (x1:Int) (a:YM):aB Bool:=
 (F91 a).bind fun⟨b,c⟩=>if c !=0 then some false else(Md a.aQ b).bind fun d=>some d
def oV1 (x1:Int) (a:YM):OD k (d+21) 168 [i64 x1,eD a,.ip [.fn 111 [] []]]=(Me x1 a).map bv:=oe rfl<|by
 refine bo (aL1 (d+16) a) fun⟨b,c⟩=>?_;refine io rfl ?_;refine bo (oU1 d a.aQ b) fun e=>?_;rfl
def Dg (x1:aA YV) (e:Y0) (h:Int):aB (aA YV):=
 (aW (E:=aA YV) (fun(⟨d,f⟩:Int×(aA YV))=>dH e.aE d (fun g=>(Me d g).bind fun a=>(nA a g.ID f e h).bind fun b=>some (.inl ((bN (d+1)),b))) (some (.inr f))) bP (0,x1)).bind fun c=>some c
def gX1 (x1:aA YV) (a:Y0) (b:Int):gY (XD k (d+22)) 104 [.ref 1 0,.fn 168 [] [.ref 3 0]] ((3,.box [.fn 111 [] []])::cL x1 a b) 4 false=(Dg x1 a b).map (fun(f:aA YV)=>((.tup [],((3,.box [.fn 111 [] []])::cL f a b),0))):=by
 rw[xd (fn:=Lr) rfl];refine bz lm ?_;refine bo (aM (S:=Int×(aA YV)) (enc:=fun⟨g,h⟩=>(Q [bF 0 1,(1,.fn 168 [] [.ref 3 0]),aT 10 a.aE,cH 11 a.aE,aU 12 g] ((3,.box [.fn 111 [] []])::cL h a b))) (encE:=(fun(c:aA YV)=>(xq 0 [] ((3,.box [.fn 111 [] []])::cL c a b)))) (fun⟨g,h⟩=>?_) bP (0,x1)) fun c=>?_;refine ig fun i=>?_;refine bo (oV1 d g i) fun e=>?_;refine bo (lG (d+20) e i.ID h a b) fun j=>?_;rfl;rfl
def Dh (x1:aA YV) (a:Y0) (b:Int):aB (aA YV):=
 (Dg x1 a b).bind fun c=>some c
def gY1 (x1:aA YV) (a:Y0) (b:Int):gY (XD k (d+23)) 109 [.ref 1 0,.fn 111 [] []] (cL x1 a b) 3 false=(Dh x1 a b).map (fun(c:aA YV)=>((.tup [],(cL c a b),0))):=by
 rw[xd (fn:=wK1) rfl];refine bo (gX1 d x1 a b) fun e=>?_;rfl
def gZ1 (x1:aA YV) (a:Y0) (b:Int):aB (aA YV):=
 (Dh x1 a b).bind fun c=>some c
def dL2 (x1:aA YV) (a:Y0) (b:Int):gY (XD k (d+24)) 62 [.ref 1 0] (cL x1 a b) 3 false=(gZ1 x1 a b).map (fun(c:aA YV)=>((.tup [],(cL c a b),0))):=by
 rw[xd (fn:=p62) rfl];refine bo (gY1 d x1 a b) fun e=>?_;rfl
def oW1 (x1:YP) (a:YE):aB Bool:=
 (Lx a).bind fun b=>some (b !=0)
def dM2 (x1:YP) (a:YE):OD k (d+9) 113 [fK x1,eU a]=(oW1 x1 a).map bv:=oe rfl<|by
 refine bo (Jz d a) fun b=>?_;rfl
def Xa (x1:aA YV) (s:Y0) (t:Int):aB (aA YV):=
 (aW (E:=aA YV) (fun(⟨d,m⟩:Int×(aA YV))=>dH s.aE d (fun p=>(aW (E:=aA YV) (fun(⟨e,n⟩:Int×(aA YV))=>dH p.aQ e (fun q=>(aW (E:=aA YV) (fun(⟨f,o⟩:Int×(aA YV))=>dH q.aO f (fun r=>(aW (E:=aA YV) (fun(⟨a,b⟩:Int×(aA YV))=>dH r.aX a (fun c=>(oW1 (YP.mk 4 0 e d f a 0) c).bind fun g=>(nA g c.ID b s t).bind fun h=>some (.inl ((bN (a+1)),h))) (some (.inr b))) bP (0,o)).bind fun i=>some (.inl ((bN (f+1)),i))) (some (.inr o))) bP (0,n)).bind fun j=>some (.inl ((bN (e+1)),j))) (some (.inr n))) bP (0,m)).bind fun k=>some (.inl ((bN (d+1)),k))) (some (.inr m))) bP (0,x1)).bind fun l=>some l
def xA1 (x1:aA YV) (c:Y0) (h:Int):gY (XD k (d+10)) 112 [.ref 1 0,.fn 113 [] []] (cL x1 c h) 3 false=(Xa x1 c h).map (fun(v:aA YV)=>((.tup [],(cL v c h),0))):=by
 rw[xd (fn:=Zx) rfl];refine bz lm ?_;refine bo (aM (S:=Int×(aA YV)) (enc:=fun⟨b,r⟩=>(Q [bF 0 1,(1,.fn 113 [] []),aT 16 c.aE,cH 17 c.aE,aU 18 b] (cL r c h))) (encE:=(fun(q:aA YV)=>(xq 0 [] (cL q c h)))) (fun⟨b,r⟩=>?_) bP (0,x1)) fun q=>?_;refine ig fun a=>?_;refine bz lm ?_;refine bo (aM (S:=Int×(aA YV)) (enc:=fun⟨e,s⟩=>(Q [bF 0 1,(1,.fn 113 [] []),aU 4 b,aT 16 c.aE,cH 17 c.aE,aU 18 b,cG 24 a.aQ,cH 25 a.aQ,aU 26 e] (aR 3 a::cL s c h))) (encE:=(fun(p:aA YV)=>(xq 2 [bF 0 1,(1,.fn 113 [] []),aT 16 c.aE,cH 17 c.aE,aU 18 b] (aR 3 a::cL p c h)))) (fun⟨e,s⟩=>?_) bP (0,r)) fun p=>?_;refine ig fun f=>?_;refine bz lm ?_;refine bo (aM (S:=Int×(aA YV)) (enc:=fun⟨g,t⟩=>(Q [bF 0 1,(1,.fn 113 [] []),aU 4 b,aU 6 e,aT 16 c.aE,cH 17 c.aE,aU 18 b,cG 24 a.aQ,cH 25 a.aQ,aU 26 e,cU 32 f.aO,cH 33 f.aO,aU 34 g] (dG 4 f::aR 3 a::cL t c h))) (encE:=(fun(o:aA YV)=>(xq 4 [bF 0 1,(1,.fn 113 [] []),aU 4 b,aT 16 c.aE,cH 17 c.aE,aU 18 b,cG 24 a.aQ,cH 25 a.aQ,aU 26 e] (dG 4 f::aR 3 a::cL o c h)))) (fun⟨g,t⟩=>?_) bP (0,s)) fun o=>?_;refine ig fun l=>?_;refine bz lm ?_;refine bo (aM (S:=Int×(aA YV)) (enc:=fun⟨i,j⟩=>(Q [bF 0 1,(1,.fn 113 [] []),aU 4 b,aU 6 e,aU 8 g,aT 16 c.aE,cH 17 c.aE,aU 18 b,cG 24 a.aQ,cH 25 a.aQ,aU 26 e,cU 32 f.aO,cH 33 f.aO,aU 34 g,eQ 40 l.aX,cH 41 l.aX,aU 42 i] (cN 5 l::dG 4 f::aR 3 a::cL j c h))) (encE:=(fun(n:aA YV)=>(xq 6 [bF 0 1,(1,.fn 113 [] []),aU 4 b,aU 6 e,aT 16 c.aE,cH 17 c.aE,aU 18 b,cG 24 a.aQ,cH 25 a.aQ,aU 26 e,cU 32 f.aO,cH 33 f.aO,aU 34 g] (cN 5 l::dG 4 f::aR 3 a::cL n c h)))) (fun⟨i,j⟩=>?_) bP (0,t)) fun n=>?_;refine ig fun m=>?_;refine bo (dM2 d (YP.mk 4 0 e b g i 0) m) fun u=>?_;refine bo (lG (d+8) u m.ID j c h) fun w=>?_;rfl;rfl;rfl;rfl;rfl
def hA1 (x1:aA YV) (a:Y0) (b:Int):aB (aA YV):=
 (Xa x1 a b).bind fun c=>some c
def dN2 (x1:aA YV) (a:Y0) (b:Int):gY (XD k (d+11)) 63 [.ref 1 0] (cL x1 a b) 3 false=(hA1 x1 a b).map (fun(c:aA YV)=>((.tup [],(cL c a b),0))):=by
 rw[xd (fn:=p63) rfl];refine bo (xA1 d x1 a b) fun e=>?_;rfl
end Go.P
namespace Go.P
open Go.Sim (Ex hZ CK)
open K (I Q rq nq xq ck)
variable {k:Bool} (d:Nat)
def F47 (x1:Y0) (c:Int):aB (Int×Int×Int):=
 if decide (c<0)then some (0,0,2)else(aW (E:=(Int×Int)⊕Unit) (fun(⟨a,b⟩:Int×Int)=>dH x1.cD b (fun d=>if decide (a<(d.eG.length:Int))then some (.inr (.inl (b,a)))else some (.inl ((bN (a-(d.eG.length:Int))),(bN (b+1))))) (some (.inr (.inr ())))) bP (c,0)).bind fun e=>(match e with|.inl ⟨x7,x8⟩=>some (x7,x8,0)|.inr _=>some (0,0,2))
def qH2 (x1:Y0) (a:Int):OD k (d+1) 47 [eW x1,i64 a]=(F47 x1 a).map (fun⟨h,i,j⟩=>.tup [i64 h,i64 i,i64 j]):=oe rfl<|by
 refine io rfl ?_;refine bz lm ?_;refine bo (aM (S:=Int×Int) (enc:=fun⟨b,c⟩=>(Q [aU 1 b,kA 12 x1.cD,cH 13 x1.cD,aU 14 c] [aL 0 x1])) (encE:=(fun|.inl ⟨e,f⟩=>(rq [aU 4 e,aU 5 f,aU 6 0] [aL 0 x1])|.inr _=>(xq 0 [] [aL 0 x1]))) (fun⟨b,c⟩=>?_) bP (a,0)) fun g=>?_;refine ig fun l=>?_;refine bz lm ?_;refine io rfl ?_;refine bz lm ?_;rfl;rcases g with⟨e,f⟩|_;rfl;rfl
def hB1 (x1:YH) (a:Int):aB Bool:=
 (Ue x1).bind fun⟨b,d⟩=>(qQ (bN (b+a)) 0 127).bind fun c=>some (!c)
def tT1 (x1:YH) (a:Int):OD k (d+5) 116 [eO x1,.ip [i64 a]]=(hB1 x1 a).map bv:=oe rfl<|by
 refine bo (gM1 d x1) fun⟨b,c⟩=>?_;refine bo (nZ (d+3) (bN (b+a)) 0 127) fun e=>?_;rfl
def oX1 (x1:YB) (a:Int):aB Bool:=
 (hB1 x1.dC a).bind fun b=>some b
def dO2 (x1:YB) (a:Int):OD k (d+6) 119 [yP x1,.ip [.fn 116 [] [.ip [i64 a]]]]=(oX1 x1 a).map bv:=oe rfl<|by
 refine bo (tT1 d x1.dC a) fun b=>?_;rfl
def oY1 (x1:aA YB) (b:Int):aB Int:=
 (aW (E:=Int⊕Unit) (fun(a:Int)=>dH x1 a (fun c=>(oX1 c b).bind fun d=>if d then some (.inr (.inl a))else some (.inl (bN (a+1)))) (some (.inr (.inr ())))) bP 0).bind fun e=>(match e with|.inl x8=>some x8|.inr _=>some (-1))
def dP2 (x1:aA YB) (a:Int):OD k (d+7) 186 [lE x1,.fn 119 [] [.ip [.fn 116 [] [.ip [i64 a]]]]]=(oY1 x1 a).map i64:=oe rfl<|by
 refine bz lm ?_;refine bo (aM (S:=Int) (enc:=fun b=>(Q [mK 0 x1,(1,.fn 119 [] [.ip [.fn 116 [] [.ip [i64 a]]]]),cH 7 x1,aU 8 b] [])) (encE:=Qt 4) (fun b=>?_) bP 0) fun e=>?_;refine ig fun c=>?_;refine bo (dO2 d c a) fun f=>?_;refine io rfl rfl;rcases e with g|_;rfl;rfl
def oZ1 (x1:aA YB) (a:Int):aB Bool:=
 (oY1 x1 a).bind fun b=>some (decide (b>=0))
def dQ2 (x1:aA YB) (a:Int):OD k (d+8) 118 [lE x1,.fn 119 [] [.ip [.fn 116 [] [.ip [i64 a]]]]]=(oZ1 x1 a).map bv:=oe rfl<|by
 refine bo (dP2 d x1 a) fun b=>?_;rfl
def pA1 (x1:YD) (a:Int):aB Bool:=
 (hB1 x1.dC a).bind fun b=>some b
def dR2 (x1:YD) (a:Int):OD k (d+6) 121 [aF1 x1,.ip [.fn 116 [] [.ip [i64 a]]]]=(pA1 x1 a).map bv:=oe rfl<|by
 refine bo (tT1 d x1.dC a) fun b=>?_;rfl
def pB1 (x1:aA YD) (b:Int):aB Int:=
 (aW (E:=Int⊕Unit) (fun(a:Int)=>dH x1 a (fun c=>(pA1 c b).bind fun d=>if d then some (.inr (.inl a))else some (.inl (bN (a+1)))) (some (.inr (.inr ())))) bP 0).bind fun e=>(match e with|.inl x8=>some x8|.inr _=>some (-1))
def dS2 (x1:aA YD) (a:Int):OD k (d+7) 187 [nK x1,.fn 121 [] [.ip [.fn 116 [] [.ip [i64 a]]]]]=(pB1 x1 a).map i64:=oe rfl<|by
 refine bz lm ?_;refine bo (aM (S:=Int) (enc:=fun b=>(Q [sO 0 x1,(1,.fn 121 [] [.ip [.fn 116 [] [.ip [i64 a]]]]),cH 7 x1,aU 8 b] [])) (encE:=Qt 4) (fun b=>?_) bP 0) fun e=>?_;refine ig fun c=>?_;refine bo (dR2 d c a) fun f=>?_;refine io rfl rfl;rcases e with g|_;rfl;rfl
def pC1 (x1:aA YD) (a:Int):aB Bool:=
 (pB1 x1 a).bind fun b=>some (decide (b>=0))
def dT2 (x1:aA YD) (a:Int):OD k (d+8) 120 [nK x1,.fn 121 [] [.ip [.fn 116 [] [.ip [i64 a]]]]]=(pC1 x1 a).map bv:=oe rfl<|by
 refine bo (dS2 d x1 a) fun b=>?_;rfl
def pD1 (x1:YP) (e:YE) (f:YK):aB Bool:=
 (Lx e).bind fun h=>if h !=0 then some false else(F47 f.s' x1.iM).bind fun⟨i,l,j⟩=>((if j==0 then(cC f.s'.cD i).bind fun k=>some k.jK.bK else some 0:aB (Int))).bind fun g=>((if f.s'.fB then some (bN (0-g))else some g:aB (Int))).bind fun a=>(oZ1 e.dJ a).bind fun b=>((if b then some true else(pC1 e.cX a).bind fun c=>some c:aB (Bool))).bind fun d=>some d
def dU2 (x1:YP) (b:YE) (c:YK):OD k (d+9) 115 [fK x1,eU b,.ip [dB c]]=(pD1 x1 b c).map bv:=oe rfl<|by
 refine bo (Jz d b) fun j=>?_;refine io rfl ?_;refine bo (qH2 (d+7) c.s' x1.iM) fun⟨l,m,n⟩=>?_;refine bo (e:=(fun(f:Int)=>(nq [(2,.ip [dB c]),bF 4 1,bF 6 2] [(2,.box [i64 f]),eR 1 b,bM 0 x1]))) ?_ fun f=>?_;refine ig fun o=>?_;rfl;refine bo (e:=(fun(a:Int)=>(nq [bF 4 1,bF 6 2] [(2,.box [i64 a]),eR 1 b,bM 0 x1]))) ?_ fun a=>?_;refine io rfl rfl;refine bo (dQ2 d b.dJ a) fun g=>?_;refine bo (e:=id) ?_ fun i=>?_;refine io rfl ?_;refine bo (dT2 d b.cX a) fun h=>?_;rfl;rfl
def Di (x1:aA YV) (p:Y0) (t:Int):aB (aA YV):=
 (aW (E:=aA YV) (fun(⟨d,m⟩:Int×(aA YV))=>dH p.aE d (fun q=>(aW (E:=aA YV) (fun(⟨e,n⟩:Int×(aA YV))=>dH q.aQ e (fun r=>(aW (E:=aA YV) (fun(⟨f,o⟩:Int×(aA YV))=>dH r.aO f (fun s=>(aW (E:=aA YV) (fun(⟨a,b⟩:Int×(aA YV))=>dH s.aX a (fun c=>(pD1 (YP.mk 4 0 e d f a 0) c (YK.mk p t b)).bind fun g=>(nA g c.ID b p t).bind fun h=>some (.inl ((bN (a+1)),h))) (some (.inr b))) bP (0,o)).bind fun i=>some (.inl ((bN (f+1)),i))) (some (.inr o))) bP (0,n)).bind fun j=>some (.inl ((bN (e+1)),j))) (some (.inr n))) bP (0,m)).bind fun k=>some (.inl ((bN (d+1)),k))) (some (.inr m))) bP (0,x1)).bind fun l=>some l
def hD1 (x1:aA YV) (c:Y0) (h:Int):gY (XD k (d+10)) 112 [.ref 1 0,.fn 115 [] [.ref 3 0]] ((3,.box [.ref 1 0])::cL x1 c h) 4 false=(Di x1 c h).map (fun(v:aA YV)=>((.tup [],((3,.box [.ref 1 0])::cL v c h),0))):=by
 rw[xd (fn:=Zx) rfl];refine bz lm ?_;refine bo (aM (S:=Int×(aA YV)) (enc:=fun⟨b,r⟩=>(Q [bF 0 1,(1,.fn 115 [] [.ref 3 0]),aT 16 c.aE,cH 17 c.aE,aU 18 b] ((3,.box [.ref 1 0])::cL r c h))) (encE:=(fun(q:aA YV)=>(xq 0 [] ((3,.box [.ref 1 0])::cL q c h)))) (fun⟨b,r⟩=>?_) bP (0,x1)) fun q=>?_;refine ig fun a=>?_;refine bz lm ?_;refine bo (aM (S:=Int×(aA YV)) (enc:=fun⟨e,s⟩=>(Q [bF 0 1,(1,.fn 115 [] [.ref 3 0]),aU 4 b,aT 16 c.aE,cH 17 c.aE,aU 18 b,cG 24 a.aQ,cH 25 a.aQ,aU 26 e] (aR 4 a::(3,.box [.ref 1 0])::cL s c h))) (encE:=(fun(p:aA YV)=>(xq 2 [bF 0 1,(1,.fn 115 [] [.ref 3 0]),aT 16 c.aE,cH 17 c.aE,aU 18 b] (aR 4 a::(3,.box [.ref 1 0])::cL p c h)))) (fun⟨e,s⟩=>?_) bP (0,r)) fun p=>?_;refine ig fun f=>?_;refine bz lm ?_;refine bo (aM (S:=Int×(aA YV)) (enc:=fun⟨i,t⟩=>(Q [bF 0 1,(1,.fn 115 [] [.ref 3 0]),aU 4 b,aU 6 e,aT 16 c.aE,cH 17 c.aE,aU 18 b,cG 24 a.aQ,cH 25 a.aQ,aU 26 e,cU 32 f.aO,cH 33 f.aO,aU 34 i] (dG 5 f::aR 4 a::(3,.box [.ref 1 0])::cL t c h))) (encE:=(fun(o:aA YV)=>(xq 4 [bF 0 1,(1,.fn 115 [] [.ref 3 0]),aU 4 b,aT 16 c.aE,cH 17 c.aE,aU 18 b,cG 24 a.aQ,cH 25 a.aQ,aU 26 e] (dG 5 f::aR 4 a::(3,.box [.ref 1 0])::cL o c h)))) (fun⟨i,t⟩=>?_) bP (0,s)) fun o=>?_;refine ig fun l=>?_;refine bz lm ?_;refine bo (aM (S:=Int×(aA YV)) (enc:=fun⟨j,g⟩=>(Q [bF 0 1,(1,.fn 115 [] [.ref 3 0]),aU 4 b,aU 6 e,aU 8 i,aT 16 c.aE,cH 17 c.aE,aU 18 b,cG 24 a.aQ,cH 25 a.aQ,aU 26 e,cU 32 f.aO,cH 33 f.aO,aU 34 i,eQ 40 l.aX,cH 41 l.aX,aU 42 j] (cN 6 l::dG 5 f::aR 4 a::(3,.box [.ref 1 0])::cL g c h))) (encE:=(fun(n:aA YV)=>(xq 6 [bF 0 1,(1,.fn 115 [] [.ref 3 0]),aU 4 b,aU 6 e,aT 16 c.aE,cH 17 c.aE,aU 18 b,cG 24 a.aQ,cH 25 a.aQ,aU 26 e,cU 32 f.aO,cH 33 f.aO,aU 34 i] (cN 6 l::dG 5 f::aR 4 a::(3,.box [.ref 1 0])::cL n c h)))) (fun⟨j,g⟩=>?_) bP (0,t)) fun n=>?_;refine ig fun m=>?_;refine bo (dU2 d (YP.mk 4 0 e b i j 0) m (YK.mk c h g)) fun u=>?_;refine bo (lG (d+8) u m.ID g c h) fun w=>?_;rfl;rfl;rfl;rfl;rfl
def hF1 (x1:aA YV) (a:Y0) (b:Int):aB (aA YV):=
 (Di x1 a b).bind fun c=>some c
def dV2 (x1:aA YV) (a:Y0) (b:Int):gY (XD k (d+11)) 64 [.ref 1 0] (cL x1 a b) 3 false=(hF1 x1 a b).map (fun(c:aA YV)=>((.tup [],(cL c a b),0))):=by
 rw[xd (fn:=p64) rfl];refine bo (hD1 d x1 a b) fun e=>?_;rfl
def pE1 (x1:YB):aB Bool:=
 some x1.Rn
def dW2 (x1:YB):OD k (d+1) 188 [yP x1]=(pE1 x1).map bv:=oe rfl<|by
 rfl
def Mf (x1:aA YB):aB Int:=
 (aW (E:=Int⊕Unit) (fun(a:Int)=>dH x1 a (fun b=>(pE1 b).bind fun c=>if c then some (.inr (.inl a))else some (.inl (bN (a+1)))) (some (.inr (.inr ())))) bP 0).bind fun d=>(match d with|.inl x7=>some x7|.inr _=>some (-1))
def pF1 (x1:aA YB):OD k (d+2) 186 [lE x1,.fn 188 [] []]=(Mf x1).map i64:=oe rfl<|by
 refine bz lm ?_;refine bo (aM (S:=Int) (enc:=fun a=>(Q [mK 0 x1,(1,.fn 188 [] []),cH 7 x1,aU 8 a] [])) (encE:=Qt 4) (fun a=>?_) bP 0) fun c=>?_;refine ig fun b=>?_;refine bo (dW2 d b) fun e=>?_;refine io rfl rfl;rcases c with f|_;rfl;rfl
def Mg (x1:aA YB):aB Bool:=
 (Mf x1).bind fun a=>some (decide (a>=0))
def pG1 (x1:aA YB):OD k (d+3) 118 [lE x1,.fn 188 [] []]=(Mg x1).map bv:=oe rfl<|by
 refine bo (pF1 d x1) fun a=>?_;rfl
def hG1 (x1:YE):aB Bool:=
 ((if x1.dW==1 then(Mg x1.dJ).bind fun a=>some a else some false:aB (Bool))).bind fun b=>some b
def tU1 (x1:YE):OD k (d+4) 123 [eU x1]=(hG1 x1).map bv:=oe rfl<|by
 refine bo (e:=id) ?_ fun b=>?_;refine io ?_ rfl;refine bo (pG1 d x1.dJ) fun a=>?_;rfl;rfl
def Mh (x1:Y0) (a b f:Int):aB (aA YE):=
 ((if((decide (a<0))||(decide (a>=(x1.aE.length:Int))))||(decide (b<0))then some true else(cC x1.aE a).bind fun g=>some (decide (b>=(g.aQ.length:Int))):aB (Bool))).bind fun h=>((if h||(decide (f<0))then some true else(cC x1.aE a).bind fun i=>(cC i.aQ b).bind fun j=>some (decide (f>=(j.aO.length:Int))):aB (Bool))).bind fun k=>if k then some []else(cC x1.aE a).bind fun c=>(cC c.aQ b).bind fun d=>(cC d.aO f).bind fun e=>some e.aX
def Xb (x1:Y0) (a b c:Int):OD k (d+1) 190 [eW x1,i64 a,i64 b,i64 c]=(Mh x1 a b c).map (fun i=>mH i):=oe rfl<|by
 refine bz (kG (bz lm rfl)) ?_;refine bz (kG rfl) ?_;refine bo (e:=id) ?_ fun l=>?_;refine io rfl ?_;refine bo rg fun j=>?_;refine bz lm ?_;rfl;refine bz (kG rfl) ?_;refine bo (e:=id) ?_ fun o=>?_;refine io rfl ?_;refine bo rg fun m=>?_;refine bo rg fun n=>?_;refine bz lm ?_;rfl;refine io rfl ?_;refine bo rg fun f=>?_;refine bo rg fun g=>?_;refine bo rg fun h=>?_;rfl
def hH1 (x1:Y0) (a:YP):aB Int:=
 if a.dW !=4 then some 11 else((if decide (a.pW<0)then some true else(Mh x1 a.cW a.iM a.iV).bind fun b=>some (decide (a.pW>=(b.length:Int))):aB (Bool))).bind fun c=>if c then some 2 else some 0
def tV1 (x1:Y0) (a:YP):OD k (d+2) 189 [eW x1,fK a]=(hH1 x1 a).map i64:=oe rfl<|by
 refine io rfl ?_;refine bo (e:=id) ?_ fun c=>?_;refine io rfl ?_;refine bo (Xb d x1 a.cW a.iM a.iV) fun b=>?_;refine bz lm ?_;rfl;refine io rfl rfl
def hJ1 (x1 a:Int) (b c:Int):aB YP:=
 some (YP.mk 4 0 a x1 b c 0)
def tW1 (x1 a:Int) (b c:Int):OD k (d+1) 191 [i64 x1,i64 a,i64 b,i64 c]=(hJ1 x1 a b c).map (fun e=>fK e):=oe rfl<|by
 rfl
def hK1 (x1:Y0) (a:YP):aB (YP×Bool):=
 (hH1 x1 a).bind fun b=>if b !=0 then some ((YP.mk 0 0 0 0 0 0 0),false)else(Mh x1 a.cW a.iM a.iV).bind fun c=>if decide ((bN (a.pW+1))<(c.length:Int))then(hJ1 a.cW a.iM a.iV (bN (a.pW+1))).bind fun d=>some (d,true)else(Mh x1 (bN (a.cW+1)) a.iM a.iV).bind fun e=>if decide ((e.length:Int)>0)then(hJ1 (bN (a.cW+1)) a.iM a.iV 0).bind fun f=>some (f,true)else some ((YP.mk 0 0 0 0 0 0 0),false)
def tX1 (x1:Y0) (a:YP):OD k (d+3) 124 [eW x1,fK a]=(hK1 x1 a).map (fun⟨b,c⟩=>.tup [fK b,bv c]):=oe rfl<|by
 refine bo (tV1 d x1 a) fun e=>?_;refine io rfl ?_;refine bo (Xb (d+1) x1 a.cW a.iM a.iV) fun f=>?_;refine bz lm ?_;refine io ?_ ?_;refine bo (tW1 (d+1) a.cW a.iM a.iV (bN (a.pW+1))) fun g=>?_;rfl;refine bo (Xb (d+1) x1 (bN (a.cW+1)) a.iM a.iV) fun h=>?_;refine bz lm ?_;refine io ?_ rfl;refine bo (tW1 (d+1) (bN (a.cW+1)) a.iM a.iV 0) fun i=>?_;rfl
def Xc (x1:YE):aB ((aA YY)×(aA YD)×(aA YB)):=
 (lD x1.dJ).bind fun a=>(lD x1.cX).bind fun b=>(lD x1.dL).bind fun c=>some (c,b,a)
def xB1 (x1:YE):gY (XD k (d+2)) 192 [eU x1] [] 3 true=(Xc x1).map (fun(⟨a,b,c⟩:(aA YY)×(aA YD)×(aA YB))=>((.agg [i64 x1.ID.fS,i64 x1.ID.cO,i64 x1.dW,i64 x1.Value.Log,i64 x1.Value.pY,.own 5,.own 6,i64 x1.bR,i64 x1.dV,i64 x1.eK,.own 7,i64 x1.nC,i64 x1.nD],[(7,.lst 131 2 true (I YY.g a)),(6,.lst 96 5 true (I YD.g b)),(5,.lst 87 5 true (I YB.g c))],8))):=by
 rw[xd (fn:=mT1) rfl];refine bo (mG 244 d 87 5 _ _ 5 rfl rfl rfl (fun _=>rfl)) fun e=>?_;refine bo (mG 245 d 96 5 _ _ 6 rfl rfl rfl (fun _=>rfl)) fun f=>?_;refine bo (mG 246 d 131 2 _ _ 7 rfl rfl rfl (fun _=>rfl)) fun h=>?_;rfl
def pH1 (x1:Y0) (b:YP):aB (YE×Int):=
 (hH1 x1 b).bind fun c=>if c !=0 then some ((YE.mk (YZ.mk 0 0) 0 (YA.mk 0 0) [] [] 0 0 0 [] 0 0),c)else(Mh x1 b.cW b.iM b.iV).bind fun d=>(cC d b.pW).bind fun a=>(Xc a).bind fun⟨e,f,g⟩=>some ((YE.mk a.ID a.dW a.Value g f a.bR a.dV a.eK e a.nC a.nD),0)
def dX2 (x1:Y0) (a:YP):OD k (d+3) 125 [eW x1,fK a]=(pH1 x1 a).map (fun⟨c,e⟩=>.tup [eU c,i64 e]):=oe rfl<|by
 refine bo (tV1 d x1 a) fun f=>?_;refine io rfl ?_;refine bo (Xb (d+1) x1 a.cW a.iM a.iV) fun g=>?_;refine bo rg fun b=>?_;refine bo (xB1 d b) fun⟨h,i,j⟩=>?_;rfl
def pI1 (x1 a:YB):aB Bool:=
 some (((x1.dC.kE==a.dC.kE)&&((x1.dC.jA==a.dC.jA)&&((x1.dC.fW==a.dC.fW)&&true)))!=false)
def dY2 (x1 a:YB):OD k (d+1) 193 [yP x1,yS a]=(pI1 x1 a).map bv:=oe rfl<|by
 rfl
def Mi (x1:aA YB) (b:YB):aB Int:=
 (aW (E:=Int⊕Unit) (fun(a:Int)=>dH x1 a (fun c=>(pI1 c b).bind fun d=>if d then some (.inr (.inl a))else some (.inl (bN (a+1)))) (some (.inr (.inr ())))) bP 0).bind fun e=>(match e with|.inl x8=>some x8|.inr _=>some (-1))
def pJ1 (x1:aA YB) (a:YB):OD k (d+2) 186 [lE x1,.fn 193 [] [yS a]]=(Mi x1 a).map i64:=oe rfl<|by
 refine bz lm ?_;refine bo (aM (S:=Int) (enc:=fun b=>(Q [mK 0 x1,(1,.fn 193 [] [yS a]),cH 7 x1,aU 8 b] [])) (encE:=Qt 4) (fun b=>?_) bP 0) fun e=>?_;refine ig fun c=>?_;refine bo (dY2 d c a) fun f=>?_;refine io rfl rfl;rcases e with g|_;rfl;rfl
def Mj (x1:aA YB) (a:YB):aB Bool:=
 (Mi x1 a).bind fun b=>some (decide (b>=0))
def pK1 (x1:aA YB) (a:YB):OD k (d+3) 118 [lE x1,.fn 193 [] [yS a]]=(Mj x1 a).map bv:=oe rfl<|by
 refine bo (pJ1 d x1 a) fun b=>?_;rfl
def pL1 (x1 d:YE):aB Bool:=
 if x1.dW !=1 then some true else(aW (E:=Unit⊕Unit) (fun(e:Int)=>dH x1.dJ e (fun f=>((if f.Rn then((if d.dW==1 then(Mj d.dJ f).bind fun g=>some g else some false:aB (Bool))).bind fun a=>some (!a)else some false:aB (Bool))).bind fun b=>if b then some (.inr (.inl ()))else some (.inl (bN (e+1)))) (some (.inr (.inr ())))) bP 0).bind fun c=>(match c with|.inl _=>some false|.inr _=>some true)
def dZ2 (x1 a:YE):OD k (d+4) 126 [eU x1,eU a]=(pL1 x1 a).map bv:=oe rfl<|by
 refine io rfl ?_;refine bz lm ?_;refine bo (aM (S:=Int) (enc:=fun c=>(Q [bF 3 1,mK 11 x1.dJ,cH 12 x1.dJ,aU 13 c] [eR 1 a,eR 0 x1])) (encE:=(fun|.inl _=>(rq [(4,bv false)] [eR 1 a,eR 0 x1])|.inr _=>(xq 0 [] [eR 1 a,eR 0 x1]))) (fun c=>?_) bP 0) fun b=>?_;refine ig fun h=>?_;refine bo (e:=id) ?_ fun g=>?_;refine io ?_ rfl;refine bo (e:=id) ?_ fun f=>?_;refine io ?_ rfl;refine bo (pK1 d a.dJ h) fun i=>?_;rfl;rfl;refine io rfl rfl;rcases b with _|_;rfl;rfl
def pM1 (x1:YP) (b:YE) (c:YK):aB Bool:=
 (hG1 b).bind fun d=>if !d then some false else(hK1 c.s' x1).bind fun⟨e,f⟩=>(pH1 c.s' e).bind fun⟨g,i⟩=>((if !f then some true else(pL1 b g).bind fun h=>some (!h):aB (Bool))).bind fun a=>some a
def eA2 (x1:YP) (a:YE) (b:YK):OD k (d+5) 122 [fK x1,eU a,.ip [dB b]]=(pM1 x1 a b).map bv:=oe rfl<|by
 refine bo (tU1 d a) fun h=>?_;refine io rfl ?_;refine bo (tX1 (d+1) b.s' x1) fun⟨f,i⟩=>?_;refine bo (dX2 (d+1) b.s' f) fun⟨g,j⟩=>?_;refine bo (e:=id) ?_ fun c=>?_;refine io rfl ?_;refine bo (dZ2 d a g) fun l=>?_;rfl;rfl
def Dj (x1:aA YV) (p:Y0) (t:Int):aB (aA YV):=
 (aW (E:=aA YV) (fun(⟨d,m⟩:Int×(aA YV))=>dH p.aE d (fun q=>(aW (E:=aA YV) (fun(⟨e,n⟩:Int×(aA YV))=>dH q.aQ e (fun r=>(aW (E:=aA YV) (fun(⟨f,o⟩:Int×(aA YV))=>dH r.aO f (fun s=>(aW (E:=aA YV) (fun(⟨a,b⟩:Int×(aA YV))=>dH s.aX a (fun c=>(pM1 (YP.mk 4 0 e d f a 0) c (YK.mk p t b)).bind fun g=>(nA g c.ID b p t).bind fun h=>some (.inl ((bN (a+1)),h))) (some (.inr b))) bP (0,o)).bind fun i=>some (.inl ((bN (f+1)),i))) (some (.inr o))) bP (0,n)).bind fun j=>some (.inl ((bN (e+1)),j))) (some (.inr n))) bP (0,m)).bind fun k=>some (.inl ((bN (d+1)),k))) (some (.inr m))) bP (0,x1)).bind fun l=>some l
def hL1 (x1:aA YV) (c:Y0) (h:Int):gY (XD k (d+6)) 112 [.ref 1 0,.fn 122 [] [.ref 3 0]] ((3,.box [.ref 1 0])::cL x1 c h) 4 false=(Dj x1 c h).map (fun(v:aA YV)=>((.tup [],((3,.box [.ref 1 0])::cL v c h),0))):=by
 rw[xd (fn:=Zx) rfl];refine bz lm ?_;refine bo (aM (S:=Int×(aA YV)) (enc:=fun⟨b,r⟩=>(Q [bF 0 1,(1,.fn 122 [] [.ref 3 0]),aT 16 c.aE,cH 17 c.aE,aU 18 b] ((3,.box [.ref 1 0])::cL r c h))) (encE:=(fun(q:aA YV)=>(xq 0 [] ((3,.box [.ref 1 0])::cL q c h)))) (fun⟨b,r⟩=>?_) bP (0,x1)) fun q=>?_;refine ig fun a=>?_;refine bz lm ?_;refine bo (aM (S:=Int×(aA YV)) (enc:=fun⟨e,s⟩=>(Q [bF 0 1,(1,.fn 122 [] [.ref 3 0]),aU 4 b,aT 16 c.aE,cH 17 c.aE,aU 18 b,cG 24 a.aQ,cH 25 a.aQ,aU 26 e] (aR 4 a::(3,.box [.ref 1 0])::cL s c h))) (encE:=(fun(p:aA YV)=>(xq 2 [bF 0 1,(1,.fn 122 [] [.ref 3 0]),aT 16 c.aE,cH 17 c.aE,aU 18 b] (aR 4 a::(3,.box [.ref 1 0])::cL p c h)))) (fun⟨e,s⟩=>?_) bP (0,r)) fun p=>?_;refine ig fun f=>?_;refine bz lm ?_;refine bo (aM (S:=Int×(aA YV)) (enc:=fun⟨i,t⟩=>(Q [bF 0 1,(1,.fn 122 [] [.ref 3 0]),aU 4 b,aU 6 e,aT 16 c.aE,cH 17 c.aE,aU 18 b,cG 24 a.aQ,cH 25 a.aQ,aU 26 e,cU 32 f.aO,cH 33 f.aO,aU 34 i] (dG 5 f::aR 4 a::(3,.box [.ref 1 0])::cL t c h))) (encE:=(fun(o:aA YV)=>(xq 4 [bF 0 1,(1,.fn 122 [] [.ref 3 0]),aU 4 b,aT 16 c.aE,cH 17 c.aE,aU 18 b,cG 24 a.aQ,cH 25 a.aQ,aU 26 e] (dG 5 f::aR 4 a::(3,.box [.ref 1 0])::cL o c h)))) (fun⟨i,t⟩=>?_) bP (0,s)) fun o=>?_;refine ig fun l=>?_;refine bz lm ?_;refine bo (aM (S:=Int×(aA YV)) (enc:=fun⟨j,g⟩=>(Q [bF 0 1,(1,.fn 122 [] [.ref 3 0]),aU 4 b,aU 6 e,aU 8 i,aT 16 c.aE,cH 17 c.aE,aU 18 b,cG 24 a.aQ,cH 25 a.aQ,aU 26 e,cU 32 f.aO,cH 33 f.aO,aU 34 i,eQ 40 l.aX,cH 41 l.aX,aU 42 j] (cN 6 l::dG 5 f::aR 4 a::(3,.box [.ref 1 0])::cL g c h))) (encE:=(fun(n:aA YV)=>(xq 6 [bF 0 1,(1,.fn 122 [] [.ref 3 0]),aU 4 b,aU 6 e,aT 16 c.aE,cH 17 c.aE,aU 18 b,cG 24 a.aQ,cH 25 a.aQ,aU 26 e,cU 32 f.aO,cH 33 f.aO,aU 34 i] (cN 6 l::dG 5 f::aR 4 a::(3,.box [.ref 1 0])::cL n c h)))) (fun⟨j,g⟩=>?_) bP (0,t)) fun n=>?_;refine ig fun m=>?_;refine bo (eA2 d (YP.mk 4 0 e b i j 0) m (YK.mk c h g)) fun u=>?_;refine bo (lG (d+4) u m.ID g c h) fun w=>?_;rfl;rfl;rfl;rfl;rfl
def hO1 (x1:aA YV) (a:Y0) (b:Int):aB (aA YV):=
 (Dj x1 a b).bind fun c=>some c
def eB2 (x1:aA YV) (a:Y0) (b:Int):gY (XD k (d+7)) 65 [.ref 1 0] (cL x1 a b) 3 false=(hO1 x1 a b).map (fun(c:aA YV)=>((.tup [],(cL c a b),0))):=by
 rw[xd (fn:=p65) rfl];refine bo (hL1 d x1 a b) fun e=>?_;rfl
def pN1 (x1:YE) (a:Int):aB Bool:=
 ((if decide (a>=(x1.dL.length:Int))then some true else(cC x1.dL a).bind fun b=>some (((b.qR==(⟨#[]⟩:ByteArray))&&((b.Ci==0)&&true))!=false):aB (Bool))).bind fun c=>some c
def eC2 (x1:YE) (a:Int):OD k (d+1) 194 [eU x1,i64 a]=(pN1 x1 a).map bv:=oe rfl<|by
 refine bz lm ?_;refine bo (e:=id) ?_ fun c=>?_;refine io rfl ?_;refine bo rg fun b=>?_;rfl;rfl
def Xe (x1 N T:Int) (U:aA (YP×Bool)) (W:aA YV) (V:Y0) (X:Int):aB (aA (YP×Bool)):=
 (aW (E:=Int×Int×Int×Int×Int×YY×(aA (YP×Bool))) (fun(⟨j,n,o,p,q,r,s,t⟩:Int×Int×Int×Int×Int×Int×YY×(aA (YP×Bool)))=>dH V.aE j (fun u=>((if decide (x1>=(u.aQ.length:Int))then some true else(cC u.aQ x1).bind fun O=>some (decide (N>=(O.aO.length:Int))):aB (Bool))).bind fun P=>if P then some (.inl ((bN (j+1)),n,o,p,q,r,s,t))else(cC u.aQ x1).bind fun R=>(cC R.aO N).bind fun S=>(aW (E:=Int×Int×Int×Int×Int×YY×(aA (YP×Bool))) (fun(⟨a,e,f,g,h,i,b,c⟩:Int×Int×Int×Int×Int×Int×YY×(aA (YP×Bool)))=>dH S.aX a (fun k=>(pN1 k T).bind fun v=>if v then some (.inl ((bN (a+1)),e,f,g,h,i,b,c))else(cC k.dL T).bind fun d=>((if(b.Ci==1)&&(d.qR.toList==(⟨#[]⟩:ByteArray).toList)then some (Zu c (YP.mk e 0 f g h i 0) true)else some c:aB (aA (YP×Bool)))).bind fun l=>((if((d.qR.toList==(⟨#[]⟩:ByteArray).toList)&&(d.Ci==2))&&(b.Ci !=2)then some (Zu l (YP.mk 4 0 x1 j N a 0) true)else some l:aB (aA (YP×Bool)))).bind fun w=>some (.inl ((bN (a+1)),4,x1,j,N,a,d,w))) (some (.inr (e,f,g,h,i,b,c)))) bP (0,n,o,p,q,r,s,t)).bind fun⟨x,y,z,A,B,C,D⟩=>some (.inl ((bN (j+1)),x,y,z,A,B,C,D))) (some (.inr (n,o,p,q,r,s,t)))) bP (0,0,0,0,0,0,(YY.mk (⟨#[]⟩:ByteArray) 0),U)).bind fun⟨F,G,H,J,K,L,m⟩=>((if L.Ci==1 then some (Zu m (YP.mk F 0 G H J K 0) true)else some m:aB (aA (YP×Bool)))).bind fun M=>some M
def xC1 (x1 y N:Int) (Y:aA (YP×Bool)) (z:aA YV) (c:Y0) (A:Int):gY (XD k (d+2)) 127 [.ref 1 0,i64 x1,i64 y,i64 N,.map 3] ((3,.mp (I (kQ (eA YP.g) bv) Y))::cL z c A) 4 false=(Xe x1 y N Y z c A).map (fun(X:aA (YP×Bool))=>((.tup [],((3,.mp (I (kQ (eA YP.g) bv) X))::cL z c A),0))):=by
 rw[xd (fn:=aN2) rfl];refine bz lm ?_;refine bo (aM (S:=Int×Int×Int×Int×Int×Int×YY×(aA (YP×Bool))) (enc:=fun⟨a,O,P,R,T,U,V,W⟩=>(Q [aU 1 x1,aU 2 y,aU 3 N,(4,.map 3),bF 10 4,bF 11 5,aT 22 c.aE,cH 23 c.aE,aU 24 a] ((5,.box [i64 O,i64 0,i64 P,i64 R,i64 T,i64 U,i64 0])::fL 4 V::(3,.mp (I (kQ (eA YP.g) bv) W))::cL z c A))) (encE:=(fun(⟨n,o,p,q,r,w,x⟩:Int×Int×Int×Int×Int×YY×(aA (YP×Bool)))=>(xq 0 [(4,.map 3),bF 10 4,bF 11 5] ((5,.box [i64 n,i64 0,i64 o,i64 p,i64 q,i64 r,i64 0])::fL 4 w::(3,.mp (I (kQ (eA YP.g) bv) x))::cL z c A)))) (fun⟨a,O,P,R,T,U,V,W⟩=>?_) bP (0,0,0,0,0,0,(YY.mk (⟨#[]⟩:ByteArray) 0),Y)) fun⟨n,o,p,q,r,w,x⟩=>?_;refine ig fun B=>?_;refine bz lm ?_;refine bo (e:=id) ?_ fun b4=>?_;refine io rfl ?_;refine bo rg fun b0=>?_;refine bz lm ?_;rfl;refine io rfl ?_;refine bo rg fun b5=>?_;refine bo rg fun s=>?_;refine bz lm ?_;refine bo (aM (S:=Int×Int×Int×Int×Int×Int×YY×(aA (YP×Bool))) (enc:=fun⟨b,f,h,i,j,l,m,t⟩=>(Q [aU 1 x1,aU 2 y,aU 3 N,(4,.map 3),bF 10 4,bF 11 5,aU 12 a,aT 22 c.aE,cH 23 c.aE,aU 24 a,eQ 54 s.aX,cH 55 s.aX,aU 56 b] (aR 6 B::(5,.box [i64 f,i64 0,i64 h,i64 i,i64 j,i64 l,i64 0])::fL 4 m::(3,.mp (I (kQ (eA YP.g) bv) t))::cL z c A))) (encE:=(fun(⟨E,F,G,H,J,K,L⟩:Int×Int×Int×Int×Int×YY×(aA (YP×Bool)))=>(xq 2 [aU 1 x1,aU 2 y,aU 3 N,(4,.map 3),bF 10 4,bF 11 5,aT 22 c.aE,cH 23 c.aE,aU 24 a] (aR 6 B::(5,.box [i64 E,i64 0,i64 F,i64 G,i64 H,i64 J,i64 0])::fL 4 K::(3,.mp (I (kQ (eA YP.g) bv) L))::cL z c A)))) (fun⟨b,f,h,i,j,l,m,t⟩=>?_) bP (0,O,P,R,T,U,V,W)) fun⟨E,F,G,H,J,K,L⟩=>?_;refine ig fun u=>?_;refine bo (eC2 d u N) fun Z=>?_;refine io rfl ?_;refine bo rg fun C=>?_;refine bz (jR rfl) ?_;refine bo (e:=(fun(v:aA (YP×Bool))=>(nq [aU 1 x1,aU 2 y,aU 3 N,(4,.map 3),bF 10 4,bF 11 5,aU 12 a,bF 16 8,bF 17 9,aT 22 c.aE,cH 23 c.aE,aU 24 a,eQ 54 s.aX,cH 55 s.aX,aU 56 b] (fL 9 C::(8,.box [i64 4,i64 0,i64 x1,i64 a,i64 y,i64 b,i64 0])::eR 7 u::aR 6 B::(5,.box [i64 f,i64 0,i64 h,i64 i,i64 j,i64 l,i64 0])::fL 4 m::(3,.mp (I (kQ (eA YP.g) bv) v))::cL z c A)))) ?_ fun v=>?_;refine io ?_ rfl;refine bz (sL lX bv t (YP.mk f 0 h i j l 0) true) ?_;rfl;refine bz (jR rfl) ?_;refine bz (jR rfl) ?_;refine bo (e:=(fun(D:aA (YP×Bool))=>(nq [aU 1 x1,aU 2 y,aU 3 N,(4,.map 3),bF 10 4,bF 11 5,aU 12 a,bF 16 8,bF 17 9,aT 22 c.aE,cH 23 c.aE,aU 24 a,eQ 54 s.aX,cH 55 s.aX,aU 56 b] (fL 9 C::(8,.box [i64 4,i64 0,i64 x1,i64 a,i64 y,i64 b,i64 0])::eR 7 u::aR 6 B::(5,.box [i64 f,i64 0,i64 h,i64 i,i64 j,i64 l,i64 0])::fL 4 m::(3,.mp (I (kQ (eA YP.g) bv) D))::cL z c A)))) ?_ fun D=>?_;refine io ?_ rfl;refine bz (sL lX bv v (YP.mk 4 0 x1 a y b 0) true) ?_;rfl;rfl;rfl;refine bo (e:=(fun(M:aA (YP×Bool))=>(nq [] ((5,.box [i64 n,i64 0,i64 o,i64 p,i64 q,i64 r,i64 0])::fL 4 w::(3,.mp (I (kQ (eA YP.g) bv) M))::cL z c A)))) ?_ fun M=>?_;refine io ?_ rfl;refine bz (sL lX bv x (YP.mk n 0 o p q r 0) true) ?_;rfl;rfl
def pO1 (x1:YP) (b:YE) (a:aA (YP×Bool)):aB Bool:=
 some (mO1 a x1 false)
def eD2 (x1:YP) (b:YE) (a:aA (YP×Bool)):OD k (d+1) 128 [fK x1,eU b,.ip [.im (I (kQ (eA YP.g) bv) a)]]=(pO1 x1 b a).map bv:=oe rfl<|by
 refine bz (Gx lX bv a x1 false) ?_;rfl
def Dk (x1:aA (YP×Bool)) (t:aA YV) (s:Y0) (u:Int):aB (aA YV):=
 (aW (E:=aA YV) (fun(⟨d,m⟩:Int×(aA YV))=>dH s.aE d (fun p=>(aW (E:=aA YV) (fun(⟨e,n⟩:Int×(aA YV))=>dH p.aQ e (fun q=>(aW (E:=aA YV) (fun(⟨f,o⟩:Int×(aA YV))=>dH q.aO f (fun r=>(aW (E:=aA YV) (fun(⟨a,b⟩:Int×(aA YV))=>dH r.aX a (fun c=>(pO1 (YP.mk 4 0 e d f a 0) c x1).bind fun g=>(nA g c.ID b s u).bind fun h=>some (.inl ((bN (a+1)),h))) (some (.inr b))) bP (0,o)).bind fun i=>some (.inl ((bN (f+1)),i))) (some (.inr o))) bP (0,n)).bind fun j=>some (.inl ((bN (e+1)),j))) (some (.inr n))) bP (0,m)).bind fun k=>some (.inl ((bN (d+1)),k))) (some (.inr m))) bP (0,t)).bind fun l=>some l
def hP1 (x1:aA (YP×Bool)) (x:aA YV) (c:Y0) (i:Int):gY (XD k (d+2)) 112 [.ref 1 0,.fn 128 [] [.ref 4 0]] ((4,.box [.map 3])::(3,.mp (I (kQ (eA YP.g) bv) x1))::cL x c i) 5 false=(Dk x1 x c i).map (fun(w:aA YV)=>((.tup [],((4,.box [.map 3])::(3,.mp (I (kQ (eA YP.g) bv) x1))::cL w c i),0))):=by
 rw[xd (fn:=Zx) rfl];refine bz lm ?_;refine bo (aM (S:=Int×(aA YV)) (enc:=fun⟨b,s⟩=>(Q [bF 0 1,(1,.fn 128 [] [.ref 4 0]),aT 16 c.aE,cH 17 c.aE,aU 18 b] ((4,.box [.map 3])::(3,.mp (I (kQ (eA YP.g) bv) x1))::cL s c i))) (encE:=(fun(r:aA YV)=>(xq 0 [] ((4,.box [.map 3])::(3,.mp (I (kQ (eA YP.g) bv) x1))::cL r c i)))) (fun⟨b,s⟩=>?_) bP (0,x)) fun r=>?_;refine ig fun a=>?_;refine bz lm ?_;refine bo (aM (S:=Int×(aA YV)) (enc:=fun⟨e,t⟩=>(Q [bF 0 1,(1,.fn 128 [] [.ref 4 0]),aU 4 b,aT 16 c.aE,cH 17 c.aE,aU 18 b,cG 24 a.aQ,cH 25 a.aQ,aU 26 e] (aR 5 a::(4,.box [.map 3])::(3,.mp (I (kQ (eA YP.g) bv) x1))::cL t c i))) (encE:=(fun(q:aA YV)=>(xq 2 [bF 0 1,(1,.fn 128 [] [.ref 4 0]),aT 16 c.aE,cH 17 c.aE,aU 18 b] (aR 5 a::(4,.box [.map 3])::(3,.mp (I (kQ (eA YP.g) bv) x1))::cL q c i)))) (fun⟨e,t⟩=>?_) bP (0,s)) fun q=>?_;refine ig fun f=>?_;refine bz lm ?_;refine bo (aM (S:=Int×(aA YV)) (enc:=fun⟨h,u⟩=>(Q [bF 0 1,(1,.fn 128 [] [.ref 4 0]),aU 4 b,aU 6 e,aT 16 c.aE,cH 17 c.aE,aU 18 b,cG 24 a.aQ,cH 25 a.aQ,aU 26 e,cU 32 f.aO,cH 33 f.aO,aU 34 h] (dG 6 f::aR 5 a::(4,.box [.map 3])::(3,.mp (I (kQ (eA YP.g) bv) x1))::cL u c i))) (encE:=(fun(p:aA YV)=>(xq 4 [bF 0 1,(1,.fn 128 [] [.ref 4 0]),aU 4 b,aT 16 c.aE,cH 17 c.aE,aU 18 b,cG 24 a.aQ,cH 25 a.aQ,aU 26 e] (dG 6 f::aR 5 a::(4,.box [.map 3])::(3,.mp (I (kQ (eA YP.g) bv) x1))::cL p c i)))) (fun⟨h,u⟩=>?_) bP (0,t)) fun p=>?_;refine ig fun m=>?_;refine bz lm ?_;refine bo (aM (S:=Int×(aA YV)) (enc:=fun⟨j,l⟩=>(Q [bF 0 1,(1,.fn 128 [] [.ref 4 0]),aU 4 b,aU 6 e,aU 8 h,aT 16 c.aE,cH 17 c.aE,aU 18 b,cG 24 a.aQ,cH 25 a.aQ,aU 26 e,cU 32 f.aO,cH 33 f.aO,aU 34 h,eQ 40 m.aX,cH 41 m.aX,aU 42 j] (cN 7 m::dG 6 f::aR 5 a::(4,.box [.map 3])::(3,.mp (I (kQ (eA YP.g) bv) x1))::cL l c i))) (encE:=(fun(o:aA YV)=>(xq 6 [bF 0 1,(1,.fn 128 [] [.ref 4 0]),aU 4 b,aU 6 e,aT 16 c.aE,cH 17 c.aE,aU 18 b,cG 24 a.aQ,cH 25 a.aQ,aU 26 e,cU 32 f.aO,cH 33 f.aO,aU 34 h] (cN 7 m::dG 6 f::aR 5 a::(4,.box [.map 3])::(3,.mp (I (kQ (eA YP.g) bv) x1))::cL o c i)))) (fun⟨j,l⟩=>?_) bP (0,u)) fun o=>?_;refine ig fun n=>?_;refine bo (eD2 d (YP.mk 4 0 e b h j 0) n x1) fun v=>?_;refine bo (lG d v n.ID l c i) fun y=>?_;rfl;rfl;rfl;rfl;rfl
def hQ1 (x1:aA YV) (g:Y0) (m:Int):aB (aA YV):=
 (F46 g).bind fun n=>(aW (E:=aA (YP×Bool)) (fun(⟨a,d⟩:Int×(aA (YP×Bool)))=>if decide (a<n)then(aW (E:=aA (YP×Bool)) (fun(⟨b,e⟩:Int×(aA (YP×Bool)))=>if decide (b<2)then(aW (E:=aA (YP×Bool)) (fun(⟨c,f⟩:Int×(aA (YP×Bool)))=>if decide (c<4)then(Xe a b c f x1 g m).bind fun h=>some (.inl ((bN (c+1)),h))else some (.inr f)) bP (0,e)).bind fun i=>some (.inl ((bN (b+1)),i))else some (.inr e)) bP (0,d)).bind fun j=>some (.inl ((bN (a+1)),j))else some (.inr d)) bP (0,[])).bind fun k=>(Dk k x1 g m).bind fun l=>some l
def eE2 (x1:aA YV) (c:Y0) (e:Int):gY (XD k (d+3)) 66 [.ref 1 0] (cL x1 c e) 3 false=(hQ1 x1 c e).map (fun(p:aA YV)=>((.tup [],(cL p c e),0))):=by
 rw[xd (fn:=p66) rfl];refine bo (bL2 (d+1) c) fun o=>?_;refine bo (aM (S:=Int×(aA (YP×Bool))) (enc:=fun⟨a,f⟩=>(Q [bF 0 1,bF 2 4,aU 13 o,aU 14 a] ((4,.box [.map 3])::(3,.mp (I (kQ (eA YP.g) bv) f))::cL x1 c e))) (encE:=(fun(l:aA (YP×Bool))=>(xq 0 [bF 0 1,bF 2 4] ((4,.box [.map 3])::(3,.mp (I (kQ (eA YP.g) bv) l))::cL x1 c e)))) (fun⟨a,f⟩=>?_) bP (0,[])) fun l=>?_;refine io ?_ rfl;refine bo (aM (S:=Int×(aA (YP×Bool))) (enc:=fun⟨b,h⟩=>(Q [bF 0 1,bF 2 4,aU 4 a,aU 13 o,aU 14 a,aU 17 b] ((4,.box [.map 3])::(3,.mp (I (kQ (eA YP.g) bv) h))::cL x1 c e))) (encE:=(fun(n:aA (YP×Bool))=>(xq 2 [bF 0 1,bF 2 4,aU 13 o,aU 14 a] ((4,.box [.map 3])::(3,.mp (I (kQ (eA YP.g) bv) n))::cL x1 c e)))) (fun⟨b,h⟩=>?_) bP (0,f)) fun n=>?_;refine io ?_ rfl;refine bo (aM (S:=Int×(aA (YP×Bool))) (enc:=fun⟨i,j⟩=>(Q [bF 0 1,bF 2 4,aU 4 a,aU 5 b,aU 13 o,aU 14 a,aU 17 b,aU 20 i] ((4,.box [.map 3])::(3,.mp (I (kQ (eA YP.g) bv) j))::cL x1 c e))) (encE:=(fun(m:aA (YP×Bool))=>(xq 4 [bF 0 1,bF 2 4,aU 4 a,aU 13 o,aU 14 a,aU 17 b] ((4,.box [.map 3])::(3,.mp (I (kQ (eA YP.g) bv) m))::cL x1 c e)))) (fun⟨i,j⟩=>?_) bP (0,h)) fun m=>?_;refine io ?_ rfl;refine bo (xC1 d a b i j x1 c e) fun q=>?_;rfl;rfl;rfl;refine bo (hP1 d l x1 c e) fun r=>?_;rfl
def Dl (x1:Y0):aB Unit:=
 some ()
def hR1 (x1:Y0):gY (XD k (d+1)) 166 [.ref 0 0] [aL 0 x1] 4 true=(Dl x1).map (fun(_:Unit)=>((.fn 231 [] [.ref 4 0],[(4,.box [.ref 0 0]),aL 0 x1],5))):=by
 rw[xd (fn:=wM1) rfl];rfl
def yW (x1 d:Int) (e f:Int) (g h i:Int) (b:YJ) (j:Bool) (c:YP) (a:YZ):aB (Unit⊕Unit):=
 if((b.ID.fS==a.fS)&&((b.ID.cO==a.cO)&&true))!=false then some (.inl ())else some (.inr ())
def aU1 (x1 c:Int) (e f:Int) (g h i:Int) (l:YJ) (j:Bool) (b:YP) (a:YZ):Fl (XD k (d+1)) 5 [.agg [i64 x1,i64 c,i64 e,i64 f,i64 g,i64 h,i64 i],Qs l] [(5,.loop 22 [bF 3 1,bF 4 2,bF 5 3] [13,14] cS cT false none),(3,.box [bv j]),bM 2 b,dE 1 a] 6=(yW x1 c e f g h i l j b a).map (fun|.inl _=>((bv false,[(5,.loop 22 [bF 3 1,bF 4 2,bF 5 3] [13,14] cS cT false (some .ret)),(3,.box [bv true]),(2,.box [i64 x1,i64 c,i64 e,i64 f,i64 g,i64 h,i64 i]),dE 1 a],0))|.inr _=>((bv true,[(5,.loop 22 [bF 3 1,bF 4 2,bF 5 3] [13,14] cS cT false none),(3,.box [bv j]),bM 2 b,dE 1 a],0))):=by
 rw[yd];refine bz (okg pQ) ?_;refine io rfl rfl
def sR (x1 d:Int) (e f:Int) (g h i:Int) (b:YF) (j:Bool) (c:YP) (a:YZ):aB (Unit⊕Unit):=
 if((b.ID.fS==a.fS)&&((b.ID.cO==a.cO)&&true))!=false then some (.inl ())else some (.inr ())
def Qx (x1 c:Int) (e f:Int) (g h i:Int) (l:YF) (j:Bool) (b:YP) (a:YZ):Fl (XD k (d+1)) 5 [.agg [i64 x1,i64 c,i64 e,i64 f,i64 g,i64 h,i64 i],Jx l] [(5,.loop 22 [bF 3 1,bF 4 2,bF 5 3] [13,14] cS cT false none),(3,.box [bv j]),bM 2 b,dE 1 a] 6=(sR x1 c e f g h i l j b a).map (fun|.inl _=>((bv false,[(5,.loop 22 [bF 3 1,bF 4 2,bF 5 3] [13,14] cS cT false (some .ret)),(3,.box [bv true]),(2,.box [i64 x1,i64 c,i64 e,i64 f,i64 g,i64 h,i64 i]),dE 1 a],0))|.inr _=>((bv true,[(5,.loop 22 [bF 3 1,bF 4 2,bF 5 3] [13,14] cS cT false none),(3,.box [bv j]),bM 2 b,dE 1 a],0))):=by
 rw[yd];refine bz (okg pQ) ?_;refine io rfl rfl
def sS (x1 d:Int) (e f:Int) (g h i:Int) (b:YM) (j:Bool) (c:YP) (a:YZ):aB (Unit⊕Unit):=
 if((b.ID.fS==a.fS)&&((b.ID.cO==a.cO)&&true))!=false then some (.inl ())else some (.inr ())
def Qy (x1 c:Int) (e f:Int) (g h i:Int) (l:YM) (j:Bool) (b:YP) (a:YZ):Fl (XD k (d+1)) 5 [.agg [i64 x1,i64 c,i64 e,i64 f,i64 g,i64 h,i64 i],mJ l] [(5,.loop 22 [bF 3 1,bF 4 2,bF 5 3] [13,14] cS cT false none),(3,.box [bv j]),bM 2 b,dE 1 a] 6=(sS x1 c e f g h i l j b a).map (fun|.inl _=>((bv false,[(5,.loop 22 [bF 3 1,bF 4 2,bF 5 3] [13,14] cS cT false (some .ret)),(3,.box [bv true]),(2,.box [i64 x1,i64 c,i64 e,i64 f,i64 g,i64 h,i64 i]),dE 1 a],0))|.inr _=>((bv true,[(5,.loop 22 [bF 3 1,bF 4 2,bF 5 3] [13,14] cS cT false none),(3,.box [bv j]),bM 2 b,dE 1 a],0))):=by
 rw[yd];refine bz (okg pQ) ?_;refine io rfl rfl
def sT (x1 d:Int) (e f:Int) (g h i:Int) (b:YE) (j:Bool) (c:YP) (a:YZ):aB (Unit⊕Unit):=
 if((b.ID.fS==a.fS)&&((b.ID.cO==a.cO)&&true))!=false then some (.inl ())else some (.inr ())
def Qz (x1 c:Int) (e f:Int) (g h i:Int) (l:YE) (j:Bool) (b:YP) (a:YZ):Fl (XD k (d+1)) 5 [.agg [i64 x1,i64 c,i64 e,i64 f,i64 g,i64 h,i64 i],Jw l] [(5,.loop 22 [bF 3 1,bF 4 2,bF 5 3] [13,14] cS cT false none),(3,.box [bv j]),bM 2 b,dE 1 a] 6=(sT x1 c e f g h i l j b a).map (fun|.inl _=>((bv false,[(5,.loop 22 [bF 3 1,bF 4 2,bF 5 3] [13,14] cS cT false (some .ret)),(3,.box [bv true]),(2,.box [i64 x1,i64 c,i64 e,i64 f,i64 g,i64 h,i64 i]),dE 1 a],0))|.inr _=>((bv true,[(5,.loop 22 [bF 3 1,bF 4 2,bF 5 3] [13,14] cS cT false none),(3,.box [bv j]),bM 2 b,dE 1 a],0))):=by
 rw[yd];refine bz (okg pQ) ?_;refine io rfl rfl
def sU (x1 d:Int) (e f:Int) (g h i:Int) (b:YN) (j:Bool) (c:YP) (a:YZ):aB (Unit⊕Unit):=
 if((b.ID.fS==a.fS)&&((b.ID.cO==a.cO)&&true))!=false then some (.inl ())else some (.inr ())
def Ra (x1 c:Int) (e f:Int) (g h i:Int) (l:YN) (j:Bool) (b:YP) (a:YZ):Fl (XD k (d+1)) 5 [.agg [i64 x1,i64 c,i64 e,i64 f,i64 g,i64 h,i64 i],Bz l] [(5,.loop 22 [bF 3 1,bF 4 2,bF 5 3] [13,14] cS cT false none),(3,.box [bv j]),bM 2 b,dE 1 a] 6=(sU x1 c e f g h i l j b a).map (fun|.inl _=>((bv false,[(5,.loop 22 [bF 3 1,bF 4 2,bF 5 3] [13,14] cS cT false (some .ret)),(3,.box [bv true]),(2,.box [i64 x1,i64 c,i64 e,i64 f,i64 g,i64 h,i64 i]),dE 1 a],0))|.inr _=>((bv true,[(5,.loop 22 [bF 3 1,bF 4 2,bF 5 3] [13,14] cS cT false none),(3,.box [bv j]),bM 2 b,dE 1 a],0))):=by
 rw[yd];refine bz (okg pQ) ?_;refine io rfl rfl
def Dm (x1:Y0) (u:Bool) (D:YP) (F:YZ):aB (YP⊕Unit):=
 (aW (E:=(Int×Int×Int)⊕Unit) (fun(⟨G,f⟩:Int×Int)=>dH x1.cD f (fun H=>(yW 1 f 0 0 0 0 0 H u D F).bind fun J=>(match J with|.inl _=>some (.inr (.inl (1,f,0)))|.inr _=>(cC x1.cD f).bind fun K=>(aW (E:=(Int×Int)⊕Int) (fun(⟨g,h⟩:Int×Int)=>if decide (h<(K.eG.length:Int))then(cC x1.cD f).bind fun L=>(cC L.eG h).bind fun M=>(sR 2 0 g 0 0 0 0 M u D F).bind fun N=>(match N with|.inl _=>some (.inr (.inl (g,g)))|.inr _=>some (.inl ((bN (g+1)),(bN (h+1)))))else some (.inr (.inr g))) bP (G,0)).bind fun O=>(match O with|.inl ⟨x33,x34⟩=>some (.inr (.inl (2,0,x34)))|.inr x35=>some (.inl (x35,(bN (f+1))))))) (some (.inr (.inr ())))) bP (0,0)).bind fun P=>(match P with|.inl ⟨x37,x38,x39⟩=>some (.inl (YP.mk x37 x38 x39 0 0 0 0))|.inr _=>(aW (E:=(Int×Int×Int×Int×Int)⊕Unit) (fun(a:Int)=>dH x1.aE a (fun i=>(sS 3 0 0 a 0 0 0 i u D F).bind fun j=>(match j with|.inl _=>some (.inr (.inl (3,0,a,0,0)))|.inr _=>(cC x1.aE a).bind fun k=>(aW (E:=(Int×Int×Int)⊕Unit) (fun(b:Int)=>if decide (b<(k.aQ.length:Int))then(cC x1.aE a).bind fun l=>(cC l.aQ b).bind fun m=>(aW (E:=(Int×Int)⊕Unit) (fun(c:Int)=>if decide (c<(m.aO.length:Int))then(cC x1.aE a).bind fun n=>(cC n.aQ b).bind fun o=>(cC o.aO c).bind fun p=>(aW (E:=Int⊕Unit) (fun(d:Int)=>if decide (d<(p.aX.length:Int))then(cC x1.aE a).bind fun q=>(cC q.aQ b).bind fun r=>(cC r.aO c).bind fun s=>(cC s.aX d).bind fun t=>(sT 4 0 b a c d 0 t u D F).bind fun v=>(match v with|.inl _=>some (.inr (.inl d))|.inr _=>some (.inl (bN (d+1))))else some (.inr (.inr ()))) bP 0).bind fun w=>(match w with|.inl x201=>some (.inr (.inl (c,x201)))|.inr _=>some (.inl (bN (c+1))))else some (.inr (.inr ()))) bP 0).bind fun x=>(match x with|.inl ⟨x203,x204⟩=>some (.inr (.inl (b,x203,x204)))|.inr _=>some (.inl (bN (b+1))))else some (.inr (.inr ()))) bP 0).bind fun y=>(match y with|.inl ⟨x206,x207,x208⟩=>some (.inr (.inl (4,x206,a,x207,x208)))|.inr _=>some (.inl (bN (a+1)))))) (some (.inr (.inr ())))) bP 0).bind fun z=>(match z with|.inl ⟨x210,x211,x212,x213,x214⟩=>some (.inl (YP.mk x210 0 x211 x212 x213 x214 0))|.inr _=>(aW (E:=Int⊕Unit) (fun(e:Int)=>dH x1.bU e (fun A=>(sU 5 0 0 0 0 0 e A u D F).bind fun B=>(match B with|.inl _=>some (.inr (.inl e))|.inr _=>some (.inl (bN (e+1))))) (some (.inr (.inr ())))) bP 0).bind fun C=>(match C with|.inl x221=>some (.inl (YP.mk 5 0 0 0 0 0 x221))|.inr _=>some (.inr ()))))
def hS1 (x1:Y0) (g:Bool) (h:YP) (c:YZ):gY (XD k (d+2)) 231 [.yld 5,.ref 4 0] [(5,.loop 22 [bF 3 1,bF 4 2,bF 5 3] [13,14] cS cT false none),(4,.box [.ref 0 0]),aL 0 x1,(3,.box [bv g]),bM 2 h,dE 1 c] 6 false=(Dm x1 g h c).map (fun|.inl x223=>((.tup [],[(5,.loop 22 [bF 3 1,bF 4 2,bF 5 3] [13,14] cS cT false (some .ret)),(4,.box [.ref 0 0]),aL 0 x1,(3,.box [bv true]),bM 2 x223,dE 1 c],0))|.inr _=>((.tup [],[(5,.loop 22 [bF 3 1,bF 4 2,bF 5 3] [13,14] cS cT false none),(4,.box [.ref 0 0]),aL 0 x1,(3,.box [bv g]),bM 2 h,dE 1 c],0))):=by
 rw[xd (fn:=wP1) rfl];refine bz lm ?_;refine bo (aM (S:=Int×Int) (enc:=fun⟨z,i⟩=>(Q [(0,.yld 5),bF 1 4,aU 3 z,cH 15 x1.cD,aU 16 i] [(5,.loop 22 [bF 3 1,bF 4 2,bF 5 3] [13,14] cS cT false none),(4,.box [.ref 0 0]),aL 0 x1,(3,.box [bv g]),bM 2 h,dE 1 c])) (encE:=(fun|.inl ⟨T,U,V⟩=>(rq [(0,.yld 5),bF 1 4] [(5,.loop 22 [bF 3 1,bF 4 2,bF 5 3] [13,14] cS cT false (some .ret)),(4,.box [.ref 0 0]),aL 0 x1,(3,.box [bv true]),(2,.box [i64 T,i64 U,i64 V,i64 0,i64 0,i64 0,i64 0]),dE 1 c])|.inr _=>(xq 0 [(0,.yld 5),bF 1 4] [(5,.loop 22 [bF 3 1,bF 4 2,bF 5 3] [13,14] cS cT false none),(4,.box [.ref 0 0]),aL 0 x1,(3,.box [bv g]),bM 2 h,dE 1 c]))) (fun⟨z,i⟩=>?_) bP (0,0)) fun b5=>?_;refine ig fun W=>?_;refine bo (aU1 d 1 i 0 0 0 0 0 W g h c) fun X=>?_;rcases X with _|_;rfl;refine bo rg fun Y=>?_;refine bz lm ?_;refine bo (aM (S:=Int×Int) (enc:=fun⟨A,O⟩=>(Q [(0,.yld 5),bF 1 4,aU 3 A,aU 4 i,cH 15 x1.cD,aU 16 i,cH 39 Y.eG,aU 40 O] [(5,.loop 22 [bF 3 1,bF 4 2,bF 5 3] [13,14] cS cT false none),(3,.box [bv g]),bM 2 h,dE 1 c,(4,.box [.ref 0 0]),aL 0 x1])) (encE:=(fun|.inl ⟨P,R⟩=>(rq [(0,.yld 5),bF 1 4,aU 3 P,cH 15 x1.cD,aU 16 i] [(5,.loop 22 [bF 3 1,bF 4 2,bF 5 3] [13,14] cS cT false (some .ret)),(3,.box [bv true]),(2,.box [i64 2,i64 0,i64 R,i64 0,i64 0,i64 0,i64 0]),dE 1 c,(4,.box [.ref 0 0]),aL 0 x1])|.inr x35=>(xq 2 [(0,.yld 5),bF 1 4,aU 3 x35,cH 15 x1.cD,aU 16 i] [(5,.loop 22 [bF 3 1,bF 4 2,bF 5 3] [13,14] cS cT false none),(3,.box [bv g]),bM 2 h,dE 1 c,(4,.box [.ref 0 0]),aL 0 x1]))) (fun⟨A,O⟩=>?_) bP (z,0)) fun b4=>?_;refine ig fun d3=>?_;refine bo rg fun Z=>?_;refine bo (Qx d 2 0 A 0 0 0 0 Z g h c) fun b0=>?_;rcases b0 with _|_;rfl;rfl;rcases b4 with⟨P,R⟩|x35;rfl;rfl;rcases b5 with⟨T,U,V⟩|_;rfl;refine bz lm ?_;refine bo (aM (S:=Int) (enc:=fun a=>(Q [(0,.yld 5),bF 1 4,cH 67 x1.aE,aU 68 a] [(5,.loop 22 [bF 3 1,bF 4 2,bF 5 3] [13,14] cS cT false none),(4,.box [.ref 0 0]),aL 0 x1,(3,.box [bv g]),bM 2 h,dE 1 c])) (encE:=(fun|.inl ⟨t,u,v,w,x⟩=>(rq [(0,.yld 5),bF 1 4] [(5,.loop 22 [bF 3 1,bF 4 2,bF 5 3] [13,14] cS cT false (some .ret)),(4,.box [.ref 0 0]),aL 0 x1,(3,.box [bv true]),(2,.box [i64 t,i64 0,i64 u,i64 v,i64 w,i64 x,i64 0]),dE 1 c])|.inr _=>(xq 4 [(0,.yld 5),bF 1 4] [(5,.loop 22 [bF 3 1,bF 4 2,bF 5 3] [13,14] cS cT false none),(4,.box [.ref 0 0]),aL 0 x1,(3,.box [bv g]),bM 2 h,dE 1 c]))) (fun a=>?_) bP 0) fun K=>?_;refine ig fun B=>?_;refine bo (Qy d 3 0 0 a 0 0 0 B g h c) fun C=>?_;rcases C with _|_;rfl;refine bo rg fun f=>?_;refine bz lm ?_;refine bo (aM (S:=Int) (enc:=fun b=>(Q [(0,.yld 5),bF 1 4,aU 6 a,cH 67 x1.aE,aU 68 a,cH 91 f.aQ,aU 92 b] [(5,.loop 22 [bF 3 1,bF 4 2,bF 5 3] [13,14] cS cT false none),(3,.box [bv g]),bM 2 h,dE 1 c,(4,.box [.ref 0 0]),aL 0 x1])) (encE:=(fun|.inl ⟨q,r,s⟩=>(rq [(0,.yld 5),bF 1 4,cH 67 x1.aE,aU 68 a] [(5,.loop 22 [bF 3 1,bF 4 2,bF 5 3] [13,14] cS cT false (some .ret)),(3,.box [bv true]),(2,.box [i64 4,i64 0,i64 q,i64 a,i64 r,i64 s,i64 0]),dE 1 c,(4,.box [.ref 0 0]),aL 0 x1])|.inr _=>(xq 6 [(0,.yld 5),bF 1 4,cH 67 x1.aE,aU 68 a] [(5,.loop 22 [bF 3 1,bF 4 2,bF 5 3] [13,14] cS cT false none),(3,.box [bv g]),bM 2 h,dE 1 c,(4,.box [.ref 0 0]),aL 0 x1]))) (fun b=>?_) bP 0) fun J=>?_;refine ig fun b6=>?_;refine bo rg fun j=>?_;refine bz lm ?_;refine bo (aM (S:=Int) (enc:=fun e=>(Q [(0,.yld 5),bF 1 4,aU 6 a,aU 7 b,cH 67 x1.aE,aU 68 a,cH 91 f.aQ,aU 92 b,cH 107 j.aO,aU 108 e] [(5,.loop 22 [bF 3 1,bF 4 2,bF 5 3] [13,14] cS cT false none),(3,.box [bv g]),bM 2 h,dE 1 c,(4,.box [.ref 0 0]),aL 0 x1])) (encE:=(fun|.inl ⟨o,p⟩=>(rq [(0,.yld 5),bF 1 4,aU 6 a,cH 67 x1.aE,aU 68 a,cH 91 f.aQ,aU 92 b] [(5,.loop 22 [bF 3 1,bF 4 2,bF 5 3] [13,14] cS cT false (some .ret)),(3,.box [bv true]),(2,.box [i64 4,i64 0,i64 b,i64 a,i64 o,i64 p,i64 0]),dE 1 c,(4,.box [.ref 0 0]),aL 0 x1])|.inr _=>(xq 8 [(0,.yld 5),bF 1 4,aU 6 a,cH 67 x1.aE,aU 68 a,cH 91 f.aQ,aU 92 b] [(5,.loop 22 [bF 3 1,bF 4 2,bF 5 3] [13,14] cS cT false none),(3,.box [bv g]),bM 2 h,dE 1 c,(4,.box [.ref 0 0]),aL 0 x1]))) (fun e=>?_) bP 0) fun H=>?_;refine ig fun b7=>?_;refine bo rg fun b8=>?_;refine bo rg fun D=>?_;refine bz lm ?_;refine bo (aM (S:=Int) (enc:=fun l=>(Q [(0,.yld 5),bF 1 4,aU 6 a,aU 7 b,aU 8 e,cH 67 x1.aE,aU 68 a,cH 91 f.aQ,aU 92 b,cH 107 j.aO,aU 108 e,cH 127 D.aX,aU 128 l] [(5,.loop 22 [bF 3 1,bF 4 2,bF 5 3] [13,14] cS cT false none),(3,.box [bv g]),bM 2 h,dE 1 c,(4,.box [.ref 0 0]),aL 0 x1])) (encE:=(fun|.inl n=>(rq [(0,.yld 5),bF 1 4,aU 6 a,aU 7 b,cH 67 x1.aE,aU 68 a,cH 91 f.aQ,aU 92 b,cH 107 j.aO,aU 108 e] [(5,.loop 22 [bF 3 1,bF 4 2,bF 5 3] [13,14] cS cT false (some .ret)),(3,.box [bv true]),(2,.box [i64 4,i64 0,i64 b,i64 a,i64 e,i64 n,i64 0]),dE 1 c,(4,.box [.ref 0 0]),aL 0 x1])|.inr _=>(xq 10 [(0,.yld 5),bF 1 4,aU 6 a,aU 7 b,cH 67 x1.aE,aU 68 a,cH 91 f.aQ,aU 92 b,cH 107 j.aO,aU 108 e] [(5,.loop 22 [bF 3 1,bF 4 2,bF 5 3] [13,14] cS cT false none),(3,.box [bv g]),bM 2 h,dE 1 c,(4,.box [.ref 0 0]),aL 0 x1]))) (fun l=>?_) bP 0) fun G=>?_;refine ig fun b9=>?_;refine bo rg fun d0=>?_;refine bo rg fun d2=>?_;refine bo rg fun E=>?_;refine bo (Qz d 4 0 b a e l 0 E g h c) fun F=>?_;rcases F with _|_;rfl;rfl;rcases G with n|_;rfl;rfl;rcases H with⟨o,p⟩|_;rfl;rfl;rcases J with⟨q,r,s⟩|_;rfl;rfl;rcases K with⟨t,u,v,w,x⟩|_;rfl;refine bz lm ?_;refine bo (aM (S:=Int) (enc:=fun m=>(Q [(0,.yld 5),bF 1 4,cH 166 x1.bU,aU 167 m] [(5,.loop 22 [bF 3 1,bF 4 2,bF 5 3] [13,14] cS cT false none),(4,.box [.ref 0 0]),aL 0 x1,(3,.box [bv g]),bM 2 h,dE 1 c])) (encE:=(fun|.inl y=>(rq [] [(5,.loop 22 [bF 3 1,bF 4 2,bF 5 3] [13,14] cS cT false (some .ret)),(4,.box [.ref 0 0]),aL 0 x1,(3,.box [bv true]),(2,.box [i64 5,i64 0,i64 0,i64 0,i64 0,i64 0,i64 y]),dE 1 c])|.inr _=>(xq 12 [] [(5,.loop 22 [bF 3 1,bF 4 2,bF 5 3] [13,14] cS cT false none),(4,.box [.ref 0 0]),aL 0 x1,(3,.box [bv g]),bM 2 h,dE 1 c]))) (fun m=>?_) bP 0) fun N=>?_;refine ig fun L=>?_;refine bo (Ra d 5 0 0 0 0 0 m L g h c) fun M=>?_;rcases M with _|_;rfl;rfl;rcases N with y|_;rfl;rfl
end Go.P
namespace Go.P
open Go.Sim (Ex hZ CK)
open K (I Q rq nq xq ck)
variable {k:Bool} (d:Nat)
def pP1 (x1:Y0) (a:YZ):aB (YP×Bool):=
 if((a.fS==0)&&((a.cO==0)&&true))!=false then some ((YP.mk 0 0 0 0 0 0 0),false)else(Dl x1).bind fun _=>(Dm x1 false (YP.mk 0 0 0 0 0 0 0) a).bind fun b=>(match b with|.inl x3=>some (x3,true)|.inr _=>some ((YP.mk 0 0 0 0 0 0 0),false))
def eF2 (x1:Y0) (a:YZ):OD k (d+3) 247 [eW x1,Lw a]=(pP1 x1 a).map (fun⟨c,e⟩=>.tup [fK c,bv e]):=oe rfl<|by
 refine io rfl ?_;refine bo (hR1 (d+1) x1) fun _=>?_;refine bo (hS1 d x1 false (YP.mk 0 0 0 0 0 0 0) a) fun b=>?_;rcases b with f|_;rfl;rfl
def pQ1 (x1:aA Int):aB (aA Int):=
 (Bx (x1.length:Int) (x1.length:Int) 0).bind fun j=>(aW (E:=aA Int) (fun(⟨b,a⟩:Int×(aA Int))=>if decide (b<(x1.length:Int))then(gI a (bN (b-1))).bind fun c=>(gT a c).bind fun d=>(cC x1 (bN (b-1))).bind fun e=>(gI a b).bind fun f=>(lV a f (fun i=>(bN (d+e)))).bind fun g=>some (.inl ((bN (b+1)),g))else some (.inr a)) bP (1,j)).bind fun h=>some h
def eG2 (x1:aA Int):OD k (d+1) 226 [oK x1]=(pQ1 x1).map (fun q=>oK q):=oe rfl<|by
 refine bz lm ?_;refine bo (oQ cI _ _ 0) fun p=>?_;refine bo (aM (S:=Int×(aA Int)) (enc:=fun⟨i,a⟩=>(Q [uH 0 x1,(3,.own 0),aU 4 i] [(0,.lst 3 1 true (I cI a))])) (encE:=(fun(e:aA Int)=>(xq 0 [(3,.own 0)] [(0,.lst 3 1 true (I cI e))]))) (fun⟨i,a⟩=>?_) bP (1,p)) fun e=>?_;refine bz lm ?_;refine io ?_ rfl;refine bo (bX cI a _) fun j=>?_;refine bo (dY (A:=Int) (c:=cI) (g:=fun b=>i64 b) (fun _=>rfl) a _) fun b=>?_;refine bo rg fun h=>?_;refine bo (bX cI a _) fun l=>?_;refine bo (eT (A:=Int) (c:=cI) (m:=1) (f:=fun n=>(bN (b+h))) (fun _=>⟨rfl,rfl⟩) (bP3 rfl) a _) fun o=>?_;rfl;rfl
def pR1 (x1:YO) (b:Int):aB ((aA Int)×Int):=
 (gS1 x1 b).bind fun⟨c,a⟩=>if a !=0 then some ([],a)else(pQ1 c).bind fun d=>some (d,0)
def eH2 (x1:YO) (a:Int):OD k (d+14) 157 [jC x1,i64 a]=(pR1 x1 a).map (fun⟨c,e⟩=>.tup [oK c,i64 e]):=oe rfl<|by
 refine bo (tQ1 d x1 a) fun⟨b,f⟩=>?_;refine io rfl ?_;refine bo (eG2 (d+12) b) fun g=>?_;rfl
def hT1 (x1:YK) (f:YZ):aB (YQ×Bool):=
 (pP1 x1.s' f).bind fun⟨a,g⟩=>if(!g)||(a.dW !=4)then some ((YQ.mk 0 0 0 0),false)else(cC x1.s'.aE a.cW).bind fun d=>(F91 d).bind fun⟨h,k⟩=>(cC d.aQ a.iM).bind fun i=>(cC i.aO a.iV).bind fun j=>(pR1 j h).bind fun⟨b,e⟩=>if decide (a.pW>=(b.length:Int))then some ((YQ.mk 0 0 0 0),false)else(cC b a.pW).bind fun c=>some ((YQ.mk a.cW c a.iM a.iV),true)
def tY1 (x1:YK) (a:YZ):OD k (d+15) 195 [dB x1,Lw a]=(hT1 x1 a).map (fun⟨i,j⟩=>.tup [lN i,bv j]):=oe rfl<|by
 refine bo (eF2 (d+11) x1.s' a) fun⟨l,m⟩=>?_;refine bz (kG rfl) ?_;refine io rfl ?_;refine bo rg fun f=>?_;refine bo (aL1 (d+10) f) fun⟨g,n⟩=>?_;refine bo rg fun o=>?_;refine bo rg fun h=>?_;refine bo (eH2 d h g) fun⟨b,c⟩=>?_;refine bz lm ?_;refine io rfl ?_;refine bo rg fun e=>?_;rfl
def Ug (x1 a:Int):aB Bool:=
 some ((decide (x1>=0))&&(decide (x1<=a)))
def Xf (x1 a:Int):OD k (d+1) 268 [i64 x1,i64 a]=(Ug x1 a).map bv:=oe rfl<|by
 refine bz (jR rfl) ?_;rfl
def hU1 (x1:YQ):aB Bool:=
 (Ug x1.cW 1023).bind fun a=>((if a then(Ug x1.At 4398046511104).bind fun b=>some b else some false:aB (Bool))).bind fun c=>((if c then(Ug x1.iM 127).bind fun d=>some d else some false:aB (Bool))).bind fun e=>((if e then(Ug x1.iV 1).bind fun f=>some f else some false:aB (Bool))).bind fun g=>some g
def tZ1 (x1:YQ):OD k (d+2) 248 [lN x1]=(hU1 x1).map bv:=oe rfl<|by
 refine bo (Xf d x1.cW 1023) fun a=>?_;refine bo (e:=id) ?_ fun c=>?_;refine io ?_ rfl;refine bo (Xf d x1.At 4398046511104) fun b=>?_;rfl;refine bo (e:=id) ?_ fun g=>?_;refine io ?_ rfl;refine bo (Xf d x1.iM 127) fun f=>?_;rfl;refine bo (e:=id) ?_ fun i=>?_;refine io ?_ rfl;refine bo (Xf d x1.iV 1) fun h=>?_;rfl;rfl
def hV1 (x1:Int):aB Bool:=
 some ((x1==1)||(x1==7))
def uA1 (x1:Int):OD k (d+1) 249 [i64 x1]=(hV1 x1).map bv:=oe rfl<|by
 refine bz (kG rfl) ?_;rfl
def hW1 (x1:Int):aB Bool:=
 some (x1 !=x1)
def uB1 (x1:Int):OD k (d+1) 229 [i64 x1]=(hW1 x1).map bv:=oe rfl<|by
 rfl
def hY1 (x1 a:Int):aB Int:=
 (hW1 x1).bind fun c=>(hW1 a).bind fun b=>if c then if b then some 0 else some (-1)else if b then some 1 else if decide (x1<a)then some (-1)else if decide (x1>a)then some 1 else some 0
def uC1 (x1 a:Int):OD k (d+2) 162 [i64 x1,i64 a]=(hY1 x1 a).map i64:=oe rfl<|by
 refine bo (uB1 d x1) fun b=>?_;refine bo (uB1 d a) fun c=>?_;refine io ?_ ?_;refine io rfl rfl;refine io rfl ?_;refine io rfl ?_;refine io rfl rfl
def pS1 (x1:aA Int):aB Int:=
 (aW (E:=Int⊕Unit) (fun(a:Int)=>dH x1 a (fun b=>if b !=0 then some (.inr (.inl b))else some (.inl (bN (a+1)))) (some (.inr (.inr ())))) bP 0).bind fun c=>(match c with|.inl x5=>some x5|.inr _=>some 0)
def eI2 (x1:aA Int):OD k (d+1) 161 [oK x1]=(pS1 x1).map i64:=oe rfl<|by
 refine bz lm ?_;refine bo (aM (S:=Int) (enc:=fun a=>(Q [aU 3 0,uH 6 x1,cH 7 x1,aU 8 a] [])) (encE:=(fun|.inl b=>(rq [aU 2 b,aU 3 0] [])|.inr _=>(xq 0 [aU 3 0] []))) (fun a=>?_) bP 0) fun c=>?_;refine ig fun e=>?_;refine io rfl rfl;rcases c with b|_;rfl;rfl
def Hw (x1 a:YQ):aB Int:=
 (hY1 x1.cW a.cW).bind fun b=>(hY1 x1.At a.At).bind fun c=>(pS1 [b,c]).bind fun d=>some d
def Hf (x1 a:YQ):OD k (d+3) 250 [lN x1,lN a]=(Hw x1 a).map i64:=oe rfl<|by
 refine bo (uC1 d x1.cW a.cW) fun b=>?_;refine bo (uC1 d x1.At a.At) fun c=>?_;refine bo (eI2 (d+1) [b,c]) fun e=>?_;rfl
def pT1 (x1:YS):aB Int:=
 if(decide (x1.dW<1))||(decide (x1.dW>7))then some 11 else(hU1 x1.jU).bind fun a=>((if !a then some true else(hU1 x1.To).bind fun b=>some (!b):aB (Bool))).bind fun c=>if c then some 2 else((if x1.jU.iM !=x1.To.iM then some true else(hV1 x1.dW).bind fun d=>some (d&&(x1.jU.iV !=x1.To.iV)):aB (Bool))).bind fun e=>if e then some 23 else(Hw x1.jU x1.To).bind fun f=>if decide (f>=0)then some 25 else some 0
def eJ2 (x1:YS):OD k (d+4) 196 [cV x1]=(pT1 x1).map i64:=oe rfl<|by
 refine bz (kG rfl) ?_;refine io rfl ?_;refine bo (tZ1 (d+1) x1.jU) fun a=>?_;refine bo (e:=id) ?_ fun c=>?_;refine io rfl ?_;refine bo (tZ1 (d+1) x1.To) fun b=>?_;rfl;refine io rfl ?_;refine bo (e:=id) ?_ fun g=>?_;refine io rfl ?_;refine bo (uA1 (d+2) x1.dW) fun f=>?_;refine bz (jR rfl) ?_;rfl;refine io rfl ?_;refine bo (Hf d x1.jU x1.To) fun h=>?_;refine io rfl rfl
def Rb (x1:aA YV) (h:Y0) (p:Int):aB ((aA Bool)×(aA YS)):=
 (aW (E:=(aA Bool)×(aA YS)) (fun(⟨b,c,d⟩:Int×(aA Bool)×(aA YS))=>dH h.bU b (fun a=>(hT1 (YK.mk h p x1) a.jU).bind fun⟨e,g⟩=>(hT1 (YK.mk h p x1) a.To).bind fun⟨f,i⟩=>(nE false d [(YS.mk a.dW e f)]).bind fun j=>((if(!g)||(!i)then some true else(pT1 (YS.mk a.dW e f)).bind fun k=>some (k !=0):aB (Bool))).bind fun l=>(nE false c [l]).bind fun m=>some (.inl ((bN (b+1)),m,j))) (some (.inr (c,d)))) bP (0,[],[])).bind fun⟨n,o⟩=>some (n,o)
def hZ1 (x1:aA YV) (b:Y0) (h:Int):gY (XD k (d+16)) 129 [.ref 1 0] (cL x1 b h) 3 true=(Rb x1 b h).map (fun(⟨p,q⟩:(aA Bool)×(aA YS))=>((.tup [.own 3,.own 4],((4,.lst 4 1 false (I cB p))::(3,.lst 213 9 false (I YS.g q))::cL x1 b h),5))):=by
 rw[xd (fn:=aP2) rfl];refine bz lm ?_;refine bo (aM (S:=Int×(aA Bool)×(aA YS)) (enc:=fun⟨i,c,f⟩=>(Q [bF 0 1,(4,.own 3),(5,.own 4),kL 17 b.bU,cH 18 b.bU,aU 19 i] ((4,.lst 4 1 false (I cB c))::(3,.lst 213 9 false (I YS.g f))::cL x1 b h))) (encE:=(fun(⟨m,n⟩:(aA Bool)×(aA YS))=>(xq 0 [(4,.own 3),(5,.own 4)] ((4,.lst 4 1 false (I cB m))::(3,.lst 213 9 false (I YS.g n))::cL x1 b h)))) (fun⟨i,c,f⟩=>?_) bP (0,[],[])) fun⟨m,n⟩=>?_;refine ig fun a=>?_;refine bo (tY1 d (YK.mk b h x1) a.jU) fun⟨j,r⟩=>?_;refine bo (tY1 d (YK.mk b h x1) a.To) fun⟨l,s⟩=>?_;refine bo (dO false YS.g f [(YS.mk a.dW j l)]) fun t=>?_;refine bz (kG rfl) ?_;refine bo (e:=id) ?_ fun o=>?_;refine io rfl ?_;refine bo (eJ2 (d+11) (YS.mk a.dW j l)) fun u=>?_;rfl;refine bo (dO false cB c [o]) fun v=>?_;rfl;rfl
def iA1 (x1:aA YV) (h:Y0) (i:Int):aB (aA YV):=
 (Rb x1 h i).bind fun⟨j,k⟩=>(aW (E:=aA YV) (fun(⟨a,b⟩:Int×(aA YV))=>dH h.bU a (fun c=>(gI j a).bind fun d=>(gT j d).bind fun e=>(nA e c.ID b h i).bind fun f=>some (.inl ((bN (a+1)),f))) (some (.inr b))) bP (0,x1)).bind fun g=>some g
def eK2 (x1:aA YV) (a:Y0) (f:Int):gY (XD k (d+17)) 67 [.ref 1 0] (cL x1 a f) 3 false=(iA1 x1 a f).map (fun(m:aA YV)=>((.tup [],(cL m a f),0))):=by
 rw[xd (fn:=p67) rfl];refine bo (hZ1 d x1 a f) fun⟨j,n⟩=>?_;refine bz lm ?_;refine bo (aM (S:=Int×(aA YV)) (enc:=fun⟨h,b⟩=>(Q [bF 0 1,(3,.own 4),kL 15 a.bU,cH 16 a.bU,aU 17 h] ((4,.lst 4 1 false (I cB j))::(3,.lst 213 9 false (I YS.g n))::cL b a f))) (encE:=(fun(i:aA YV)=>(xq 0 [] ((4,.lst 4 1 false (I cB j))::(3,.lst 213 9 false (I YS.g n))::cL i a f)))) (fun⟨h,b⟩=>?_) bP (0,x1)) fun i=>?_;refine ig fun l=>?_;refine bo (bX cB j _) fun o=>?_;refine bo (dY (A:=Bool) (c:=cB) (g:=fun e=>bv e) (fun _=>rfl) j _) fun e=>?_;refine bo (lG (d+15) e l.ID b a f) fun p=>?_;rfl;rfl
def aV1 (x1:Int):aB Int:=
 if(decide (x1<1))||(decide (x1>7))then some 0 else(cC [1,2,2,4,4,6,7] (bN (x1-1))).bind fun a=>some a
def iB1 (x1:Int):OD k (d+1) 251 [i64 x1]=(aV1 x1).map i64:=oe rfl<|by
 refine bz (kG rfl) ?_;refine io rfl ?_;refine bo (sK .i64 [1,2,2,4,4,6,7] (bN (x1-1)) rfl) fun a=>?_;rfl
def pU1 (x1 a:YS):aB Bool:=
 (aV1 x1.dW).bind fun b=>((if decide (b>0)then(aV1 x1.dW).bind fun c=>(aV1 a.dW).bind fun d=>some (c==d)else some false:aB (Bool))).bind fun e=>((if e&&(x1.jU.iM==a.jU.iM)then(hV1 x1.dW).bind fun f=>some ((!f)||(x1.jU.iV==a.jU.iV))else some false:aB (Bool))).bind fun g=>some g
def eL2 (x1 a:YS):OD k (d+2) 197 [cV x1,cV a]=(pU1 x1 a).map bv:=oe rfl<|by
 refine bo (iB1 d x1.dW) fun b=>?_;refine bo (e:=id) ?_ fun g=>?_;refine io ?_ rfl;refine bo (iB1 d x1.dW) fun c=>?_;refine bo (iB1 d a.dW) fun f=>?_;rfl;refine bz (jR rfl) ?_;refine bo (e:=id) ?_ fun i=>?_;refine io ?_ rfl;refine bo (uA1 d x1.dW) fun h=>?_;refine bz (kG rfl) ?_;rfl;rfl
def pV1 (x1 a:YS):aB Bool:=
 (Hw x1.To a.jU).bind fun b=>((if decide (b<0)then some true else(Hw a.To x1.jU).bind fun c=>some (decide (c<0)):aB (Bool))).bind fun d=>some d
def eM2 (x1 a:YS):OD k (d+4) 201 [cV x1,cV a]=(pV1 x1 a).map bv:=oe rfl<|by
 refine bo (Hf d x1.To a.jU) fun b=>?_;refine bo (e:=id) ?_ fun f=>?_;refine io rfl ?_;refine bo (Hf d a.To x1.jU) fun c=>?_;rfl;rfl
def aW1 (x1 a:YS):aB Bool:=
 (pV1 x1 a).bind fun b=>some (!b)
def iC1 (x1 a:YS):OD k (d+5) 200 [cV x1,cV a]=(aW1 x1 a).map bv:=oe rfl<|by
 refine bo (eM2 d x1 a) fun b=>?_;rfl
def iD1 (x1 a:YS):aB Bool:=
 (Hw x1.To a.jU).bind fun b=>((if decide (b<=0)then some true else(Hw a.To x1.jU).bind fun c=>some (decide (c<=0)):aB (Bool))).bind fun d=>some d
def uD1 (x1 a:YS):OD k (d+4) 199 [cV x1,cV a]=(iD1 x1 a).map bv:=oe rfl<|by
 refine bo (Hf d x1.To a.jU) fun b=>?_;refine bo (e:=id) ?_ fun f=>?_;refine io rfl ?_;refine bo (Hf d a.To x1.jU) fun c=>?_;rfl;rfl
def aX1 (x1 a:YS):aB Bool:=
 (iD1 x1 a).bind fun b=>some (!b)
def iE1 (x1 a:YS):OD k (d+5) 198 [cV x1,cV a]=(aX1 x1 a).map bv:=oe rfl<|by
 refine bo (uD1 d x1 a) fun b=>?_;rfl
def iF1 (x1 a:YS):aB Bool:=
 (Hw x1.jU a.jU).bind fun b=>((if decide (b>=0)then(Hw x1.To a.To).bind fun c=>some (decide (c<=0))else some false:aB (Bool))).bind fun d=>some d
def uE1 (x1 a:YS):OD k (d+4) 252 [cV x1,cV a]=(iF1 x1 a).map bv:=oe rfl<|by
 refine bo (Hf d x1.jU a.jU) fun b=>?_;refine bo (e:=id) ?_ fun f=>?_;refine io ?_ rfl;refine bo (Hf d x1.To a.To) fun c=>?_;rfl;rfl
def pW1 (x1 a:YS):aB Bool:=
 (iD1 x1 a).bind fun b=>((if !b then(iF1 x1 a).bind fun c=>(iF1 a x1).bind fun d=>some ((c==d)!=false)else some false:aB (Bool))).bind fun e=>some e
def eN2 (x1 a:YS):OD k (d+5) 202 [cV x1,cV a]=(pW1 x1 a).map bv:=oe rfl<|by
 refine bo (uD1 d x1 a) fun b=>?_;refine bo (e:=id) ?_ fun g=>?_;refine io ?_ rfl;refine bo (uE1 d x1 a) fun c=>?_;refine bo (uE1 d a x1) fun f=>?_;rfl;rfl
def pX1 (x1 a:YS):aB Bool:=
 (pU1 x1 a).bind fun c=>if !c then some false else if(bN (x1.dW-1))==6 then(aW1 x1 a).bind fun d=>some d else if(bN (x1.dW-1))==5 then(aX1 x1 a).bind fun e=>some e else if(bN (x1.dW-1))==4 then(aW1 x1 a).bind fun f=>some f else if(bN (x1.dW-1))==3 then(aW1 x1 a).bind fun g=>some g else if(bN (x1.dW-1))==2 then(aX1 x1 a).bind fun h=>some h else if(bN (x1.dW-1))==1 then(aX1 x1 a).bind fun i=>some i else if(bN (x1.dW-1))==0 then(pW1 x1 a).bind fun b=>some b else none
def eO2 (x1 a:YS):OD k (d+6) 130 [cV x1,cV a]=(pX1 x1 a).map bv:=oe rfl<|by
 refine bo (eL2 (d+3) x1 a) fun c=>?_;refine io rfl ?_;refine io ?_ ?_;refine bo (iC1 d x1 a) fun e=>?_;rfl;refine io ?_ ?_;refine bo (iE1 d x1 a) fun f=>?_;rfl;refine io ?_ ?_;refine bo (iC1 d x1 a) fun g=>?_;rfl;refine io ?_ ?_;refine bo (iC1 d x1 a) fun h=>?_;rfl;refine io ?_ ?_;refine bo (iE1 d x1 a) fun i=>?_;rfl;refine io ?_ ?_;refine bo (iE1 d x1 a) fun j=>?_;rfl;refine io ?_ ?_;refine bo (eN2 d x1 a) fun b=>?_;rfl;rfl
def iG1 (x1:aA YV) (g:Y0) (w:Int):aB (aA YV):=
 (Rb x1 g w).bind fun⟨e,f⟩=>(aW (E:=aA YV) (fun(⟨a,c⟩:Int×(aA YV))=>dH g.bU a (fun h=>(aW (E:=Bool) (fun(⟨d,b⟩:Bool×Int)=>((if decide (b<a)then(gI e a).bind fun i=>(gT e i).bind fun j=>some (!j)else some false:aB (Bool))).bind fun k=>if k&&(!d)then(gI e b).bind fun l=>(gT e l).bind fun m=>((if !m then(gI f b).bind fun n=>(gT f n).bind fun o=>(gI f a).bind fun p=>(gT f p).bind fun q=>(pX1 o q).bind fun r=>some r else some false:aB (Bool))).bind fun s=>some (.inl (s,(bN (b+1))))else some (.inr d)) bP (false,0)).bind fun t=>(nA t h.ID c g w).bind fun u=>some (.inl ((bN (a+1)),u))) (some (.inr c))) bP (0,x1)).bind fun v=>some v
def eP2 (x1:aA YV) (f:Y0) (j:Int):gY (XD k (d+17)) 68 [.ref 1 0] (cL x1 f j) 3 false=(iG1 x1 f j).map (fun(v:aA YV)=>((.tup [],(cL v f j),0))):=by
 rw[xd (fn:=p68) rfl];refine bo (hZ1 d x1 f j) fun⟨l,n⟩=>?_;refine bz lm ?_;refine bo (aM (S:=Int×(aA YV)) (enc:=fun⟨h,i⟩=>(Q [bF 0 1,(2,.own 3),(3,.own 4),kL 17 f.bU,cH 18 f.bU,aU 19 h] ((4,.lst 4 1 false (I cB l))::(3,.lst 213 9 false (I YS.g n))::cL i f j))) (encE:=(fun(u:aA YV)=>(xq 0 [] ((4,.lst 4 1 false (I cB l))::(3,.lst 213 9 false (I YS.g n))::cL u f j)))) (fun⟨h,i⟩=>?_) bP (0,x1)) fun u=>?_;refine ig fun o=>?_;refine bo (aM (S:=Bool×Int) (enc:=fun⟨q,r⟩=>(Q [bF 0 1,(2,.own 3),(3,.own 4),aU 4 h,bF 5 5,(6,bv q),aU 7 r,kL 17 f.bU,cH 18 f.bU,aU 19 h] (yU 5 o::(4,.lst 4 1 false (I cB l))::(3,.lst 213 9 false (I YS.g n))::cL i f j))) (encE:=(fun(p:Bool)=>(xq 2 [bF 0 1,(2,.own 3),(3,.own 4),bF 5 5,(6,bv p),kL 17 f.bU,cH 18 f.bU,aU 19 h] (yU 5 o::(4,.lst 4 1 false (I cB l))::(3,.lst 213 9 false (I YS.g n))::cL i f j)))) (fun⟨q,r⟩=>?_) bP (false,0)) fun p=>?_;refine bo (e:=id) ?_ fun x=>?_;refine io ?_ rfl;refine bo (bX cB l _) fun w=>?_;refine bo (dY (A:=Bool) (c:=cB) (g:=fun s=>bv s) (fun _=>rfl) l _) fun s=>?_;rfl;refine bz (jR rfl) ?_;refine io ?_ rfl;refine bo (bX cB l _) fun y=>?_;refine bo (dY (A:=Bool) (c:=cB) (g:=fun t=>bv t) (fun _=>rfl) l _) fun t=>?_;refine bo (e:=id) ?_ fun D=>?_;refine io ?_ rfl;refine bo (bX YS.g n _) fun z=>?_;refine bo (gR (A:=YS) (c:=YS.g) (m:=9) (g:=fun a=>[i64 a.dW,i64 a.jU.cW,i64 a.jU.At,i64 a.jU.iM,i64 a.jU.iV,i64 a.To.cW,i64 a.To.At,i64 a.To.iM,i64 a.To.iV]) (fun _=>⟨rfl,rfl⟩) (bP3 rfl) n _) fun a=>?_;refine bo (bX YS.g n _) fun B=>?_;refine bo (gR (A:=YS) (c:=YS.g) (m:=9) (g:=fun b=>[i64 b.dW,i64 b.jU.cW,i64 b.jU.At,i64 b.jU.iM,i64 b.jU.iV,i64 b.To.cW,i64 b.To.At,i64 b.To.iM,i64 b.To.iV]) (fun _=>⟨rfl,rfl⟩) (bP3 rfl) n _) fun b=>?_;refine bo (eO2 (d+10) a b) fun C=>?_;rfl;rfl;refine bo (lG (d+15) p o.ID i f j) fun E=>?_;rfl;rfl
def pY1 (x1:Int) (a:YM):aB Bool:=
 ((if a.bG !=0 then(qQ a.bG 2 8).bind fun b=>some (!b)else some false:aB (Bool))).bind fun c=>((if c then some true else(qQ a.bL 0 255).bind fun d=>some (!d):aB (Bool))).bind fun e=>some e
def eQ2 (x1:Int) (a:YM):OD k (d+2) 131 [i64 x1,eD a]=(pY1 x1 a).map bv:=oe rfl<|by
 refine bo (e:=id) ?_ fun c=>?_;refine io ?_ rfl;refine bo (nZ d a.bG 2 8) fun b=>?_;rfl;refine bo (e:=id) ?_ fun g=>?_;refine io rfl ?_;refine bo (nZ d a.bL 0 255) fun f=>?_;rfl;rfl
def Dn (x1:aA YV) (e:Y0) (h:Int):aB (aA YV):=
 (aW (E:=aA YV) (fun(⟨d,f⟩:Int×(aA YV))=>dH e.aE d (fun g=>(pY1 d g).bind fun a=>(nA a g.ID f e h).bind fun b=>some (.inl ((bN (d+1)),b))) (some (.inr f))) bP (0,x1)).bind fun c=>some c
def iH1 (x1:aA YV) (a:Y0) (b:Int):gY (XD k (d+3)) 104 [.ref 1 0,.fn 131 [] []] (cL x1 a b) 3 false=(Dn x1 a b).map (fun(f:aA YV)=>((.tup [],(cL f a b),0))):=by
 rw[xd (fn:=Lr) rfl];refine bz lm ?_;refine bo (aM (S:=Int×(aA YV)) (enc:=fun⟨g,h⟩=>(Q [bF 0 1,(1,.fn 131 [] []),aT 10 a.aE,cH 11 a.aE,aU 12 g] (cL h a b))) (encE:=(fun(c:aA YV)=>(xq 0 [] (cL c a b)))) (fun⟨g,h⟩=>?_) bP (0,x1)) fun c=>?_;refine ig fun i=>?_;refine bo (eQ2 d g i) fun e=>?_;refine bo (lG (d+1) e i.ID h a b) fun j=>?_;rfl;rfl
def pZ1 (x1:Int):aB Int:=
 ((if decide (x1>=4294967296)then(Tu .u64 x1 32).bind fun g=>some (g,32)else some (x1,0):aB (Int×Int))).bind fun⟨c,e⟩=>((if decide (c>=65536)then(Tu .u64 c 16).bind fun h=>some (h,(bN (e+16)))else some (c,e):aB (Int×Int))).bind fun⟨d,f⟩=>((if decide (d>=256)then(Tu .u64 d 8).bind fun i=>some (i,(bN (f+8)))else some (d,f):aB (Int×Int))).bind fun⟨j,a⟩=>(tU (⟨#[0,1,2,2,3,3,3,3,4,4,4,4,4,4,4,4,5,5,5,5,5,5,5,5,5,5,5,5,5,5,5,5,6,6,6,6,6,6,6,6,6,6,6,6,6,6,6,6,6,6,6,6,6,6,6,6,6,6,6,6,6,6,6,6,7,7,7,7,7,7,7,7,7,7,7,7,7,7,7,7,7,7,7,7,7,7,7,7,7,7,7,7,7,7,7,7,7,7,7,7,7,7,7,7,7,7,7,7,7,7,7,7,7,7,7,7,7,7,7,7,7,7,7,7,7,7,7,7,8,8,8,8,8,8,8,8,8,8,8,8,8,8,8,8,8,8,8,8,8,8,8,8,8,8,8,8,8,8,8,8,8,8,8,8,8,8,8,8,8,8,8,8,8,8,8,8,8,8,8,8,8,8,8,8,8,8,8,8,8,8,8,8,8,8,8,8,8,8,8,8,8,8,8,8,8,8,8,8,8,8,8,8,8,8,8,8,8,8,8,8,8,8,8,8,8,8,8,8,8,8,8,8,8,8,8,8,8,8,8,8,8,8,8,8,8,8,8,8,8,8,8,8,8,8,8,8]⟩:ByteArray) (IntKind.wrap .u8 (j))).bind fun b=>some (bN (a+(bN (b))))
def eR2 (x1:Int):OD k (d+1) 219 [.v (.int .u64 x1)]=(pZ1 x1).map i64:=oe rfl<|by
 refine bo (e:=(fun(⟨b,c⟩:Int×Int)=>(nq [(0,.v (.int .u64 b)),aU 2 c] []))) ?_ fun⟨b,c⟩=>?_;refine io ?_ rfl;refine bo oi fun j=>?_;rfl;refine bo (e:=(fun(⟨f,g⟩:Int×Int)=>(nq [(0,.v (.int .u64 f)),aU 2 g] []))) ?_ fun⟨f,g⟩=>?_;refine io ?_ rfl;refine bo oi fun l=>?_;rfl;refine bo (e:=(fun(⟨h,a⟩:Int×Int)=>(nq [(0,.v (.int .u64 h)),aU 2 a] []))) ?_ fun⟨h,a⟩=>?_;refine io ?_ rfl;refine bo oi fun m=>?_;rfl;refine bo oi fun i=>?_;rfl
def Rc (x1:Int):aB Int:=
 (pZ1 x1).bind fun a=>some a
def Re (x1:Int):OD k (d+2) 151 [.v (.int .u64 x1)]=(Rc x1).map i64:=oe rfl<|by
 refine bo (eR2 d x1) fun a=>?_;rfl
def Mk (x1:YG):aB Bool:=
 ((if decide (x1.passes>0)then(mN1 .i64 1 (bN (x1.passes-1))).bind fun a=>some (x1.ending==a)else some false:aB (Bool))).bind fun b=>some b
def Ka (x1:YG):OD k (d+1) 133 [lF x1]=(Mk x1).map bv:=oe rfl<|by
 refine bo (e:=id) ?_ fun b=>?_;refine io ?_ rfl;refine bo oi fun a=>?_;rfl;rfl
def qA1 (x1:YG) (a:YM):aB (YG×Bool):=
 if a.bS||(x1.body==0)then some (x1,false)else if a.bL !=x1.ending then if((x1.ending !=0)&&(!x1.ended))||((Qj .i64 a.bL x1.used)!=0)then some (x1,false)else(Rc (IntKind.wrap .u64 (a.bL))).bind fun j=>if x1.passes==0 then if((Qj .i64 a.bL 1)==0)||(decide ((bN (j-1))>6))then some ((YG.mk x1.started x1.body (Tv .i64 x1.used a.bL) a.bL false x1.passes),false)else if a.bG !=0 then(Mk (YG.mk x1.started x1.body (Tv .i64 x1.used a.bL) a.bL false x1.passes)).bind fun k=>((if k||((x1.passes !=0)&&(a.bG !=x1.passes))then some true else(Rc (IntKind.wrap .u64 (a.bL))).bind fun l=>some (decide (l>=a.bG)):aB (Bool))).bind fun m=>if m then some ((YG.mk x1.started x1.body (Tv .i64 x1.used a.bL) a.bL false x1.passes),false)else some ((YG.mk x1.started x1.body (Tv .i64 x1.used a.bL) a.bL true a.bG),true)else some ((YG.mk x1.started x1.body (Tv .i64 x1.used a.bL) a.bL false x1.passes),true)else((if decide ((bN (j-1))>=x1.passes)then some true else((if(bN (j-1))==(bN (x1.passes-1))then(Mk (YG.mk x1.started x1.body (Tv .i64 x1.used a.bL) a.bL false x1.passes)).bind fun n=>((if !n then some true else(mN1 .i64 1 x1.passes).bind fun o=>some ((Tv .i64 x1.used a.bL)!=(bN (o-1))):aB (Bool))).bind fun p=>some p else some false:aB (Bool))).bind fun b=>some b:aB (Bool))).bind fun c=>if c then some ((YG.mk x1.started x1.body (Tv .i64 x1.used a.bL) a.bL false x1.passes),false)else if a.bG !=0 then(Mk (YG.mk x1.started x1.body (Tv .i64 x1.used a.bL) a.bL false x1.passes)).bind fun d=>((if d||((x1.passes !=0)&&(a.bG !=x1.passes))then some true else(Rc (IntKind.wrap .u64 (a.bL))).bind fun e=>some (decide (e>=a.bG)):aB (Bool))).bind fun f=>if f then some ((YG.mk x1.started x1.body (Tv .i64 x1.used a.bL) a.bL false x1.passes),false)else some ((YG.mk x1.started x1.body (Tv .i64 x1.used a.bL) a.bL true a.bG),true)else some ((YG.mk x1.started x1.body (Tv .i64 x1.used a.bL) a.bL false x1.passes),true)else if x1.ended then some (x1,false)else if a.bG !=0 then(Mk x1).bind fun g=>((if g||((x1.passes !=0)&&(a.bG !=x1.passes))then some true else(Rc (IntKind.wrap .u64 (x1.ending))).bind fun h=>some (decide (h>=a.bG)):aB (Bool))).bind fun i=>if i then some (x1,false)else some ((YG.mk x1.started x1.body x1.used x1.ending true a.bG),true)else some (x1,true)
def eS2 (x1:YG) (a:YM):OD k (d+3) 203 [lF x1,eD a]=(qA1 x1 a).map (fun⟨m,n⟩=>.tup [lF m,bv n]):=oe rfl<|by
 refine bz (kG rfl) ?_;refine io rfl ?_;refine io ?_ ?_;refine bz (jR rfl) ?_;refine bz (kG rfl) ?_;refine io rfl ?_;refine bo (Re d (IntKind.wrap .u64 (a.bL))) fun o=>?_;refine io ?_ ?_;refine bz (kG rfl) ?_;refine io rfl ?_;refine io ?_ rfl;refine bo (Ka (d+1) (YG.mk x1.started x1.body (Tv .i64 x1.used a.bL) a.bL false x1.passes)) fun p=>?_;refine bz (kG (bz (jR rfl) rfl)) ?_;refine bo (e:=id) ?_ fun r=>?_;refine io rfl ?_;refine bo (Re d (IntKind.wrap .u64 (a.bL))) fun q=>?_;rfl;refine io rfl rfl;refine bo (e:=id) ?_ fun c=>?_;refine io rfl ?_;refine bo (e:=id) ?_ fun b=>?_;refine io ?_ rfl;refine bo (Ka (d+1) (YG.mk x1.started x1.body (Tv .i64 x1.used a.bL) a.bL false x1.passes)) fun s=>?_;refine bo (e:=id) ?_ fun u=>?_;refine io rfl ?_;refine bo oi fun t=>?_;rfl;rfl;rfl;refine io rfl ?_;refine io ?_ rfl;refine bo (Ka (d+1) (YG.mk x1.started x1.body (Tv .i64 x1.used a.bL) a.bL false x1.passes)) fun f=>?_;refine bz (kG (bz (jR rfl) rfl)) ?_;refine bo (e:=id) ?_ fun h=>?_;refine io rfl ?_;refine bo (Re d (IntKind.wrap .u64 (a.bL))) fun g=>?_;rfl;refine io rfl rfl;refine io rfl ?_;refine io ?_ rfl;refine bo (Ka (d+1) x1) fun i=>?_;refine bz (kG (bz (jR rfl) rfl)) ?_;refine bo (e:=id) ?_ fun l=>?_;refine io rfl ?_;refine bo (Re d (IntKind.wrap .u64 (x1.ending))) fun j=>?_;rfl;refine io rfl rfl
def qB1 (x1:YG) (a:YM):aB (YG×Bool):=
 if a.bL !=0 then(qA1 x1 a).bind fun⟨d,e⟩=>some (d,e)else if x1.ending !=0 then(Mk x1).bind fun f=>if !f then some (x1,false)else if a.bS then if false then some ((YG.mk false 0 0 0 false 0),false)else((if a.bG !=0 then some (false,0)else some (true,1):aB (Bool×Int))).bind fun⟨g,h⟩=>some ((YG.mk g h 0 0 false 0),true)else((if a.bG !=0 then some 0 else some 1:aB (Int))).bind fun i=>some ((YG.mk false i 0 0 false 0),true)else if a.bS then if x1.started then some (x1,false)else((if a.bG !=0 then some (false,0)else some (true,1):aB (Bool×Int))).bind fun⟨j,b⟩=>some ((YG.mk j b 0 0 false 0),true)else((if a.bG !=0 then some (YG.mk false 0 0 0 false 0)else some (YG.mk x1.started (bN (x1.body+1)) x1.used x1.ending x1.ended x1.passes):aB (YG))).bind fun c=>some (c,true)
def eT2 (x1:YG) (a:YM):OD k (d+4) 132 [lF x1,eD a]=(qB1 x1 a).map (fun⟨j,l⟩=>.tup [lF j,bv l]):=oe rfl<|by
 refine io ?_ ?_;refine bo (eS2 d x1 a) fun⟨m,n⟩=>?_;rfl;refine io ?_ ?_;refine bo (Ka (d+2) x1) fun o=>?_;refine io rfl ?_;refine io ?_ ?_;refine io rfl ?_;refine bo (e:=(fun(⟨f,g⟩:Bool×Int)=>(nq [bF 2 0,bF 4 2] [mU1,aR 1 a,(0,.box [bv f,i64 g,i64 0,i64 0,bv false,i64 0])]))) ?_ fun⟨f,g⟩=>?_;refine io rfl rfl;rfl;refine bo (e:=(fun(h:Int)=>(nq [bF 2 0,bF 4 2] [mU1,aR 1 a,(0,.box [bv false,i64 h,i64 0,i64 0,bv false,i64 0])]))) ?_ fun h=>?_;refine io rfl rfl;rfl;refine io ?_ ?_;refine io rfl ?_;refine bo (e:=(fun(⟨i,b⟩:Bool×Int)=>(nq [bF 2 0,bF 4 2] [mU1,aR 1 a,(0,.box [bv i,i64 b,i64 0,i64 0,bv false,i64 0])]))) ?_ fun⟨i,b⟩=>?_;refine io rfl rfl;rfl;refine bo (e:=(fun(c:YG)=>(nq [bF 2 0,bF 4 2] [mU1,aR 1 a,lY 0 c]))) ?_ fun c=>?_;refine io rfl rfl;rfl
def iI1 (x1:aA YV) (a:Y0) (n:Int):aB (aA YV):=
 (Dn x1 a n).bind fun e=>if decide ((e.length:Int)>(x1.length:Int))then some e else(aW (E:=(YG×(aA YV))⊕YG) (fun(⟨o,b⟩:Int×YG)=>dH a.aE o (fun c=>(qB1 b c).bind fun⟨d,f⟩=>if !f then(nA true c.ID e a n).bind fun g=>some (.inr (.inl (d,g)))else some (.inl ((bN (o+1)),d))) (some (.inr (.inr b)))) bP (0,(YG.mk false 0 0 0 false 0))).bind fun h=>(match h with|.inl ⟨x15,x16⟩=>some x16|.inr x17=>((if x17.started&&(x17.ending==0)then some true else((if x17.ending !=0 then(Mk x17).bind fun i=>some (!i)else some false:aB (Bool))).bind fun j=>some j:aB (Bool))).bind fun k=>(cC a.aE (bN ((a.aE.length:Int)-1))).bind fun l=>(nA k l.ID e a n).bind fun m=>some m)
def eU2 (x1:aA YV) (a:Y0) (b:Int):gY (XD k (d+5)) 69 [.ref 1 0] (cL x1 a b) 3 false=(iI1 x1 a b).map (fun(o:aA YV)=>((.tup [],(cL o a b),0))):=by
 rw[xd (fn:=p69) rfl];refine bz (dS YV.g x1) ?_;refine bo (iH1 (d+1) x1 a b) fun j=>?_;refine bz (dS YV.g j) ?_;refine io rfl ?_;refine bz lm ?_;refine bo (aM (S:=Int×YG) (enc:=fun⟨p,c⟩=>(Q [bF 0 1,bF 3 3,aT 26 a.aE,cH 27 a.aE,aU 28 p] (lY 3 c::cL j a b))) (encE:=(fun|.inl ⟨h,i⟩=>(rq [bF 3 3] (lY 3 h::cL i a b))|.inr x17=>(xq 0 [bF 0 1,bF 3 3] (lY 3 x17::cL j a b)))) (fun⟨p,c⟩=>?_) bP (0,(YG.mk false 0 0 0 false 0))) fun l=>?_;refine ig fun f=>?_;refine bo (eT2 d c f) fun⟨q,r⟩=>?_;refine io ?_ rfl;refine bo (lG (d+3) true f.ID j a b) fun s=>?_;rfl;rcases l with⟨h,i⟩|x17;rfl;refine bz (jR rfl) ?_;refine bo (e:=id) ?_ fun m=>?_;refine io rfl ?_;refine bo (e:=id) ?_ fun u=>?_;refine io ?_ rfl;refine bo (Ka (d+3) x17) fun t=>?_;rfl;rfl;refine bz lm ?_;refine bo rg fun n=>?_;refine bo (lG (d+3) m n.ID j a b) fun v=>?_;rfl
def qC1 (x1 a:YM):aB Bool:=
 some (((a.jV !=0)&&(x1.jV !=0))||((Qj .i64 a.eC x1.eC)!=0))
def eV2 (x1 a:YM):OD k (d+1) 135 [eD x1,mJ a]=(qC1 x1 a).map bv:=oe rfl<|by
 refine bz (jR rfl) ?_;refine bz (kG rfl) ?_;rfl
def qD1 (x1:aA YM) (b:YM):aB Int:=
 (aW (E:=Int⊕Unit) (fun(a:Int)=>dH x1 a (fun c=>(qC1 c b).bind fun d=>if d then some (.inr (.inl a))else some (.inl (bN (a+1)))) (some (.inr (.inr ())))) bP 0).bind fun e=>(match e with|.inl x8=>some x8|.inr _=>some (-1))
def eW2 (x1:aA YM) (a:YM):OD k (d+2) 141 [kH x1,.fn 135 [] [mJ a]]=(qD1 x1 a).map i64:=oe rfl<|by
 refine bz lm ?_;refine bo (aM (S:=Int) (enc:=fun b=>(Q [aT 0 x1,(1,.fn 135 [] [mJ a]),cH 7 x1,aU 8 b] [])) (encE:=Qt 4) (fun b=>?_) bP 0) fun e=>?_;refine ig fun c=>?_;refine bo (eV2 d c a) fun f=>?_;refine io rfl rfl;rcases e with g|_;rfl;rfl
def F74 (x1:aA YM) (a:YM):aB Bool:=
 (qD1 x1 a).bind fun b=>some (decide (b>=0))
def qI2 (x1:aA YM) (a:YM):OD k (d+3) 74 [kH x1,.fn 135 [] [mJ a]]=(F74 x1 a).map bv:=oe rfl<|by
 refine bo (eW2 d x1 a) fun b=>?_;rfl
def qE1 (x1:YM) (a:Int):aB Bool:=
 some ((Qj .i64 x1.eC a)!=0)
def eX2 (x1:YM) (a:Int):OD k (d+1) 253 [eD x1,.ip [i64 a]]=(qE1 x1 a).map bv:=oe rfl<|by
 rfl
def Ml (x1:aA YM) (b:Int):aB Int:=
 (aW (E:=Int⊕Unit) (fun(a:Int)=>dH x1 a (fun c=>(qE1 c b).bind fun d=>if d then some (.inr (.inl a))else some (.inl (bN (a+1)))) (some (.inr (.inr ())))) bP 0).bind fun e=>(match e with|.inl x8=>some x8|.inr _=>some (-1))
def qF1 (x1:aA YM) (a:Int):OD k (d+2) 141 [kH x1,.fn 253 [] [.ip [i64 a]]]=(Ml x1 a).map i64:=oe rfl<|by
 refine bz lm ?_;refine bo (aM (S:=Int) (enc:=fun b=>(Q [aT 0 x1,(1,.fn 253 [] [.ip [i64 a]]),cH 7 x1,aU 8 b] [])) (encE:=Qt 4) (fun b=>?_) bP 0) fun e=>?_;refine ig fun c=>?_;refine bo (eX2 d c a) fun f=>?_;refine io rfl rfl;rcases e with g|_;rfl;rfl
def aY1 (x1:YK) (a:Int):aB Int:=
 (Ml x1.s'.aE a).bind fun b=>some b
def iJ1 (x1:YK) (a:Int):OD k (d+3) 205 [dB x1,i64 a]=(aY1 x1 a).map i64:=oe rfl<|by
 refine bo (qF1 d x1.s'.aE a) fun b=>?_;rfl
def aZ1 (x1:Int) (a:YK) (b:Int):aB Bool:=
 (aY1 a x1).bind fun c=>(qQ c 0 b).bind fun d=>some d
def iK1 (x1:Int) (a:YK) (b:Int):OD k (d+4) 204 [i64 x1,.ip [dB a],.ip [i64 b]]=(aZ1 x1 a b).map bv:=oe rfl<|by
 refine bo (iJ1 d a x1) fun c=>?_;refine bo (nZ (d+2) c 0 b) fun e=>?_;rfl
def qG1 (x1:YK) (a e:Int):aB Bool:=
 ((if decide (a>=4)then(aZ1 1 x1 e).bind fun f=>some (!f)else some false:aB (Bool))).bind fun g=>if g then some false else((if a==2 then some (a==2)else some (a==5):aB (Bool))).bind fun h=>if h then(aZ1 4 x1 e).bind fun i=>some i else((if a==3 then some (a==3)else some (a==6):aB (Bool))).bind fun j=>if j then(aZ1 8 x1 e).bind fun k=>((if k then(aY1 x1 2).bind fun b=>(aY1 x1 8).bind fun c=>some (decide (b>c))else some false:aB (Bool))).bind fun d=>some d else some true
def eY2 (x1:YK) (b a:Int):OD k (d+5) 136 [dB x1,i64 b,i64 a]=(qG1 x1 b a).map bv:=oe rfl<|by
 refine bo (e:=id) ?_ fun l=>?_;refine io ?_ rfl;refine bo (iK1 d 1 x1 a) fun j=>?_;rfl;refine io rfl ?_;refine bo (e:=(fun(c:Bool)=>(nq [bF 3 0,(7,.fn 204 [] [.ref 0 0,.ref 1 0]),aU 16 b,(17,bv c)] [(1,.box [i64 a]),(0,.box [dB x1])]))) ?_ fun c=>?_;refine io rfl rfl;refine io ?_ ?_;refine bo (iK1 d 4 x1 a) fun m=>?_;rfl;refine bo (e:=(fun(f:Bool)=>(nq [bF 3 0,(7,.fn 204 [] [.ref 0 0,.ref 1 0]),(22,bv f)] [(1,.box [i64 a]),(0,.box [dB x1])]))) ?_ fun f=>?_;refine io rfl rfl;refine io ?_ rfl;refine bo (iK1 d 8 x1 a) fun n=>?_;refine bo (e:=id) ?_ fun i=>?_;refine io ?_ rfl;refine bo (iJ1 (d+1) x1 2) fun g=>?_;refine bo (iJ1 (d+1) x1 8) fun h=>?_;rfl;rfl
def qH1 (x1:Int) (a:YM) (c:YK):aB Bool:=
 (qQ a.jV 0 6).bind fun d=>((if !d then some true else(qQ a.eC 0 15).bind fun e=>some (!e):aB (Bool))).bind fun f=>if f||(((a.jV !=0)||(a.eC !=0))&&((a.bG !=0)||(a.bL !=0)))then some true else(wP c.s'.aE 0 x1).bind fun g=>(F74 g a).bind fun h=>((if h then some true else(qG1 c a.jV x1).bind fun i=>some (!i):aB (Bool))).bind fun b=>some b
def eZ2 (x1:Int) (a:YM) (b:YK):OD k (d+6) 134 [i64 x1,eD a,.ip [dB b]]=(qH1 x1 a b).map bv:=oe rfl<|by
 refine bo (nZ (d+4) a.jV 0 6) fun g=>?_;refine bo (e:=id) ?_ fun i=>?_;refine io rfl ?_;refine bo (nZ (d+4) a.eC 0 15) fun h=>?_;rfl;refine bz (kG (bz (kG rfl) (bz (jR (bz (kG rfl) rfl)) rfl))) ?_;refine io rfl ?_;refine bo (yO _ _ _ _) fun f=>?_;refine bo (qI2 (d+2) f a) fun j=>?_;refine bo (e:=id) ?_ fun c=>?_;refine io rfl ?_;refine bo (eY2 d b a.jV x1) fun l=>?_;rfl;rfl
def Dp (x1:aA YV) (d:Y0) (g:Int):aB (aA YV):=
 (aW (E:=aA YV) (fun(⟨e,f⟩:Int×(aA YV))=>dH d.aE e (fun h=>(qH1 e h (YK.mk d g f)).bind fun a=>(nA a h.ID f d g).bind fun b=>some (.inl ((bN (e+1)),b))) (some (.inr f))) bP (0,x1)).bind fun c=>some c
def iL1 (x1:aA YV) (a:Y0) (b:Int):gY (XD k (d+7)) 104 [.ref 1 0,.fn 134 [] [.ref 3 0]] ((3,.box [.ref 1 0])::cL x1 a b) 4 false=(Dp x1 a b).map (fun(g:aA YV)=>((.tup [],((3,.box [.ref 1 0])::cL g a b),0))):=by
 rw[xd (fn:=Lr) rfl];refine bz lm ?_;refine bo (aM (S:=Int×(aA YV)) (enc:=fun⟨h,e⟩=>(Q [bF 0 1,(1,.fn 134 [] [.ref 3 0]),aT 10 a.aE,cH 11 a.aE,aU 12 h] ((3,.box [.ref 1 0])::cL e a b))) (encE:=(fun(c:aA YV)=>(xq 0 [] ((3,.box [.ref 1 0])::cL c a b)))) (fun⟨h,e⟩=>?_) bP (0,x1)) fun c=>?_;refine ig fun i=>?_;refine bo (eZ2 d h i (YK.mk a b e)) fun f=>?_;refine bo (lG (d+5) f i.ID e a b) fun j=>?_;rfl;rfl
def iM1 (x1:aA YV) (a:Y0) (b:Int):aB (aA YV):=
 (Dp x1 a b).bind fun c=>some c
def fA2 (x1:aA YV) (a:Y0) (b:Int):gY (XD k (d+8)) 70 [.ref 1 0] (cL x1 a b) 3 false=(iM1 x1 a b).map (fun(c:aA YV)=>((.tup [],(cL c a b),0))):=by
 rw[xd (fn:=p70) rfl];refine bo (iL1 d x1 a b) fun e=>?_;rfl
def qI1 (x1:Int) (c:YM):aB Bool:=
 (F91 c).bind fun⟨m,r⟩=>((if c.hU !=0 then(qQ c.hU 50 75).bind fun n=>some (!n)else some false:aB (Bool))).bind fun o=>((if o then some true else(qQ c.iF 0 3).bind fun p=>some (!p):aB (Bool))).bind fun q=>(aW (E:=Bool) (fun(⟨d,a⟩:Bool×Int)=>dH c.eS a (fun b=>((if d then some true else(qQ b.At 0 (bN (m-1))).bind fun e=>some (!e):aB (Bool))).bind fun f=>((if f then some true else(qQ b.Hh 1 60000000).bind fun g=>some (!g):aB (Bool))).bind fun h=>((if h then some true else((if decide (a>0)then(cC c.eS (bN (a-1))).bind fun i=>some (decide (b.At<=i.At))else some false:aB (Bool))).bind fun j=>some j:aB (Bool))).bind fun k=>some (.inl (k,(bN (a+1))))) (some (.inr d))) bP (q,0)).bind fun l=>some l
def fB2 (x1:Int) (a:YM):OD k (d+5) 137 [i64 x1,eD a]=(qI1 x1 a).map bv:=oe rfl<|by
 refine bo (aL1 d a) fun⟨h,r⟩=>?_;refine bo (e:=id) ?_ fun t=>?_;refine io ?_ rfl;refine bo (nZ (d+3) a.hU 50 75) fun s=>?_;rfl;refine bo (e:=id) ?_ fun q=>?_;refine io rfl ?_;refine bo (nZ (d+3) a.iF 0 3) fun u=>?_;rfl;refine bz lm ?_;refine bo (aM (S:=Bool×Int) (enc:=fun⟨b,c⟩=>(Q [bF 3 0,aU 5 h,(7,bv b),pS 31 a.eS,cH 32 a.eS,aU 33 c] [aR 0 a])) (encE:=(fun(g:Bool)=>(xq 0 [(7,bv g)] [aR 0 a]))) (fun⟨b,c⟩=>?_) bP (q,0)) fun g=>?_;refine ig fun f=>?_;refine bo (e:=id) ?_ fun j=>?_;refine io rfl ?_;refine bo (nZ (d+3) f.At 0 (bN (h-1))) fun i=>?_;rfl;refine bo (e:=id) ?_ fun m=>?_;refine io rfl ?_;refine bo (nZ (d+3) f.Hh 1 60000000) fun l=>?_;rfl;refine bo (e:=id) ?_ fun p=>?_;refine io rfl ?_;refine bo (e:=id) ?_ fun o=>?_;refine ig fun n=>?_;rfl;rfl;rfl;rfl
def Dq (x1:aA YV) (e:Y0) (h:Int):aB (aA YV):=
 (aW (E:=aA YV) (fun(⟨d,f⟩:Int×(aA YV))=>dH e.aE d (fun g=>(qI1 d g).bind fun a=>(nA a g.ID f e h).bind fun b=>some (.inl ((bN (d+1)),b))) (some (.inr f))) bP (0,x1)).bind fun c=>some c
def iN1 (x1:aA YV) (a:Y0) (b:Int):gY (XD k (d+6)) 104 [.ref 1 0,.fn 137 [] []] (cL x1 a b) 3 false=(Dq x1 a b).map (fun(f:aA YV)=>((.tup [],(cL f a b),0))):=by
 rw[xd (fn:=Lr) rfl];refine bz lm ?_;refine bo (aM (S:=Int×(aA YV)) (enc:=fun⟨g,h⟩=>(Q [bF 0 1,(1,.fn 137 [] []),aT 10 a.aE,cH 11 a.aE,aU 12 g] (cL h a b))) (encE:=(fun(c:aA YV)=>(xq 0 [] (cL c a b)))) (fun⟨g,h⟩=>?_) bP (0,x1)) fun c=>?_;refine ig fun i=>?_;refine bo (fB2 d g i) fun e=>?_;refine bo (lG (d+4) e i.ID h a b) fun j=>?_;rfl;rfl
def iO1 (x1:aA YV) (a:Y0) (b:Int):aB (aA YV):=
 (Dq x1 a b).bind fun c=>some c
def fC2 (x1:aA YV) (a:Y0) (b:Int):gY (XD k (d+7)) 71 [.ref 1 0] (cL x1 a b) 3 false=(iO1 x1 a b).map (fun(c:aA YV)=>((.tup [],(cL c a b),0))):=by
 rw[xd (fn:=p71) rfl];refine bo (iN1 d x1 a b) fun e=>?_;rfl
def qJ1 (x1:YP) (e:YE) (b:YK):aB Bool:=
 (hK1 b.s' x1).bind fun⟨d,f⟩=>((if !f then some true else(hG1 e).bind fun g=>some (!g):aB (Bool))).bind fun h=>if h||(d.cW==x1.cW)then some false else(cC b.s'.aE x1.cW).bind fun a=>(cC b.s'.aE d.cW).bind fun c=>some ((((((a.bG !=0)||(a.jV !=0))||((Qj .i64 a.eC 12)!=0))||(a.bL !=c.bL))||c.bS)||((Qj .i64 c.eC 3)!=0))
def fD2 (x1:YP) (a:YE) (b:YK):OD k (d+5) 138 [fK x1,eU a,.ip [dB b]]=(qJ1 x1 a b).map bv:=oe rfl<|by
 refine bo (tX1 (d+1) b.s' x1) fun⟨c,f⟩=>?_;refine bo (e:=id) ?_ fun h=>?_;refine io rfl ?_;refine bo (tU1 d a) fun g=>?_;rfl;refine bz (kG rfl) ?_;refine io rfl ?_;refine bo rg fun i=>?_;refine bo rg fun j=>?_;refine bz (kG rfl) ?_;refine bz (kG rfl) ?_;refine bz (kG rfl) ?_;refine bz (kG rfl) ?_;refine bz (kG rfl) ?_;rfl
def Dr (x1:aA YV) (p:Y0) (t:Int):aB (aA YV):=
 (aW (E:=aA YV) (fun(⟨d,m⟩:Int×(aA YV))=>dH p.aE d (fun q=>(aW (E:=aA YV) (fun(⟨e,n⟩:Int×(aA YV))=>dH q.aQ e (fun r=>(aW (E:=aA YV) (fun(⟨f,o⟩:Int×(aA YV))=>dH r.aO f (fun s=>(aW (E:=aA YV) (fun(⟨a,b⟩:Int×(aA YV))=>dH s.aX a (fun c=>(qJ1 (YP.mk 4 0 e d f a 0) c (YK.mk p t b)).bind fun g=>(nA g c.ID b p t).bind fun h=>some (.inl ((bN (a+1)),h))) (some (.inr b))) bP (0,o)).bind fun i=>some (.inl ((bN (f+1)),i))) (some (.inr o))) bP (0,n)).bind fun j=>some (.inl ((bN (e+1)),j))) (some (.inr n))) bP (0,m)).bind fun k=>some (.inl ((bN (d+1)),k))) (some (.inr m))) bP (0,x1)).bind fun l=>some l
def iP1 (x1:aA YV) (c:Y0) (h:Int):gY (XD k (d+6)) 112 [.ref 1 0,.fn 138 [] [.ref 3 0]] ((3,.box [.ref 1 0])::cL x1 c h) 4 false=(Dr x1 c h).map (fun(v:aA YV)=>((.tup [],((3,.box [.ref 1 0])::cL v c h),0))):=by
 rw[xd (fn:=Zx) rfl];refine bz lm ?_;refine bo (aM (S:=Int×(aA YV)) (enc:=fun⟨b,r⟩=>(Q [bF 0 1,(1,.fn 138 [] [.ref 3 0]),aT 16 c.aE,cH 17 c.aE,aU 18 b] ((3,.box [.ref 1 0])::cL r c h))) (encE:=(fun(q:aA YV)=>(xq 0 [] ((3,.box [.ref 1 0])::cL q c h)))) (fun⟨b,r⟩=>?_) bP (0,x1)) fun q=>?_;refine ig fun a=>?_;refine bz lm ?_;refine bo (aM (S:=Int×(aA YV)) (enc:=fun⟨e,s⟩=>(Q [bF 0 1,(1,.fn 138 [] [.ref 3 0]),aU 4 b,aT 16 c.aE,cH 17 c.aE,aU 18 b,cG 24 a.aQ,cH 25 a.aQ,aU 26 e] (aR 4 a::(3,.box [.ref 1 0])::cL s c h))) (encE:=(fun(p:aA YV)=>(xq 2 [bF 0 1,(1,.fn 138 [] [.ref 3 0]),aT 16 c.aE,cH 17 c.aE,aU 18 b] (aR 4 a::(3,.box [.ref 1 0])::cL p c h)))) (fun⟨e,s⟩=>?_) bP (0,r)) fun p=>?_;refine ig fun f=>?_;refine bz lm ?_;refine bo (aM (S:=Int×(aA YV)) (enc:=fun⟨i,t⟩=>(Q [bF 0 1,(1,.fn 138 [] [.ref 3 0]),aU 4 b,aU 6 e,aT 16 c.aE,cH 17 c.aE,aU 18 b,cG 24 a.aQ,cH 25 a.aQ,aU 26 e,cU 32 f.aO,cH 33 f.aO,aU 34 i] (dG 5 f::aR 4 a::(3,.box [.ref 1 0])::cL t c h))) (encE:=(fun(o:aA YV)=>(xq 4 [bF 0 1,(1,.fn 138 [] [.ref 3 0]),aU 4 b,aT 16 c.aE,cH 17 c.aE,aU 18 b,cG 24 a.aQ,cH 25 a.aQ,aU 26 e] (dG 5 f::aR 4 a::(3,.box [.ref 1 0])::cL o c h)))) (fun⟨i,t⟩=>?_) bP (0,s)) fun o=>?_;refine ig fun l=>?_;refine bz lm ?_;refine bo (aM (S:=Int×(aA YV)) (enc:=fun⟨j,g⟩=>(Q [bF 0 1,(1,.fn 138 [] [.ref 3 0]),aU 4 b,aU 6 e,aU 8 i,aT 16 c.aE,cH 17 c.aE,aU 18 b,cG 24 a.aQ,cH 25 a.aQ,aU 26 e,cU 32 f.aO,cH 33 f.aO,aU 34 i,eQ 40 l.aX,cH 41 l.aX,aU 42 j] (cN 6 l::dG 5 f::aR 4 a::(3,.box [.ref 1 0])::cL g c h))) (encE:=(fun(n:aA YV)=>(xq 6 [bF 0 1,(1,.fn 138 [] [.ref 3 0]),aU 4 b,aU 6 e,aT 16 c.aE,cH 17 c.aE,aU 18 b,cG 24 a.aQ,cH 25 a.aQ,aU 26 e,cU 32 f.aO,cH 33 f.aO,aU 34 i] (cN 6 l::dG 5 f::aR 4 a::(3,.box [.ref 1 0])::cL n c h)))) (fun⟨j,g⟩=>?_) bP (0,t)) fun n=>?_;refine ig fun m=>?_;refine bo (fD2 d (YP.mk 4 0 e b i j 0) m (YK.mk c h g)) fun u=>?_;refine bo (lG (d+4) u m.ID g c h) fun w=>?_;rfl;rfl;rfl;rfl;rfl
def iQ1 (x1:aA YV) (a:Y0) (b:Int):aB (aA YV):=
 (Dr x1 a b).bind fun c=>some c
def fE2 (x1:aA YV) (a:Y0) (b:Int):gY (XD k (d+7)) 72 [.ref 1 0] (cL x1 a b) 3 false=(iQ1 x1 a b).map (fun(c:aA YV)=>((.tup [],(cL c a b),0))):=by
 rw[xd (fn:=p72) rfl];refine bo (iP1 d x1 a b) fun e=>?_;rfl
def F22 (x1:Y0):aB (aA YV):=
 ((if decide ((([]:aA YV).length:Int)>0)then((if false then some true else((if false then(gI ([]:aA YV) 0).bind fun x2=>(gT ([]:aA YV) x2).bind fun x3=>some (decide (x3.kU<10))else some false:aB (Bool))).bind fun x4=>some x4:aB (Bool))).bind fun x5=>some x5 else some false:aB (Bool))).bind fun x6=>if x6 then some []else(Ty [] x1 1).bind fun t=>((if decide ((t.length:Int)>0)then((if true then some true else((if false then(gI t 0).bind fun x8=>(gT t x8).bind fun x9=>some (decide (x9.kU<10))else some false:aB (Bool))).bind fun u=>some u:aB (Bool))).bind fun v=>some v else some false:aB (Bool))).bind fun w=>if w then some t else(gC1 t x1 2).bind fun a=>((if decide ((a.length:Int)>0)then((if false then some true else((if false then(gI a 0).bind fun x=>(gT a x).bind fun y=>some (decide (y.kU<10))else some false:aB (Bool))).bind fun z=>some z:aB (Bool))).bind fun A=>some A else some false:aB (Bool))).bind fun B=>if B then some a else(aK1 a x1 3).bind fun b=>((if decide ((b.length:Int)>0)then((if false then some true else((if false then(gI b 0).bind fun C=>(gT b C).bind fun D=>some (decide (D.kU<10))else some false:aB (Bool))).bind fun E=>some E:aB (Bool))).bind fun F=>some F else some false:aB (Bool))).bind fun G=>if G then some b else(gF1 b x1 4).bind fun c=>((if decide ((c.length:Int)>0)then((if false then some true else((if false then(gI c 0).bind fun H=>(gT c H).bind fun J=>some (decide (J.kU<10))else some false:aB (Bool))).bind fun K=>some K:aB (Bool))).bind fun L=>some L else some false:aB (Bool))).bind fun M=>if M then some c else(aN1 c x1 5).bind fun d=>((if decide ((d.length:Int)>0)then((if false then some true else((if false then(gI d 0).bind fun N=>(gT d N).bind fun O=>some (decide (O.kU<10))else some false:aB (Bool))).bind fun P=>some P:aB (Bool))).bind fun R=>some R else some false:aB (Bool))).bind fun S=>if S then some d else(gW1 d x1 6).bind fun e=>((if decide ((e.length:Int)>0)then((if false then some true else((if false then(gI e 0).bind fun T=>(gT e T).bind fun U=>some (decide (U.kU<10))else some false:aB (Bool))).bind fun V=>some V:aB (Bool))).bind fun W=>some W else some false:aB (Bool))).bind fun X=>if X then some e else(gZ1 e x1 7).bind fun f=>((if decide ((f.length:Int)>0)then((if false then some true else((if false then(gI f 0).bind fun Y=>(gT f Y).bind fun Z=>some (decide (Z.kU<10))else some false:aB (Bool))).bind fun b0=>some b0:aB (Bool))).bind fun b4=>some b4 else some false:aB (Bool))).bind fun b5=>if b5 then some f else(hA1 f x1 8).bind fun g=>((if decide ((g.length:Int)>0)then((if false then some true else((if false then(gI g 0).bind fun b6=>(gT g b6).bind fun b7=>some (decide (b7.kU<10))else some false:aB (Bool))).bind fun b8=>some b8:aB (Bool))).bind fun b9=>some b9 else some false:aB (Bool))).bind fun d0=>if d0 then some g else(hF1 g x1 9).bind fun h=>((if decide ((h.length:Int)>0)then((if false then some true else((if true then(gI h 0).bind fun d2=>(gT h d2).bind fun d3=>some (decide (d3.kU<10))else some false:aB (Bool))).bind fun d4=>some d4:aB (Bool))).bind fun d5=>some d5 else some false:aB (Bool))).bind fun d6=>if d6 then some h else(hO1 h x1 10).bind fun i=>((if decide ((i.length:Int)>0)then((if false then some true else((if true then(gI i 0).bind fun d7=>(gT i d7).bind fun d8=>some (decide (d8.kU<10))else some false:aB (Bool))).bind fun d9=>some d9:aB (Bool))).bind fun e0=>some e0 else some false:aB (Bool))).bind fun e1=>if e1 then some i else(hQ1 i x1 11).bind fun j=>((if decide ((j.length:Int)>0)then((if false then some true else((if true then(gI j 0).bind fun e3=>(gT j e3).bind fun e4=>some (decide (e4.kU<10))else some false:aB (Bool))).bind fun e5=>some e5:aB (Bool))).bind fun e6=>some e6 else some false:aB (Bool))).bind fun e7=>if e7 then some j else(iA1 j x1 12).bind fun k=>((if decide ((k.length:Int)>0)then((if false then some true else((if true then(gI k 0).bind fun e8=>(gT k e8).bind fun e9=>some (decide (e9.kU<10))else some false:aB (Bool))).bind fun f0=>some f0:aB (Bool))).bind fun f1=>some f1 else some false:aB (Bool))).bind fun f2=>if f2 then some k else(iG1 k x1 13).bind fun l=>((if decide ((l.length:Int)>0)then((if false then some true else((if true then(gI l 0).bind fun f4=>(gT l f4).bind fun f5=>some (decide (f5.kU<10))else some false:aB (Bool))).bind fun f6=>some f6:aB (Bool))).bind fun f7=>some f7 else some false:aB (Bool))).bind fun f8=>if f8 then some l else(iI1 l x1 14).bind fun m=>((if decide ((m.length:Int)>0)then((if false then some true else((if true then(gI m 0).bind fun f9=>(gT m f9).bind fun g1=>some (decide (g1.kU<10))else some false:aB (Bool))).bind fun g3=>some g3:aB (Bool))).bind fun g4=>some g4 else some false:aB (Bool))).bind fun g5=>if g5 then some m else(iM1 m x1 15).bind fun n=>((if decide ((n.length:Int)>0)then((if false then some true else((if true then(gI n 0).bind fun g6=>(gT n g6).bind fun g7=>some (decide (g7.kU<10))else some false:aB (Bool))).bind fun g8=>some g8:aB (Bool))).bind fun g9=>some g9 else some false:aB (Bool))).bind fun h0=>if h0 then some n else(iO1 n x1 16).bind fun o=>((if decide ((o.length:Int)>0)then((if false then some true else((if true then(gI o 0).bind fun h2=>(gT o h2).bind fun h3=>some (decide (h3.kU<10))else some false:aB (Bool))).bind fun p=>some p:aB (Bool))).bind fun q=>some q else some false:aB (Bool))).bind fun r=>if r then some o else(iQ1 o x1 17).bind fun s=>some s
def qJ2 (x1:Y0):OD k (d+25) 22 [eW x1]=(F22 x1).map (fun y0=>Hv y0):=oe rfl<|by
 refine bz (dS YV.g ([]:aA YV)) ?_;refine bo (e:=id) ?_ fun x6=>?_;refine io ?_ rfl;refine bo (e:=id) ?_ fun x5=>?_;refine io rfl ?_;refine bo (e:=id) ?_ fun x4=>?_;refine io ?_ rfl;refine bo (bX YV.g ([]:aA YV) _) fun x2=>?_;refine bo (dY (A:=YV) (c:=YV.g) (g:=fun R=>i64 R.kU) (fun _=>rfl) ([]:aA YV) _) fun R=>?_;rfl;rfl;rfl;refine io rfl ?_;refine bo (bH2 (d+19) [] x1 1) fun L=>?_;refine bz (dS YV.g L) ?_;refine bo (e:=id) ?_ fun V=>?_;refine io ?_ rfl;refine bo (e:=id) ?_ fun U=>?_;refine io rfl ?_;refine bo (e:=id) ?_ fun T=>?_;refine io ?_ rfl;refine bo (bX YV.g L _) fun x8=>?_;refine bo (dY (A:=YV) (c:=YV.g) (g:=fun S=>i64 S.kU) (fun _=>rfl) L _) fun S=>?_;rfl;rfl;rfl;refine io rfl ?_;refine bo (bK2 (d+20) L x1 2) fun a=>?_;refine bz (dS YV.g a) ?_;refine bo (e:=id) ?_ fun Z=>?_;refine io ?_ rfl;refine bo (e:=id) ?_ fun Y=>?_;refine io rfl ?_;refine bo (e:=id) ?_ fun X=>?_;refine io ?_ rfl;refine bo (bX YV.g a _) fun W=>?_;refine bo (dY (A:=YV) (c:=YV.g) (g:=fun u=>i64 u.kU) (fun _=>rfl) a _) fun u=>?_;rfl;rfl;rfl;refine io rfl ?_;refine bo (bN2 (d+21) a x1 3) fun b=>?_;refine bz (dS YV.g b) ?_;refine bo (e:=id) ?_ fun b6=>?_;refine io ?_ rfl;refine bo (e:=id) ?_ fun b5=>?_;refine io rfl ?_;refine bo (e:=id) ?_ fun b4=>?_;refine io ?_ rfl;refine bo (bX YV.g b _) fun b0=>?_;refine bo (dY (A:=YV) (c:=YV.g) (g:=fun v=>i64 v.kU) (fun _=>rfl) b _) fun v=>?_;rfl;rfl;rfl;refine io rfl ?_;refine bo (bW2 (d+17) b x1 4) fun f=>?_;refine bz (dS YV.g f) ?_;refine bo (e:=id) ?_ fun d0=>?_;refine io ?_ rfl;refine bo (e:=id) ?_ fun b9=>?_;refine io rfl ?_;refine bo (e:=id) ?_ fun b8=>?_;refine io ?_ rfl;refine bo (bX YV.g f _) fun b7=>?_;refine bo (dY (A:=YV) (c:=YV.g) (g:=fun w=>i64 w.kU) (fun _=>rfl) f _) fun w=>?_;rfl;rfl;rfl;refine io rfl ?_;refine bo (bZ2 (d+17) f x1 5) fun h=>?_;refine bz (dS YV.g h) ?_;refine bo (e:=id) ?_ fun d5=>?_;refine io ?_ rfl;refine bo (e:=id) ?_ fun d4=>?_;refine io rfl ?_;refine bo (e:=id) ?_ fun d3=>?_;refine io ?_ rfl;refine bo (bX YV.g h _) fun d2=>?_;refine bo (dY (A:=YV) (c:=YV.g) (g:=fun x=>i64 x.kU) (fun _=>rfl) h _) fun x=>?_;rfl;rfl;rfl;refine io rfl ?_;refine bo (dJ2 d h x1 6) fun i=>?_;refine bz (dS YV.g i) ?_;refine bo (e:=id) ?_ fun d9=>?_;refine io ?_ rfl;refine bo (e:=id) ?_ fun d8=>?_;refine io rfl ?_;refine bo (e:=id) ?_ fun d7=>?_;refine io ?_ rfl;refine bo (bX YV.g i _) fun d6=>?_;refine bo (dY (A:=YV) (c:=YV.g) (g:=fun y=>i64 y.kU) (fun _=>rfl) i _) fun y=>?_;rfl;rfl;rfl;refine io rfl ?_;refine bo (dL2 d i x1 7) fun j=>?_;refine bz (dS YV.g j) ?_;refine bo (e:=id) ?_ fun e4=>?_;refine io ?_ rfl;refine bo (e:=id) ?_ fun e3=>?_;refine io rfl ?_;refine bo (e:=id) ?_ fun e1=>?_;refine io ?_ rfl;refine bo (bX YV.g j _) fun e0=>?_;refine bo (dY (A:=YV) (c:=YV.g) (g:=fun z=>i64 z.kU) (fun _=>rfl) j _) fun z=>?_;rfl;rfl;rfl;refine io rfl ?_;refine bo (dN2 (d+13) j x1 8) fun l=>?_;refine bz (dS YV.g l) ?_;refine bo (e:=id) ?_ fun e8=>?_;refine io ?_ rfl;refine bo (e:=id) ?_ fun e7=>?_;refine io rfl ?_;refine bo (e:=id) ?_ fun e6=>?_;refine io ?_ rfl;refine bo (bX YV.g l _) fun e5=>?_;refine bo (dY (A:=YV) (c:=YV.g) (g:=fun B=>i64 B.kU) (fun _=>rfl) l _) fun B=>?_;rfl;rfl;rfl;refine io rfl ?_;refine bo (dV2 (d+13) l x1 9) fun m=>?_;refine bz (dS YV.g m) ?_;refine bo (e:=id) ?_ fun f2=>?_;refine io ?_ rfl;refine bo (e:=id) ?_ fun f1=>?_;refine io rfl ?_;refine bo (e:=id) ?_ fun f0=>?_;refine io ?_ rfl;refine bo (bX YV.g m _) fun e9=>?_;refine bo (dY (A:=YV) (c:=YV.g) (g:=fun C=>i64 C.kU) (fun _=>rfl) m _) fun C=>?_;rfl;rfl;rfl;refine io rfl ?_;refine bo (eB2 (d+17) m x1 10) fun n=>?_;refine bz (dS YV.g n) ?_;refine bo (e:=id) ?_ fun f7=>?_;refine io ?_ rfl;refine bo (e:=id) ?_ fun f6=>?_;refine io rfl ?_;refine bo (e:=id) ?_ fun f5=>?_;refine io ?_ rfl;refine bo (bX YV.g n _) fun f4=>?_;refine bo (dY (A:=YV) (c:=YV.g) (g:=fun D=>i64 D.kU) (fun _=>rfl) n _) fun D=>?_;rfl;rfl;rfl;refine io rfl ?_;refine bo (eE2 (d+21) n x1 11) fun o=>?_;refine bz (dS YV.g o) ?_;refine bo (e:=id) ?_ fun g3=>?_;refine io ?_ rfl;refine bo (e:=id) ?_ fun g1=>?_;refine io rfl ?_;refine bo (e:=id) ?_ fun f9=>?_;refine io ?_ rfl;refine bo (bX YV.g o _) fun f8=>?_;refine bo (dY (A:=YV) (c:=YV.g) (g:=fun E=>i64 E.kU) (fun _=>rfl) o _) fun E=>?_;rfl;rfl;rfl;refine io rfl ?_;refine bo (eK2 (d+7) o x1 12) fun p=>?_;refine bz (dS YV.g p) ?_;refine bo (e:=id) ?_ fun g7=>?_;refine io ?_ rfl;refine bo (e:=id) ?_ fun g6=>?_;refine io rfl ?_;refine bo (e:=id) ?_ fun g5=>?_;refine io ?_ rfl;refine bo (bX YV.g p _) fun g4=>?_;refine bo (dY (A:=YV) (c:=YV.g) (g:=fun F=>i64 F.kU) (fun _=>rfl) p _) fun F=>?_;rfl;rfl;rfl;refine io rfl ?_;refine bo (eP2 (d+7) p x1 13) fun q=>?_;refine bz (dS YV.g q) ?_;refine bo (e:=id) ?_ fun h2=>?_;refine io ?_ rfl;refine bo (e:=id) ?_ fun h0=>?_;refine io rfl ?_;refine bo (e:=id) ?_ fun g9=>?_;refine io ?_ rfl;refine bo (bX YV.g q _) fun g8=>?_;refine bo (dY (A:=YV) (c:=YV.g) (g:=fun G=>i64 G.kU) (fun _=>rfl) q _) fun G=>?_;rfl;rfl;rfl;refine io rfl ?_;refine bo (eU2 (d+19) q x1 14) fun r=>?_;refine bz (dS YV.g r) ?_;refine bo (e:=id) ?_ fun h6=>?_;refine io ?_ rfl;refine bo (e:=id) ?_ fun h5=>?_;refine io rfl ?_;refine bo (e:=id) ?_ fun h4=>?_;refine io ?_ rfl;refine bo (bX YV.g r _) fun h3=>?_;refine bo (dY (A:=YV) (c:=YV.g) (g:=fun H=>i64 H.kU) (fun _=>rfl) r _) fun H=>?_;rfl;rfl;rfl;refine io rfl ?_;refine bo (fA2 (d+16) r x1 15) fun s=>?_;refine bz (dS YV.g s) ?_;refine bo (e:=id) ?_ fun i0=>?_;refine io ?_ rfl;refine bo (e:=id) ?_ fun h9=>?_;refine io rfl ?_;refine bo (e:=id) ?_ fun h8=>?_;refine io ?_ rfl;refine bo (bX YV.g s _) fun h7=>?_;refine bo (dY (A:=YV) (c:=YV.g) (g:=fun J=>i64 J.kU) (fun _=>rfl) s _) fun J=>?_;rfl;rfl;rfl;refine io rfl ?_;refine bo (fC2 (d+17) s x1 16) fun t=>?_;refine bz (dS YV.g t) ?_;refine bo (e:=id) ?_ fun O=>?_;refine io ?_ rfl;refine bo (e:=id) ?_ fun N=>?_;refine io rfl ?_;refine bo (e:=id) ?_ fun M=>?_;refine io ?_ rfl;refine bo (bX YV.g t _) fun i1=>?_;refine bo (dY (A:=YV) (c:=YV.g) (g:=fun K=>i64 K.kU) (fun _=>rfl) t _) fun K=>?_;rfl;rfl;rfl;refine io rfl ?_;refine bo (fE2 (d+17) t x1 17) fun P=>?_;rfl
end Go.P
