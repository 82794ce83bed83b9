import Derived.Test.YtmocdkmjkfpkeaaGreatLpC
import Derived.KernelRfl
import Derived.Test.YtmocdkmjkfpkeaaGreatChecked
/- A text of the proof. -/
set_option linter.all false
set_option maxRecDepth 100000
set_option maxHeartbeats 2000000
namespace Go.P
open Go.Sim (Ex eE CK)
structure YZ where
 iZ:Int
 dW:Int
 deriving DecidableEq,Inhabited
def YZ.g (x:YZ):aA PV:=[i64 x.iZ,i64 x.dW]
structure YL where
 cW:Int
 bB:Int
 deriving DecidableEq,Inhabited
def YL.g (x:YL):aA PV:=[i64 x.cW,i64 x.bB]
structure YF where
 ID:YZ
 Nq:Int
 deriving DecidableEq,Inhabited
def YF.g (x:YF):aA PV:=[i64 x.ID.iZ,i64 x.ID.dW,i64 x.Nq]
structure YJ where
 ID:YZ
 xI:ByteArray
 cG:YL
 dR:List YF
 deriving Inhabited
def YJ.g (x:YJ):aA PV:=[i64 x.ID.iZ,i64 x.ID.dW,.v (.string x.xI),i64 x.cG.cW,i64 x.cG.bB,.is 3 (List.map YF.g x.dR)]
structure Y6 where
 c0:Int
 c1:Int
 c2:Int
 c3:Int
 c4:Int
 c5:Int
 deriving DecidableEq,Inhabited
def Y6.g (x:Y6):aA PV:=[i64 x.c0,i64 x.c1,i64 x.c2,i64 x.c3,i64 x.c4,i64 x.c5]
structure YX where
 gC:Int
 Unit:Int
 dF:Y6
 deriving DecidableEq,Inhabited
def YX.g (x:YX):aA PV:=[i64 x.gC,i64 x.Unit,i64 x.dF.c0,i64 x.dF.c1,i64 x.dF.c2,i64 x.dF.c3,i64 x.dF.c4,i64 x.dF.c5]
structure YT where
 At:Int
 Np:Int
 gT2:Bool
 deriving DecidableEq,Inhabited
def YT.g (x:YT):aA PV:=[i64 x.At,i64 x.Np,bv x.gT2]
structure YC where
 At:Int
 Nq:Int
 deriving DecidableEq,Inhabited
def YC.g (x:YC):aA PV:=[i64 x.At,i64 x.Nq]
structure YA where
 Log:Int
 qD:Int
 deriving DecidableEq,Inhabited
def YA.g (x:YA):aA PV:=[i64 x.Log,i64 x.qD]
structure YH where
 qC:Int
 oN:Int
 kU:Int
 deriving DecidableEq,Inhabited
def YH.g (x:YH):aA PV:=[i64 x.qC,i64 x.oN,i64 x.kU]
structure YB where
 eN:YH
 Tf:Bool
 aJ1:Int
 deriving DecidableEq,Inhabited
def YB.g (x:YB):aA PV:=[i64 x.eN.qC,i64 x.eN.oN,i64 x.eN.kU,bv x.Tf,i64 x.aJ1]
structure YD where
 eN:YH
 Log:Int
 aK1:Bool
 deriving DecidableEq,Inhabited
def YD.g (x:YD):aA PV:=[i64 x.eN.qC,i64 x.eN.oN,i64 x.eN.kU,i64 x.Log,bv x.aK1]
structure YY where
 mR:ByteArray
 xH:Int
 deriving DecidableEq,Inhabited
def YY.g (x:YY):aA PV:=[.v (.string x.mR),i64 x.xH]
structure YE where
 ID:YZ
 cU:Int
 Value:YA
 eR:List YB
 fS:List YD
 cV:Int
 iU:Int
 iL:Int
 dA:List YY
 Bs:Int
 Br:Int
 deriving Inhabited
def YE.g (x:YE):aA PV:=[i64 x.ID.iZ,i64 x.ID.dW,i64 x.cU,i64 x.Value.Log,i64 x.Value.qD,.is 5 (List.map YB.g x.eR),.is 5 (List.map YD.g x.fS),i64 x.cV,i64 x.iU,i64 x.iL,.is 2 (List.map YY.g x.dA),i64 x.Bs,i64 x.Br]
structure YU where
 iV:Int
 gC:Int
 fO:Int
 gO:Int
 deriving DecidableEq,Inhabited
def YU.g (x:YU):aA PV:=[i64 x.iV,i64 x.gC,i64 x.fO,i64 x.gO]
structure YO where
 aU:List YE
 gN:List YU
 deriving Inhabited
def YO.g (x:YO):aA PV:=[.is 13 (List.map YE.g x.aU),.is 4 (List.map YU.g x.gN)]
structure YW where
 jT:List YC
 aO:List YO
 deriving Inhabited
def YW.g (x:YW):aA PV:=[.is 2 (List.map YC.g x.jT),.is 2 (List.map YO.g x.aO)]
structure YM where
 ID:YZ
 rC:YX
 Gg:Int
 dJ:Int
 kP:Bool
 bO:Int
 bQ:Int
 Gi:Int
 oL:Int
 Kn:Int
 aM1:Int
 gU:ByteArray
 jW:List YT
 aS:List YW
 deriving Inhabited
def YM.g (x:YM):aA PV:=[i64 x.ID.iZ,i64 x.ID.dW,i64 x.rC.gC,i64 x.rC.Unit,i64 x.rC.dF.c0,i64 x.rC.dF.c1,i64 x.rC.dF.c2,i64 x.rC.dF.c3,i64 x.rC.dF.c4,i64 x.rC.dF.c5,i64 x.Gg,i64 x.dJ,bv x.kP,i64 x.bO,i64 x.bQ,i64 x.Gi,i64 x.oL,i64 x.Kn,i64 x.aM1,.v (.string x.gU),.is 3 (List.map YT.g x.jW),.is 2 (List.map YW.g x.aS)]
structure YN where
 ID:YZ
 cU:Int
 gF:YZ
 To:YZ
 deriving DecidableEq,Inhabited
def YN.g (x:YN):aA PV:=[i64 x.ID.iZ,i64 x.ID.dW,i64 x.cU,i64 x.gF.iZ,i64 x.gF.dW,i64 x.To.iZ,i64 x.To.dW]
structure Y0 where
 nI:ByteArray
 gM:Bool
 bE:List YJ
 aE:List YM
 bF:List YN
 jU:List YZ
 deriving Inhabited
def Y0.g (x:Y0):aA PV:=[.v (.string x.nI),bv x.gM,.is 6 (List.map YJ.g x.bE),.is 22 (List.map YM.g x.aE),.is 7 (List.map YN.g x.bF),.is 2 (List.map YZ.g x.jU)]
structure YV where
 hJ:Int
 aL1:YZ
 deriving DecidableEq,Inhabited
def YV.g (x:YV):aA PV:=[i64 x.hJ,i64 x.aL1.iZ,i64 x.aL1.dW]
structure YI where
 name:ByteArray
 letter:Int
 line:Int
 octaves:Int
 middle:Int
 sharps:Int
 flats:Int
 deriving DecidableEq,Inhabited
def YI.g (x:YI):aA PV:=[.v (.string x.name),.v (.int .u8 x.letter),i64 x.line,i64 x.octaves,i64 x.middle,i64 x.sharps,i64 x.flats]
structure Y9 where
 c0:YI
 c1:YI
 c2:YI
 c3:YI
 c4:YI
 c5:YI
 c6:YI
 c7:YI
 c8:YI
 deriving DecidableEq,Inhabited
def Y9.g (x:Y9):aA PV:=[.v (.string x.c0.name),.v (.int .u8 x.c0.letter),i64 x.c0.line,i64 x.c0.octaves,i64 x.c0.middle,i64 x.c0.sharps,i64 x.c0.flats,.v (.string x.c1.name),.v (.int .u8 x.c1.letter),i64 x.c1.line,i64 x.c1.octaves,i64 x.c1.middle,i64 x.c1.sharps,i64 x.c1.flats,.v (.string x.c2.name),.v (.int .u8 x.c2.letter),i64 x.c2.line,i64 x.c2.octaves,i64 x.c2.middle,i64 x.c2.sharps,i64 x.c2.flats,.v (.string x.c3.name),.v (.int .u8 x.c3.letter),i64 x.c3.line,i64 x.c3.octaves,i64 x.c3.middle,i64 x.c3.sharps,i64 x.c3.flats,.v (.string x.c4.name),.v (.int .u8 x.c4.letter),i64 x.c4.line,i64 x.c4.octaves,i64 x.c4.middle,i64 x.c4.sharps,i64 x.c4.flats,.v (.string x.c5.name),.v (.int .u8 x.c5.letter),i64 x.c5.line,i64 x.c5.octaves,i64 x.c5.middle,i64 x.c5.sharps,i64 x.c5.flats,.v (.string x.c6.name),.v (.int .u8 x.c6.letter),i64 x.c6.line,i64 x.c6.octaves,i64 x.c6.middle,i64 x.c6.sharps,i64 x.c6.flats,.v (.string x.c7.name),.v (.int .u8 x.c7.letter),i64 x.c7.line,i64 x.c7.octaves,i64 x.c7.middle,i64 x.c7.sharps,i64 x.c7.flats,.v (.string x.c8.name),.v (.int .u8 x.c8.letter),i64 x.c8.line,i64 x.c8.octaves,i64 x.c8.middle,i64 x.c8.sharps,i64 x.c8.flats]
structure YK where
 s':Y0
 rule:Int
 list:List YV
 deriving Inhabited
def YK.g (x:YK):aA PV:=[.v (.string x.s'.nI),bv x.s'.gM,.is 6 (List.map YJ.g x.s'.bE),.is 22 (List.map YM.g x.s'.aE),.is 7 (List.map YN.g x.s'.bF),.is 2 (List.map YZ.g x.s'.jU),i64 x.rule,.is 3 (List.map YV.g x.list)]
structure Bb where
 c0:Int
 c1:Int
 c2:Int
 c3:Int
 c4:Int
 c5:Int
 c6:Int
 deriving DecidableEq,Inhabited
def Bb.g (x:Bb):aA PV:=[i64 x.c0,i64 x.c1,i64 x.c2,i64 x.c3,i64 x.c4,i64 x.c5,i64 x.c6]
structure YP where
 cU:Int
 gU2:Int
 dZ:Int
 bS:Int
 eW:Int
 lY:Int
 hL1:Int
 deriving DecidableEq,Inhabited
def YP.g (x:YP):aA PV:=[i64 x.cU,i64 x.gU2,i64 x.dZ,i64 x.bS,i64 x.eW,i64 x.lY,i64 x.hL1]
structure YQ where
 bS:Int
 At:Int
 dZ:Int
 eW:Int
 deriving DecidableEq,Inhabited
def YQ.g (x:YQ):aA PV:=[i64 x.bS,i64 x.At,i64 x.dZ,i64 x.eW]
structure YS where
 cU:Int
 gF:YQ
 To:YQ
 deriving DecidableEq,Inhabited
def YS.g (x:YS):aA PV:=[i64 x.cU,i64 x.gF.bS,i64 x.gF.At,i64 x.gF.dZ,i64 x.gF.eW,i64 x.To.bS,i64 x.To.At,i64 x.To.dZ,i64 x.To.eW]
structure YG where
 started:Bool
 body:Int
 used:Int
 ending:Int
 ended:Bool
 passes:Int
 deriving DecidableEq,Inhabited
def YG.g (x:YG):aA PV:=[bv x.started,i64 x.body,i64 x.used,i64 x.ending,bv x.ended,i64 x.passes]
theorem Px:Jw (eA YZ.g) true [.i,.i]:=⟨fun _=>rfl,fun a b=>by
 cases a;cases b
 simp only[vB,eA,YZ.g,i64,lP,tA,YZ.mk.injEq,oS2,nZ2,and_self,oK2]
 repeat' (first|rfl|split)
 all_goals simp_all⟩
theorem iW:Jw (eA YP.g) true [.i,.i,.i,.i,.i,.i,.i]:=⟨fun _=>rfl,fun a b=>by
 cases a;cases b
 simp only[vB,eA,YP.g,i64,lP,tA,YP.mk.injEq,oS2,nZ2,and_self,oK2]
 repeat' (first|rfl|split)
 all_goals simp_all⟩
end Go.P
namespace Go.P.K
open Go.Sim (Ex eE CK)
abbrev I {A B:Type} (f:A->B) (l:aA A):aA B:=l.map f
abbrev Q (e:dG) (h:aN):Im:=⟨e,h⟩
abbrev rq (e:dG) (h:aN):Ex×Im:=(.ret,⟨e,h⟩)
abbrev ck (s:Y0) (r:Int) (l:PV):aA PV:=[.v (.string s.nI),bv s.gM,.is 6 (List.map YJ.g s.bE),.is 22 (List.map YM.g s.aE),.is 7 (List.map YN.g s.bF),.is 2 (List.map YZ.g s.jU),i64 r,l]
abbrev nq (e:dG) (h:aN):Ex×Im:=(.normal,⟨e,h⟩)
abbrev xq (n:Nat) (e:dG) (h:aN):Ex×Im:=(.exit n,⟨e,h⟩)
end Go.P.K
namespace Go.P.K
open Go.Sim (Ex eE CK)
abbrev t (n:Nat):PX:=.t n
abbrev c (n:Int):PX:=.c (.v (.int .i64 n))
abbrev cn:PX:=.c (.v (.slice none 0 0))
abbrev ct:PX:=.c (.v (.bool true))
abbrev cf:PX:=.c (.v (.bool false))
abbrev J (n:Int):Value:=.int .i64 n
abbrev ZS:Value:=.string ⟨#[]⟩
abbrev ZB:Value:=.bool false
abbrev ZN:Value:=.slice none 0 0
abbrev o (d:Nat) (k:eE) (xs:aA PX) (l:aA Nat) (r:gX):gX:=.op d k xs l r
abbrev m (d x:Nat) (r:gX):gX:=.op d .mov [.t x] [] r
abbrev M (d x:Nat) (r:gX):gX:=.op d .mov [.t x] [x] r
abbrev L (d x:Nat) (r:gX):gX:=.op d .loadS [.t x] [x] r
abbrev a (d k x:Nat) (r:gX):gX:=.op d (.fad k) [.t x] [] r
abbrev A (d k x:Nat) (r:gX):gX:=.op d (.fad k) [.t x] [x] r
abbrev b (d:Nat) (k:BinOp) (xs:aA PX) (l:aA Nat) (r:gX):gX:=.op d (.bin k) xs l r
abbrev f (d g:Nat) (xs:aA PX) (l:aA Nat) (r:gX):gX:=.op d (.callF g) xs l r
abbrev e (d k x:Nat) (l:aA Nat) (r:gX):gX:=.op d (.ext k) [.t x] l r
abbrev O (d:Nat) (k:eE) (x:Nat) (r:gX):gX:=.op d k [.t x] [x] r
abbrev B (d:Nat) (k:BinOp) (x:Nat) (n:Int) (r:gX):gX:=.op d (.bin k) [.t x,c n] [x] r
abbrev C (d:Nat) (k:BinOp) (x y:Nat) (r:gX):gX:=.op d (.bin k) [.t x,.t y] [x,y] r
abbrev U (d:Nat) (k:eE) (l:aA Nat) (r:gX):gX:=.op d k (l.map .t) l r
abbrev x (d g:Nat) (w:Bool) (s:gX) (y:PX) (l:aA Nat) (r:gX):gX:=.ifx d g w s y l r
abbrev R (s:gX) (q:PC):PC:=.seq (.reg s) q
abbrev z0:aA Value:=[(J 0),(J 0)]
abbrev z1:aA Value:=[(J 0),(J 0),(J 0),(J 0),(J 0),(J 0),(J 0),(J 0),(J 0),(J 0),(J 0),(J 0),ZB,(J 0),(J 0),(J 0),(J 0),(J 0),(J 0),ZS,ZN,ZN]
abbrev z2:aA Value:=[(J 0),(J 0),(J 0),(J 0),(J 0),ZN,ZN,(J 0),(J 0),(J 0),ZN,(J 0),(J 0)]
abbrev z3:aA Value:=[ZS,ZB,ZN,ZN,ZN,ZN,(J 0),ZN]
abbrev z4:aA Value:=[(J 0),(J 0),ZS,(J 0),(J 0),ZN]
abbrev z5:aA Value:=[(J 0),(J 0),(J 0)]
abbrev z6:aA Value:=[(.map none)]
abbrev z7:aA Value:=[(J 0),(J 0),(J 0),(J 0),(J 0),(J 0),(J 0)]
abbrev z8:aA Value:=[ZB,(J 0),(J 0),(J 0),ZB,(J 0)]
abbrev z9:aA Value:=[ZS,(.int .u8 0),(J 0),(J 0),(J 0),(J 0),(J 0)]
abbrev z10:aA Value:=[(J 0),(J 0),(J 0),ZB,(J 0)]
abbrev z11:aA Value:=[(J 0),(J 0),(J 0),(J 0)]
abbrev z12:aA Value:=[(J 0),(J 0),(J 0),(J 0),(J 0),(J 0),(J 0),(J 0),(J 0)]
abbrev z13:aA Value:=[.nilFunc,.nilFunc,.nilFunc,.nilFunc,.nilFunc,.nilFunc,.nilFunc]
abbrev z14:aA Value:=[(J 0),(J 0),ZB]
abbrev z15:aA Value:=[(J 0),(J 0),(J 0),(J 0),ZB]
abbrev z16:aA Value:=[ZS,(.int .u8 0),(J 0),(J 0),(J 0),(J 0),(J 0),ZS,(.int .u8 0),(J 0),(J 0),(J 0),(J 0),(J 0),ZS,(.int .u8 0),(J 0),(J 0),(J 0),(J 0),(J 0),ZS,(.int .u8 0),(J 0),(J 0),(J 0),(J 0),(J 0),ZS,(.int .u8 0),(J 0),(J 0),(J 0),(J 0),(J 0),ZS,(.int .u8 0),(J 0),(J 0),(J 0),(J 0),(J 0),ZS,(.int .u8 0),(J 0),(J 0),(J 0),(J 0),(J 0),ZS,(.int .u8 0),(J 0),(J 0),(J 0),(J 0),(J 0),ZS,(.int .u8 0),(J 0),(J 0),(J 0),(J 0),(J 0)]
abbrev z17:aA Value:=[(J 0),(J 0),(J 0),(J 0),(J 0),(J 0)]
end Go.P.K
namespace Go.P
open Go.Sim (Ex eE CK)
noncomputable section
open K
noncomputable abbrev aP (f s:Nat) (z:Bool):bV:=anF Go.Proofs.Tryz.prog f s z
def zg (l:aA bV) (i:Nat):bV:=(l[i]?).getD default
def p3:bV:=⟨131,[.tmp 4],R (O 2 (.box 27 6) 0<|o 4 .mov [cf] [4]<|.nil)<|.seq (R (o 15 (.loadA 6) [t 2] [4]<|O 16 (.callF 5) 15<|O 17 (.un .not) 16<|M 18 17<|x 21 18 false (U 19 (.callF 6) []<|O 20 (.un .not) 19<|.nil) (t 20) [18]<|.nil)<|.cond (t 21) (R (U 22 (.callF 6) []<|M 4 22<|.nil)<|.ret) (.skip))<|R (o 24 (.loadA 6) [t 2] []<|m 25 1<|U 26 (.callF 7) [24,25]<|M 23 26<|e 27 0 23 []<|O 28 (.ext 1) 23<|U 5 (.alloc 31 z0) []<|.sto (.store 2) [t 5,t 27] [27]<|M 6 28<|.nil)<|R (o 30 (.loadA 6) [t 2] []<|m 31 1<|U 32 (.callF 8) [30,31]<|M 29 32<|e 33 0 29 []<|O 34 (.ext 1) 29<|M 7 33<|M 8 34<|.nil)<|R (o 9 .mov [c 0] []<|.nil)<|R (U 10 (.alloc 31 z0) []<|.nil)<|.seq (.block 0 (R (o 45 (.loadA 6) [t 2] []<|O 46 (.callF 9) 45<|O 47 (.un .not) 46<|M 44 47<|.nil)<|.condJ [2,5,6,7,8,9,10] (t 44) (.reg<|o 9 .mov [c 24] []<|.nil) (R (m 49 1<|B 50 .lss 49 0<|M 51 50<|x 57 51 false (m 52 1<|a 53 2 2<|L 54 53<|O 55 (.len 0) 54<|C 56 .geq 52 55<|.nil) (t 56) [51]<|M 48 57<|.nil)<|.condJ [2,5,6,7,8,9,10] (t 48) (.reg<|o 9 .mov [c 2] []<|.nil) (R (o 36 (.loadA 6) [t 2] []<|M 37 1<|U 38 (.callF 10) [36,37]<|M 35 38<|e 39 0 35 []<|O 40 (.ext 1) 35<|U 11 (.alloc 31 z0) []<|.sto (.store 2) [t 11,t 39] [39]<|M 12 40<|.nil)<|R (O 41 (.loadA 2) 11<|.sto (.store 2) [t 10,t 41] [41]<|.nil)<|R (M 42 12<|O 43 (.un .not) 42<|.nil)<|.condJ [2,5,6,7,8,9,10] (t 43) (.reg<|o 9 .mov [c 18] []<|.nil) (.skip)))))<|.seq (R (M 58 6<|m 59 9<|C 60 .neq 58 59<|M 61 60<|x 65 61 false (M 62 8<|m 63 9<|C 64 .neq 62 63<|.nil) (t 64) [8,61]<|M 66 65<|x 70 66 false (O 67 (.loadA 2) 5<|o 68 (.loadA 2) [t 10] []<|U 69 (.eqA true [.i,.i]) [67,68]<|.nil) (t 69) [5,66]<|.nil)<|.cond (t 70) (R (o 4 .mov [cf] []<|.nil)<|.ret) (.skip))<|.seq (R (M 71 9<|B 72 .neq 71 0<|.nil)<|.cond (t 72) (R (M 73 7<|O 74 (.len 0) 73<|B 75 .eql 74 0<|M 4 75<|.nil)<|.ret) (.skip))<|.seq (R (o 13 .mov [c 0] []<|.nil)<|.block 1 (.loop [2,7,10,13] [2,4,7] (.seq (R (m 76 13<|a 77 3 2<|L 78 77<|O 79 (.len 0) 78<|C 80 .lss 76 79<|.nil)<|.cond (t 80) (.skip) (.exit 1))<|.seq (.block 2 (.seq (.regD 3 (a 83 3 2<|L 84 83<|m 85 13<|U 86 (.iad 22) [84,85]<|A 87 11 86<|L 88 87<|o 89 (.loadA 2) [t 10] []<|O 90 (.callF 11) 89<|C 91 .add 88 90<|M 14 91<|.nil) [0,1,0,7,15,31,0,64,255,511])<|.seq (R (a 92 1 2<|L 93 92<|.nil)<|.condJ [2,7,10,13,14] (t 93) (.regD 3 (a 95 3 2<|L 96 95<|m 97 13<|U 98 (.iad 22) [96,97]<|A 99 11 98<|L 100 99<|o 101 (.loadA 2) [t 10] []<|U 102 (.callF 12) [100,101]<|M 94 102<|e 103 0 94 []<|e 104 1 94 [94,104]<|o 14 .mov [t 103] [103,104]<|.nil) [0,1,0,7,15,31,0,127,255,511,511,1023]) (.skip))<|R (m 105 13<|m 106 7<|O 107 (.len 0) 106<|C 108 .geq 105 107<|M 109 108<|x 116 109 false (m 110 7<|m 111 13<|U 112 (.iad 1) [110,111]<|L 113 112<|m 114 14<|C 115 .neq 113 114<|.nil) (t 115) [109]<|M 117 116<|x 120 117 false (m 118 14<|B 119 .lss 118 (-7)<|.nil) (t 119) [117]<|M 121 120<|x 124 121 false (M 122 14<|B 123 .gtr 122 7<|.nil) (t 123) [14,121]<|.nil)<|.cond (t 124) (R (o 4 .mov [cf] []<|.nil)<|.ret) (.skip)))<|.reg<|M 81 13<|B 82 .add 81 1<|M 13 82<|.nil)))<|R (M 125 7<|O 126 (.len 0) 125<|A 127 3 2<|L 128 127<|O 129 (.len 0) 128<|C 130 .eql 126 129<|M 4 130<|.nil)<|.ret,true⟩
def p32:bV:=⟨86,[],R (U 8 .mkmap []<|M 2 8<|.nil)<|.seq (R (m 9 0<|O 10 .nilc 9<|A 11 0 10<|O 12 (.loadA 6) 11<|O 13 (.callF 61) 12<|o 14 (.len 0) [t 13] []<|o 15 .mov [c 0] []<|.nil)<|.block 0 (.loop [0,2,13,14,15] [0] (R (b 16 .lss [t 15,t 14] []<|.nil)<|.seq (.cond (t 16) (.skip) (.exit 0))<|.seq (.block 1 (R (o 17 (.iad 2) [t 13,t 15] []<|O 18 (.loadA 2) 17<|U 4 (.alloc 41 z0) []<|.sto (.store 2) [t 4,t 18] [18]<|.nil)<|.seq (.regD 3 (m 19 0<|o 20 (.loadA 2) [t 4] []<|O 21 (.callF 62) 20<|O 22 (.un .not) 21<|M 23 22<|x 27 23 false (m 24 2<|o 25 (.loadA 2) [t 4] []<|U 26 (.lookup true [.i,.i] (.v (.bool false)) false) [24,25]<|.nil) (t 26) [23]<|M 28 27<|x 39 28 false (a 29 1 4<|L 30 29<|m 31 0<|O 32 .nilc 31<|A 33 0 32<|O 34 (.loadA 6) 33<|a 35 0 4<|L 36 35<|U 37 (.callF 63) [34,36]<|C 38 .gtr 30 37<|.nil) (t 38) [28]<|o 40 (.loadA 2) [t 4] []<|f 41 58 [t 19,t 39,t 40] [19,39,40,41]<|.nil) [0,0,2,6,14,30,30,126,254,510,1022,2046,1022,5118,13310,29694,1022,66558,259070,524286,1048574,0,4194303])<|.reg<|o 42 .mov [t 2] [41]<|O 43 (.loadA 2) 4<|.sto (.mapup true [.i,.i]) [t 42,t 43,ct] [42,43]<|.nil))<|.reg<|B 44 .add 15 1<|M 15 44<|.nil)))<|R (o 5 .mov [cf] []<|.nil)<|.seq (R (m 45 0<|O 46 .nilc 45<|A 47 0 46<|A 48 5 47<|L 49 48<|o 50 (.len 0) [t 49] []<|o 51 .mov [c 0] []<|.nil)<|.block 2 (.loop [0,5,49,50,51] [0,5] (R (b 52 .lss [t 51,t 50] []<|.nil)<|.seq (.cond (t 52) (.skip) (.exit 2))<|.seq (.block 3 (R (m 53 51<|o 54 (.iad 2) [t 49,t 51] []<|O 55 (.loadA 2) 54<|U 7 (.alloc 41 z0) []<|M 6 53<|.sto (.store 2) [t 7,t 55] [55]<|.nil)<|.regD 3 (M 56 5<|M 57 56<|x 61 57 false (o 58 (.loadA 2) [t 7] []<|O 59 (.callF 62) 58<|O 60 (.un .not) 59<|.nil) (t 60) [57]<|M 62 61<|x 80 62 false (m 63 6<|B 64 .gtr 63 0<|M 65 64<|x 79 65 true (A 66 0 7<|L 67 66<|m 68 0<|O 69 .nilc 68<|A 70 0 69<|A 71 5 70<|L 72 71<|M 73 6<|B 74 .sub 73 1<|U 75 (.iad 2) [72,74]<|A 76 0 75<|L 77 76<|C 78 .leq 67 77<|.nil) (t 78) [6,7,65]<|.nil) (t 79) [6,7,62]<|M 5 80<|.nil) [0,1,3,7,15,31,63,127,255,511,1023,2047,1023,5119,13311,29695,62463,1023,132095,521215,1045503,2094079,4194303,8388607,16777215,33554431]))<|.reg<|B 81 .add 51 1<|M 51 81<|.nil)))<|.reg<|M 82 0<|M 83 5<|U 84 (.build z0 []) []<|f 85 58 [t 82,t 83,t 84] [82,83,84,85]<|.nil,true⟩
def Ms:PC:=.reg<|M 5 8<|.nil
def Mt:PC:=.block 1 (.regD 3 (o 9 .loadS [t 3] []<|M 10 5<|O 11 .nilc 10<|O 12 (.loadA 2) 11<|O 13 (.buildSl 41 2 1 z0 [0]) 12<|U 14 (.append 41 2 16 z0 false) [9,13]<|.sto (.store 1) [t 3,t 14] [3,14]<|.nil) [0,0,2,6,14,31,63])
def p61:bV:=⟨16,[.tmp 2],R (O 1 (.box 27 6) 0<|o 2 .mov [cn] [2]<|.nil)<|R (o 3 (.alloc 25 [ZN]) [] [2]<|.ownc 3 0 41 2 false<|.nil)<|.seq (R (O 6 (.callF 113) 1<|.nil)<|.block 0 (.rangeF 16 [3] (t 6) [7,8] Ms Mt))<|R (L 15 3<|M 2 15<|.nil)<|.ret,true⟩
def p69:bV:=⟨55,[.tmp 5],R (O 4 (.box 48 22) 1<|o 5 .mov [cf] [5]<|.nil)<|R (o 12 (.loadA 22) [t 4] [5]<|O 13 (.callF 68) 12<|M 11 13<|e 14 0 11 []<|O 15 (.ext 1) 11<|o 6 .mov [t 14] [6,14]<|o 7 .mov [t 15] [6,15]<|.nil)<|R (M 16 7<|B 17 .neq 16 0<|M 18 17<|x 23 18 false (a 19 11 4<|L 20 19<|f 21 60 [t 20,c (-7),c 7] [20]<|O 22 (.un .not) 21<|.nil) (t 22) [18]<|M 8 23<|.nil)<|.seq (R (o 24 .loadS [t 2] []<|O 25 .nilc 24<|A 26 0 25<|A 27 2 26<|L 28 27<|o 29 (.len 0) [t 28] []<|o 30 .mov [c 0] []<|.nil)<|.block 0 (.loop [2,4,8,28,29,30] [8] (R (b 31 .lss [t 30,t 29] []<|.nil)<|.seq (.cond (t 31) (.skip) (.exit 0))<|.seq (.block 1 (R (o 32 (.iad 6) [t 28,t 30] []<|O 33 (.loadA 6) 32<|U 10 (.alloc 62 z4) []<|.sto (.store 6) [t 10,t 33] [33]<|.nil)<|R (o 34 .loadS [t 2] []<|O 35 .nilc 34<|A 36 0 35<|A 37 1 36<|L 38 37<|M 39 38<|x 42 39 true (m 40 8<|O 41 (.un .not) 40<|.nil) (t 41) [39]<|.nil)<|.condJ [2,4,8,28,29,30] (t 42) (R (a 44 11 4<|L 45 44<|A 46 3 10<|O 47 (.loadA 2) 46<|U 48 (.callF 12) [45,47]<|M 43 48<|e 49 0 43 [49]<|e 50 1 43 [43,49]<|M 7 50<|.nil)<|.reg<|M 51 7<|B 52 .neq 51 0<|M 8 52<|.nil) (.skip)))<|.reg<|B 53 .add 30 1<|M 30 53<|.nil)))<|R (M 54 8<|M 5 54<|.nil)<|.ret,true⟩
def p88:bV:=⟨108,[],R (U 10 (.alloc 97 [ZS,(J 0)]) []<|.nil)<|R (U 11 (.alloc 133 z7) []<|.nil)<|.seq (R (M 18 0<|O 19 .nilc 18<|A 20 0 19<|A 21 3 20<|L 22 21<|o 23 (.len 0) [t 22] []<|o 24 .mov [c 0] []<|.nil)<|.block 0 (.loop [1,2,3,4,10,11,22,23,24] [4,10,11] (R (b 25 .lss [t 24,t 23] []<|.nil)<|.seq (.cond (t 25) (.skip) (.exit 0))<|.seq (.block 1 (R (m 26 24<|o 27 (.iad 22) [t 22,t 24] []<|O 28 (.loadA 22) 27<|U 13 (.alloc 48 z1) []<|M 12 26<|.sto (.store 22) [t 13,t 28] [28]<|.nil)<|.seq (R (m 29 1<|a 30 21 13<|L 31 30<|O 32 (.len 0) 31<|C 33 .geq 29 32<|M 34 33<|x 44 34 false (m 35 2<|a 36 21 13<|L 37 36<|m 38 1<|U 39 (.iad 2) [37,38]<|A 40 1 39<|L 41 40<|O 42 (.len 0) 41<|C 43 .geq 35 42<|.nil) (t 43) [34]<|.nil)<|.cond (t 44) (.exit 1) (.skip))<|R (A 45 21 13<|L 46 45<|m 47 1<|U 48 (.iad 2) [46,47]<|A 49 1 48<|L 50 49<|m 51 2<|U 52 (.iad 2) [50,51]<|A 53 0 52<|L 54 53<|o 55 (.len 0) [t 54] []<|o 56 .mov [c 0] []<|.nil)<|.block 2 (.loop [1,2,3,4,10,11,12,22,23,24,54,55,56] [1,2,3,4,10,11,22,23,24] (R (b 57 .lss [t 56,t 55] []<|.nil)<|.seq (.cond (t 57) (.skip) (.exit 2))<|.seq (.block 3 (R (m 58 56<|o 59 (.iad 13) [t 54,t 56] []<|O 60 (.loadA 13) 59<|U 15 (.alloc 83 z2) []<|M 14 58<|.sto (.store 13) [t 15,t 60] [60]<|.nil)<|.seq (R (o 61 (.loadA 13) [t 15] []<|m 62 3<|U 63 (.callF 141) [61,62]<|.nil)<|.cond (t 63) (.exit 3) (.skip))<|.seq (.regX 3 (m 64 1<|m 65 12<|m 66 2<|M 67 14<|o 68 (.build z7 [(0,1),(2,1),(3,1),(4,1),(5,1)]) [c 4,t 64,t 65,t 66,t 67] [64,65,66,67]<|A 69 10 15<|o 70 .loadS [t 69] []<|m 71 3<|U 72 (.iad 2) [70,71]<|o 73 (.loadA 2) [t 72] []<|U 16 (.alloc 133 z7) []<|U 17 (.alloc 97 [ZS,(J 0)]) []<|.sto (.store 7) [t 16,t 68] [68]<|.sto (.store 2) [t 17,t 73] [73]<|.nil) [0,0,0,0,15,0,32,0,224,480,0,0,3103,8191] [(6,12,69,16),(9,12,72,16)])<|.seq (R (a 74 1 10<|L 75 74<|B 76 .eql 75 1<|M 77 76<|x 81 77 true (a 78 0 17<|L 79 78<|b 80 .eql [t 79,.c (.v (.string ⟨#[]⟩))] [79]<|.nil) (t 80) [77]<|.nil)<|.condJ [1,2,3,4,10,11,12,16,17,22,23,24,54,55,56] (t 81) (.reg<|m 82 4<|o 83 (.loadA 7) [t 11] []<|.sto (.mapup true [.i,.i,.i,.i,.i,.i,.i]) [t 82,t 83,ct] [82,83]<|.nil) (.skip))<|.seq (R (a 84 0 17<|L 85 84<|b 86 .eql [t 85,.c (.v (.string ⟨#[]⟩))] [85]<|M 87 86<|x 91 87 true (a 88 1 17<|L 89 88<|B 90 .eql 89 2<|.nil) (t 90) [87]<|M 92 91<|x 96 92 true (a 93 1 10<|L 94 93<|B 95 .neq 94 2<|.nil) (t 95) [92]<|.nil)<|.condJ [1,2,3,4,10,11,12,16,17,22,23,24,54,55,56] (t 96) (.reg<|m 97 4<|o 98 (.loadA 7) [t 16] []<|.sto (.mapup true [.i,.i,.i,.i,.i,.i,.i]) [t 97,t 98,ct] [97,98]<|.nil) (.skip))<|.regX 3 (O 99 (.loadA 2) 17<|o 100 (.loadA 7) [t 16] []<|.sto (.store 2) [t 10,t 99] [99]<|.sto (.store 7) [t 11,t 100] [100]<|.nil) [0,0,1,7] [(1,2,16,10)]))<|.reg<|B 101 .add 56 1<|M 56 101<|.nil))))<|.reg<|B 102 .add 24 1<|M 24 102<|.nil)))<|R (A 103 1 10<|L 104 103<|B 105 .eql 104 1<|.nil)<|.condJ [] (t 105) (.reg<|M 106 4<|O 107 (.loadA 7) 11<|.sto (.mapup true [.i,.i,.i,.i,.i,.i,.i]) [t 106,t 107,ct] [106,107]<|.nil) (.skip),true⟩
def p89:bV:=⟨9,[.tmp 5],R (O 3 (.box 133 7) 0<|o 4 (.box 83 13) [t 1] [1,4]<|o 5 .mov [cf] [4,5]<|.nil)<|R (o 6 .loadS [t 2] [2,5]<|O 7 (.loadA 7) 3<|U 8 (.lookup true [.i,.i,.i,.i,.i,.i,.i] (.v (.bool false)) false) [6,7]<|M 5 8<|.nil)<|.ret,true⟩
def lA1:bV:=⟨42,[.tmp 4],R (o 4 .mov [cn] [4]<|.nil)<|R (o 8 .mov [t 0] [4]<|m 9 1<|U 10 (.callF 162) [8,9]<|M 5 10<|.nil)<|.seq (R (m 11 5<|B 12 .eql 11 (-1)<|.nil)<|.cond (t 12) (R (M 13 0<|M 4 13<|.nil)<|.ret) (.skip))<|.seq (R (m 14 5<|B 15 .add 14 1<|M 6 15<|.nil)<|.block 0 (.loop [0,1,5,6] [0,5] (.seq (R (m 16 6<|m 17 0<|O 18 (.len 0) 17<|C 19 .lss 16 18<|.nil)<|.cond (t 19) (.skip) (.exit 0))<|.seq (.block 1 (R (m 22 0<|m 23 6<|U 24 (.iad 2) [22,23]<|O 25 (.loadA 2) 24<|U 7 (.alloc 31 z0) []<|.sto (.store 2) [t 7,t 25] [25]<|.nil)<|R (m 26 1<|o 27 (.loadA 2) [t 7] []<|U 28 .callV [26,27]<|O 29 (.un .not) 28<|.nil)<|.condJ [0,1,5,6] (t 29) (R (m 30 0<|m 31 5<|O 32 (.loadA 2) 7<|U 33 (.iad 2) [30,31]<|.sto (.store 2) [t 33,t 32] [32,33]<|.nil)<|.reg<|M 34 5<|B 35 .add 34 1<|M 5 35<|.nil) (.skip)))<|.reg<|M 20 6<|B 21 .add 20 1<|M 6 21<|.nil)))<|R (m 36 0<|m 37 5<|.clr 38 2 z0 (t 36) (t 37) [36,37,38]<|.nil)<|R (M 39 0<|M 40 5<|U 41 (.slc 2 false true false) [39,40]<|M 4 41<|.nil)<|.ret,true⟩
def yN1:bV:=⟨73,[.tmp 4],R (O 2 (.box 83 13) 0<|O 3 (.box 83 13) 1<|o 4 .mov [cf] [4]<|.nil)<|R (o 5 (.fad 2) [t 2] [4]<|L 6 5<|a 7 2 3<|L 8 7<|C 9 .eql 6 8<|M 10 9<|x 16 10 true (a 11 3 2<|O 12 (.loadA 2) 11<|a 13 3 3<|O 14 (.loadA 2) 13<|U 15 (.eqA false [.i,.i]) [12,14]<|.nil) (t 15) [10]<|M 17 16<|x 23 17 true (a 18 7 2<|L 19 18<|a 20 7 3<|L 21 20<|C 22 .eql 19 21<|.nil) (t 22) [17]<|M 24 23<|x 30 24 true (a 25 8 2<|L 26 25<|a 27 8 3<|L 28 27<|C 29 .eql 26 28<|.nil) (t 29) [24]<|M 31 30<|x 37 31 true (a 32 9 2<|L 33 32<|a 34 9 3<|L 35 34<|C 36 .eql 33 35<|.nil) (t 36) [31]<|M 38 37<|x 44 38 true (a 39 11 2<|L 40 39<|a 41 11 3<|L 42 41<|C 43 .eql 40 42<|.nil) (t 43) [38]<|M 45 44<|x 51 45 true (a 46 12 2<|L 47 46<|a 48 12 3<|L 49 48<|C 50 .eql 47 49<|.nil) (t 50) [45]<|M 52 51<|x 58 52 true (a 53 5 2<|L 54 53<|a 55 5 3<|L 56 55<|U 57 (.callF 172) [54,56]<|.nil) (t 57) [52]<|M 59 58<|x 65 59 true (a 60 6 2<|L 61 60<|a 62 6 3<|L 63 62<|U 64 (.callF 173) [61,63]<|.nil) (t 64) [59]<|M 66 65<|x 72 66 true (A 67 10 2<|L 68 67<|A 69 10 3<|L 70 69<|U 71 (.callF 174) [68,70]<|.nil) (t 71) [2,3,66]<|M 4 72<|.nil)<|.ret,true⟩
def yO1:bV:=⟨9,[.tmp 3],R (O 2 (.box 85 5) 0<|o 3 .mov [cf] [3]<|.nil)<|R (o 4 (.fad 0) [t 2] [2,3]<|O 5 (.loadA 3) 4<|A 6 0 1<|O 7 (.loadA 3) 6<|U 8 (.eqA false [.i,.i,.i]) [5,7]<|M 3 8<|.nil)<|.ret,true⟩
def yP1:bV:=⟨19,[.tmp 4],R (O 2 (.box 83 13) 0<|o 4 .mov [cf] [4]<|.nil)<|R (o 5 .mov [t 1] [4]<|a 6 10 2<|L 7 6<|O 8 (.len 0) 7<|C 9 .geq 5 8<|M 10 9<|x 18 10 false (A 11 10 2<|L 12 11<|M 13 1<|U 14 (.iad 2) [12,13]<|O 15 (.loadA 2) 14<|U 16 (.build [ZS,(J 0)] []) []<|U 17 (.eqA false [.s,.i]) [15,16]<|.nil) (t 17) [1,2,10]<|M 4 18<|.nil)<|.ret,true⟩
def yQ1:bV:=⟨26,[.tmp 4],R (o 4 .mov [cf] [4]<|.nil)<|.seq (R (o 6 .mov [t 0] [4]<|O 7 (.len 0) 6<|m 8 1<|O 9 (.len 0) 8<|C 10 .neq 7 9<|.nil)<|.cond (t 10) (R (o 4 .mov [cf] []<|.nil)<|.ret) (.skip))<|.seq (R (m 11 0<|O 12 (.len 0) 11<|o 13 .mov [c 0] []<|.nil)<|.block 0 (.loop [0,1,12,13] [4] (R (b 14 .lss [t 13,t 12] []<|.nil)<|.seq (.cond (t 14) (.skip) (.exit 0))<|.seq (.block 1 (R (m 15 13<|M 5 15<|.nil)<|.seq (.regD 3 (m 16 0<|m 17 5<|U 18 (.iad 5) [16,17]<|O 19 (.loadA 5) 18<|m 20 1<|M 21 5<|U 22 (.iad 5) [20,21]<|O 23 (.loadA 5) 22<|U 24 (.eqA true [.i,.i,.i,.b,.i]) [19,23]<|.nil) [0,0,3,7,0,0,48,112,255])<|.cond (t 24) (R (o 4 .mov [cf] []<|.nil)<|.ret) (.skip)))<|.reg<|B 25 .add 13 1<|M 13 25<|.nil)))<|R (o 4 .mov [ct] []<|.nil)<|.ret,true⟩
def yR1:bV:=⟨26,[.tmp 4],R (o 4 .mov [cf] [4]<|.nil)<|.seq (R (o 6 .mov [t 0] [4]<|O 7 (.len 0) 6<|m 8 1<|O 9 (.len 0) 8<|C 10 .neq 7 9<|.nil)<|.cond (t 10) (R (o 4 .mov [cf] []<|.nil)<|.ret) (.skip))<|.seq (R (m 11 0<|O 12 (.len 0) 11<|o 13 .mov [c 0] []<|.nil)<|.block 0 (.loop [0,1,12,13] [4] (R (b 14 .lss [t 13,t 12] []<|.nil)<|.seq (.cond (t 14) (.skip) (.exit 0))<|.seq (.block 1 (R (m 15 13<|M 5 15<|.nil)<|.seq (.regD 3 (m 16 0<|m 17 5<|U 18 (.iad 5) [16,17]<|O 19 (.loadA 5) 18<|m 20 1<|M 21 5<|U 22 (.iad 5) [20,21]<|O 23 (.loadA 5) 22<|U 24 (.eqA true [.i,.i,.i,.i,.b]) [19,23]<|.nil) [0,0,3,7,0,0,48,112,255])<|.cond (t 24) (R (o 4 .mov [cf] []<|.nil)<|.ret) (.skip)))<|.reg<|B 25 .add 13 1<|M 13 25<|.nil)))<|R (o 4 .mov [ct] []<|.nil)<|.ret,true⟩
def yS1:bV:=⟨26,[.tmp 4],R (o 4 .mov [cf] [4]<|.nil)<|.seq (R (o 6 .mov [t 0] [4]<|O 7 (.len 0) 6<|m 8 1<|O 9 (.len 0) 8<|C 10 .neq 7 9<|.nil)<|.cond (t 10) (R (o 4 .mov [cf] []<|.nil)<|.ret) (.skip))<|.seq (R (m 11 0<|O 12 (.len 0) 11<|o 13 .mov [c 0] []<|.nil)<|.block 0 (.loop [0,1,12,13] [4] (R (b 14 .lss [t 13,t 12] []<|.nil)<|.seq (.cond (t 14) (.skip) (.exit 0))<|.seq (.block 1 (R (m 15 13<|M 5 15<|.nil)<|.seq (.regD 3 (m 16 0<|m 17 5<|U 18 (.iad 2) [16,17]<|O 19 (.loadA 2) 18<|m 20 1<|M 21 5<|U 22 (.iad 2) [20,21]<|O 23 (.loadA 2) 22<|U 24 (.eqA true [.s,.i]) [19,23]<|.nil) [0,0,3,7,0,0,48,112,255])<|.cond (t 24) (R (o 4 .mov [cf] []<|.nil)<|.ret) (.skip)))<|.reg<|B 25 .add 13 1<|M 13 25<|.nil)))<|R (o 4 .mov [ct] []<|.nil)<|.ret,true⟩
def yT1:bV:=⟨6,[.tmp 2],R (O 1 (.box 97 2) 0<|o 2 .mov [cf] [2]<|.nil)<|R (o 3 (.loadA 2) [t 1] [1,2]<|U 4 (.build [ZS,(J 0)] []) []<|U 5 (.eqA false [.s,.i]) [3,4]<|M 2 5<|.nil)<|.ret,true⟩
def uA:PC:=R (U 6 (.alloc 133 z7) []<|.sto (.store 7) [t 6,t 13] [13]<|.nil)<|.reg<|M 7 14<|.nil
def uB:PC:=.block 1 (.seq (.regD 3 (M 15 7<|O 16 .nilc 15<|O 17 (.loadA 2) 16<|O 18 (.loadA 2) 3<|U 19 (.eqA false [.i,.i]) [17,18]<|.nil) [0,1,3,0,15])<|.cond (t 19) (R (O 20 (.loadA 7) 6<|.sto (.store 7) [t 4,t 20] [4,20]<|.sto (.store 1) [t 5,ct] [5]<|.nil)<|.ret) (.skip))
def yU1:bV:=⟨22,[.cellA 4 7,.cellS 5],R (O 2 (.box 27 6) 0<|O 3 (.box 41 2) 1<|U 4 (.alloc 133 z7) []<|U 5 (.alloc 4 [ZB]) []<|.nil)<|.seq (R (o 8 (.loadA 2) [t 3] []<|U 9 (.build z0 []) []<|U 10 (.eqA false [.i,.i]) [8,9]<|.nil)<|.cond (t 10) (R (U 11 (.build z7 []) []<|.sto (.store 7) [t 4,t 11] [11]<|.sto (.store 1) [t 5,cf] []<|.nil)<|.ret) (.skip))<|.seq (R (O 12 (.callF 113) 2<|.nil)<|.block 0 (.rangeF 22 [3,4,5] (t 12) [13,14] uA uB))<|R (U 21 (.build z7 []) []<|.sto (.store 7) [t 4,t 21] [21]<|.sto (.store 1) [t 5,cf] []<|.nil)<|.ret,true⟩
def yV1:bV:=⟨50,[.tmp 2],R (O 1 (.box 44 8) 0<|o 2 .mov [cf] [2]<|.nil)<|.seq (R (o 7 (.fad 2) [t 1] [2]<|O 8 (.loadA 6) 7<|U 9 (.build z17 []) []<|U 10 (.eqA false [.i,.i,.i,.i,.i,.i]) [8,9]<|.nil)<|.cond (t 10) (R (o 2 .mov [ct] []<|.nil)<|.ret) (.skip))<|R (o 3 .mov [c 0] []<|o 4 .mov [c 0] []<|.nil)<|.seq (R (a 11 2 1<|O 12 (.loadA 6) 11<|o 13 .mov [c 0] []<|.nil)<|.block 0 (.loop [1,3,4,12,13] [1,2,3,4] (R (b 14 .lss [t 13,c 6] []<|.nil)<|.seq (.cond (t 14) (.skip) (.exit 0))<|.seq (.block 1 (R (m 15 13<|o 16 (.idxA 6 1 false) [t 12,t 13] []<|M 5 15<|M 6 16<|.nil)<|.block 2 (R (m 18 6<|B 19 .lss 18 0<|M 20 19<|x 23 20 false (m 21 6<|B 22 .gtr 21 64<|.nil) (t 22) [20]<|M 24 23<|x 32 24 false (m 25 6<|B 26 .gtr 25 0<|M 27 26<|x 31 27 true (M 28 5<|m 29 4<|C 30 .neq 28 29<|.nil) (t 30) [5,27]<|.nil) (t 31) [5,24]<|M 17 32<|.nil)<|.cond (t 17) (R (o 2 .mov [cf] []<|.nil)<|.ret) (R (m 34 6<|B 35 .gtr 34 0<|M 33 35<|.nil)<|.condJ [1,3,4,12,13] (t 33) (.reg<|M 36 3<|M 37 6<|C 38 .add 36 37<|M 39 4<|B 40 .add 39 1<|M 3 38<|M 4 40<|.nil) (.skip)))))<|.reg<|B 41 .add 13 1<|M 13 41<|.nil)))<|R (M 42 3<|A 43 0 1<|L 44 43<|C 45 .eql 42 44<|M 46 45<|x 49 46 true (M 47 4<|B 48 .geq 47 2<|.nil) (t 48) [4,46]<|M 2 49<|.nil)<|.ret,true⟩
def xU:{l:aA bV//l=[aP 5 0x12cb122111145111110451111104511111045111101111111110011025110011111101110101111110111010130011110111010011111010018764321719187643170000111111010185111111010011100643215187643160000111104511111045111105e1201101001110021264314001110011111101018511111101001110043214543140002122121 true,aP 7 0x129121011111c121001011051251201 true,aP 8 0x1111111115c5b225c4e220110113c3b3a1b18627110110103f12010001813c3b3a1862600010111101145310410101281201011151254224121 true,aP 9 0x111121222121 true,aP 10 0x12e121011111110301d121111110151251201 true,aP 11 0x11111112122121 true,aP 12 0x11111010010101110100101011111111010001110351111035111103511101010101151254224121 true,aP 17 0x16d122111145111101111110011111010011100321354314000011110451111104511110291201101001110021231202122121 true,aP 18 0x1111111111111101110101011111010043135431400011100314313002122121 true,aP 21 0x1a2132111115511000114124121 true,aP 22 0x12b121011101f1210101c1201111151251201 true,aP 23 0x11111111040224121 true,aP 24 0x1111111b85f221b81af2210111111111101851111101f51111102e51111110786e221111011100205f5e5d342a100115b594f4d4b493f3d3b392f2d2b291f1d1b29310101010101010101010101010101010101031da71966114121222121 true,aP 25 0x781201106e121011111691b221125110011101110103010151111001e1d1c1918432181e1d1c1a191843219001110381201101110110005421e1d1c4326000512512011 true,aP 26 0x5022112511212212 true,aP 28 0x1111010101131232222121 true,aP 30 0x2e1201102c1210110101e12010005421b1a1942500015322512011 true,aP 31 0x2be2bd2bc1df4202ac022111111175111111110751111111110185111111111018511111110011dd69221dd1dc1da1d9421110111111c91a2211114511111045111b9120100018a18918869685f650191ae1ad1ac18a18918869685f6501c0001111111045111110451118d120100069685f650618a18918869685f650190001011111045111106c12010000169685f04000111101592922059584e2d4211111104511111105511110032c12010000129281f0400011110 true,aP 33 0x1a19183211712011110 true,aP 34 0x4a492211113e2b2203e3d3b2f42111110032e12010001c1b1a042b2a291c1b1a07000111f1201000011c1b1a0400011110 true,aP 35 0x43232101 true,aP 36 0x32221 true,aP 37 0x32221 true,aP 38 0x32221 true]}:=by
 apply Subtype.mk
 conv=>rhs;reduce
def p5:bV:=zg xU.1 0
def p7:bV:=zg xU.1 1
def p8:bV:=zg xU.1 2
def p9:bV:=zg xU.1 3
def p10:bV:=zg xU.1 4
def p11:bV:=zg xU.1 5
def p12:bV:=zg xU.1 6
def p17:bV:=zg xU.1 7
def p18:bV:=zg xU.1 8
def p21:bV:=zg xU.1 9
def p22:bV:=zg xU.1 10
def p23:bV:=zg xU.1 11
def p24:bV:=zg xU.1 12
def p25:bV:=zg xU.1 13
def p26:bV:=zg xU.1 14
def p28:bV:=zg xU.1 15
def p30:bV:=zg xU.1 16
def p31:bV:=zg xU.1 17
def p33:bV:=zg xU.1 18
def p34:bV:=zg xU.1 19
def p35:bV:=zg xU.1 20
def p36:bV:=zg xU.1 21
def p37:bV:=zg xU.1 22
def p38:bV:=zg xU.1 23
def xV:{l:aA bV//l=[aP 39 0x43232101 true,aP 40 0x43232101 true,aP 41 0x4a49483211111113c2c223c3b3a39382f62010001000291e1d42062c291e1d5420180010001e1d204291e1d42060010002021e1d20400111111071200 true,aP 42 0x13d292203d3c3a2e42111110032d121010000029281f305000111101a2221922210110 true,aP 43 0x17c2b227c7b7978421110111011111001100195111100301102511111005511002b2a2965320182b2a2976543201a0002f12101000002b2a293206000111101110110 true,aP 44 0x19f19e7f7e4211111111111111010316c32278322111351110185111103511015b3c225b5a583211101114c121011003f12010003023c3b3a3050001111412412001111111e121e1d220111110 true,aP 45 0x43232101 true,aP 46 0x32221 true,aP 47 0x43232101 true,aP 48 0x2812211135111103511110351112122121 true,aP 49 0x11111111111c1201000311918734000112122121 true,aP 50 0x4c32211251101110011103511110351111035111103511110351112122121 true,aP 51 0x11111110011121232121 true,aP 55 0x111111111101101102122121 true,aP 56 0x11114022412 true,aP 57 0x11111132223121 true,aP 58 0x2d2b2211111111111110030111 true,aP 59 0x17303211111551110212212 true,aP 60 0x11a203211135111612612 true,aP 62 0x16122111351112122121 true,aP 63 0x11111010101d1201000411a191814000142224121 true,aP 64 0x1381c220382f2d2942111010032812101000001c1b1a10500011110 true,aP 65 0x11111117a1b227f1b22111145111101a5117812010002c2b2a646d6c6b2c2b2a6700011111111110019511111110651111035111112f1201000612c2b2a6400011111115125121 true,aP 66 0x1111010112022212 true]}:=by
 apply Subtype.mk
 conv=>rhs;reduce
def p39:bV:=zg xV.1 0
def p40:bV:=zg xV.1 1
def p41:bV:=zg xV.1 2
def p42:bV:=zg xV.1 3
def p43:bV:=zg xV.1 4
def p44:bV:=zg xV.1 5
def p45:bV:=zg xV.1 6
def p46:bV:=zg xV.1 7
def p47:bV:=zg xV.1 8
def p48:bV:=zg xV.1 9
def p49:bV:=zg xV.1 10
def p50:bV:=zg xV.1 11
def p51:bV:=zg xV.1 12
def p55:bV:=zg xV.1 13
def p56:bV:=zg xV.1 14
def p57:bV:=zg xV.1 15
def p58:bV:=zg xV.1 16
def p59:bV:=zg xV.1 17
def p60:bV:=zg xV.1 18
def p62:bV:=zg xV.1 19
def p63:bV:=zg xV.1 20
def p64:bV:=zg xV.1 21
def p65:bV:=zg xV.1 22
def p66:bV:=zg xV.1 23
def xW:{l:aA bV//l=[aP 67 0x118a6221125111111015f1b1a326a1b1a3211111110111a51101e51111101065111110451133f1210100002c2b2a76563b3a392c2b2a197651a000102f12010007622c2b2a76560001101110114124121 true,aP 68 0x110001100001110111411111000011101010110111011131232222121 true,aP 70 0x65432111 true,aP 71 0x15022112511212212 true,aP 72 0x150221113511212212 true,aP 73 0x11111117a5a2207a796f5f421110110000035e1210100004a49483a39382a292864101d5a59584a49483a39382a292818641029000114e1210100003a39382a2928410194a49483a39382a292864101d000113e1210100002a29281053a39382a292841019000112e12101000002a292810500011110 true,aP 74 0x111432241221222022 true,aP 75 0x1111111101101101103110100111110110110301100011110451110000111003001110110100111111011121232121 true,aP 76 0x1691a432111145110105c12015b12106421111114c121111111110642311103818222f1822110011111110300001151251211 true,aP 77 0x11111111011110111002a12101000065431e1d1c140001100001612652254224121 true,aP 78 0x1111154221a5221101132223121 true,aP 79 0x11114022412 true,aP 80 0x111131223121 true,aP 81 0x11114022412 true,aP 82 0x111131223121 true,aP 83 0x14918432111145111972203e19223d1201011111113012c1201011111103001151251211 true,aP 84 0x16122111351112122121 true,aP 85 0x6d12006c1211110110011110101101049121111101010001111010100110301a1200110512512011 true,aP 86 0x3a1211111110101013121a474564745547431c12410010110512512011 true,aP 87 0x11002b62212f62211104511101a5110281201000411d1c1b3400011001141241211 true,aP 90 0x11111111116d1c22111351691b22112511111101591201111114b120101110013c12010111002e12010005422b2a295406000111100145051040192c9405131243222212 true,aP 91 0x11111111032a1201110000000011041241211 true,aP 92 0x11e322111145111110451114124121 true,aP 93 0x4c1214b12042211113f3e2201103b12003a1210100102d12002c1210110011011c1210111011512512011 true]}:=by
 apply Subtype.mk
 conv=>rhs;reduce
def p67:bV:=zg xW.1 0
def p68:bV:=zg xW.1 1
def p70:bV:=zg xW.1 2
def p71:bV:=zg xW.1 3
def p72:bV:=zg xW.1 4
def p73:bV:=zg xW.1 5
def p74:bV:=zg xW.1 6
def p75:bV:=zg xW.1 7
def p76:bV:=zg xW.1 8
def p77:bV:=zg xW.1 9
def p78:bV:=zg xW.1 10
def p79:bV:=zg xW.1 11
def p80:bV:=zg xW.1 12
def p81:bV:=zg xW.1 13
def p82:bV:=zg xW.1 14
def p83:bV:=zg xW.1 15
def p84:bV:=zg xW.1 16
def p85:bV:=zg xW.1 17
def p86:bV:=zg xW.1 18
def p87:bV:=zg xW.1 19
def p90:bV:=zg xW.1 20
def p91:bV:=zg xW.1 21
def p92:bV:=zg xW.1 22
def p93:bV:=zg xW.1 23
def xX:{l:aA bV//l=[aP 94 0x1612211111107511121232121 true,aP 95 0x15f420421111116511110111101000111110351110185111103511102a51111104511115125121 true,aP 96 0x11c21321111116511110351113123121 true,aP 97 0x13b322111105511130112e73311011101029287341101001110351101652261211 true,aP 98 0x1111016d1918327819183211111110111a51101e51111104511111010651134d1210100007149483f75360001011111045111110451116121e622110114124121 true,aP 99 0x119c1922111145111025118918221101155111110451111035111018692c29185f2c1f185d2c1d1822c19286a125912000101011101111111103001110105512d42211135111012912010110111512351211 true,aP 100 0x11200 true,aP 109 0x11121222121 true,aP 110 0x11110111000100041187104001412412 true,aP 111 0x15022112511212212 true,aP 112 0x11114022412 true,aP 113 0x121222121 true,aP 114 0x1e12111001a120011025113123120 true,aP 115 0x1111010101131232222121 true,aP 116 0x111862321100001111c12010115125121 true,aP 117 0x11121222121 true,aP 118 0x11114022412 true,aP 119 0x111154225121 true,aP 120 0x11114022412 true,aP 121 0x11b4324211111551111151235121 true,aP 122 0x11114022412 true,aP 123 0x111c5221b5221011142224121 true,aP 124 0x1111010110002176530002022212 true,aP 125 0x710321113511412412 true]}:=by
 apply Subtype.mk
 conv=>rhs;reduce
def p94:bV:=zg xX.1 0
def p95:bV:=zg xX.1 1
def p96:bV:=zg xX.1 2
def p97:bV:=zg xX.1 3
def p98:bV:=zg xX.1 4
def p99:bV:=zg xX.1 5
def oO1:bV:=zg xX.1 6
def oP1:bV:=zg xX.1 7
def oQ1:bV:=zg xX.1 8
def yX1:bV:=zg xX.1 9
def yY1:bV:=zg xX.1 10
def lB1:bV:=zg xX.1 11
def yZ1:bV:=zg xX.1 12
def zB1:bV:=zg xX.1 13
def zC1:bV:=zg xX.1 14
def zD1:bV:=zg xX.1 15
def zE1:bV:=zg xX.1 16
def zF1:bV:=zg xX.1 17
def zG1:bV:=zg xX.1 18
def zH1:bV:=zg xX.1 19
def zI1:bV:=zg xX.1 20
def zJ1:bV:=zg xX.1 21
def zK1:bV:=zg xX.1 22
def zL1:bV:=zg xX.1 23
def xY:{l:aA bV//l=[aP 126 0x15022112511212212 true,aP 128 0x21a274562745527434a1241494822011132211103a3922010321311102c12011010101d12101111045111001 true,aP 129 0x2812211135111103511110351112122121 true,aP 130 0x1111001118124918221101111110101102e1201000212b2a29340001000111000111212212 true,aP 131 0x11003c422111351110110102d5222c5221011101f1201000211c1b1a300010011212212 true,aP 132 0x3a60321111116511011011110101111f12010002021c1b1a0400000011212212 true,aP 133 0x11110111000100041187104001412412 true,aP 134 0x11110111000100041187104001412412 true,aP 135 0x1121222121 true,aP 136 0x1b32321111110101101c511103001141241211 true,aP 137 0x1111111111111111d18531040111111011101001d51110251111111010019511102511111005511181218121 true,aP 138 0x1d12111110 true,aP 139 0x1f12101e1b2201d182201c5220110110110301 true,aP 142 0x19d1211110111011030189120011011c1207b1c2211011111101111011a182235b1a2211011004e120111011111303d1200111035111012c12010111111512351201 true,aP 143 0x11111100011111101107511101c5111101100011111045111100011110351112122121 true,aP 144 0x13b3232483232111111175111101d511111011075111110110751111412341211 true,aP 145 0x1111422241211 true,aP 146 0x11b32321111116511110141241211 true,aP 147 0x1111422241211 true,aP 148 0x11b32321111116511110141241211 true,aP 149 0x11932321111100751110412341211 true,aP 150 0x1fe121101fc1fb2201101f9121001110111075111110105511101a51103011001be12101001bb12100118e6221111110107511101c51111012b5111003018812107c62211251111001110695f1864106a682205e1200011010311111004c12101111010651111035111001101001e121011103511512512011 true,aP 151 0x1111141223412 true,aP 152 0x111111140224121 true]}:=by
 apply Subtype.mk
 conv=>rhs;reduce
def zM1:bV:=zg xY.1 0
def zN1:bV:=zg xY.1 1
def zO1:bV:=zg xY.1 2
def zP1:bV:=zg xY.1 3
def zQ1:bV:=zg xY.1 4
def zR1:bV:=zg xY.1 5
def zS1:bV:=zg xY.1 6
def zT1:bV:=zg xY.1 7
def zU1:bV:=zg xY.1 8
def zV1:bV:=zg xY.1 9
def zW1:bV:=zg xY.1 10
def zX1:bV:=zg xY.1 11
def oR1:bV:=zg xY.1 12
def zY1:bV:=zg xY.1 13
def zZ1:bV:=zg xY.1 14
def aA2:bV:=zg xY.1 15
def aB2:bV:=zg xY.1 16
def aC2:bV:=zg xY.1 17
def aD2:bV:=zg xY.1 18
def aE2:bV:=zg xY.1 19
def aF2:bV:=zg xY.1 20
def aG2:bV:=zg xY.1 21
def aH2:bV:=zg xY.1 22
def aI2:bV:=zg xY.1 23
def xZ:{l:aA bV//l=[aP 162 0x11110111000100041187104001412412 true,aP 163 0x11110111000100041187104001412412 true,aP 164 0x112111111110100100002cf2ce104001111011111111211111111011101110111010000010001dc1db1bc1bb18c18b76101a2881ff1dc1db1bc1bb18c18b1876101d001111011101110111010001bc1bb18c18b61071dc1db1bc1bb18c18b76101a001111011101110100018c18b1041bc1bb18c18b6107001111011102111101110100100010218c18b10400111101111111211111111011101001000281f3105584f281f4310180011110111021111011101001000102281f310500111100 true,aP 165 0x1a1210000000000 true,aP 166 0x11110011111101075111103511100011110351112122121 true,aP 167 0x1111121232121 true,aP 168 0x11110111000100041187104001412412 true,aP 169 0x11110111000100041187104001412412 true,aP 170 0x11110111000100041187104001412412 true,aP 171 0x11114531041010076212d12211104511110351101110110522254224121 true,aP 175 0x111001212212 true,aP 176 0x11111111a32219322101112122121 true,aP 177 0x1100011025111025111111011312232222121 true,aP 178 0x5812211135111011003d322111105511101010002122d2c130011000111100011110351112122121 true,aP 184 0x1111145310410101110111522254224121 true,aP 185 0x12c31321111451111004511110045111002122121 true,aP 186 0x15022112511212212 true,aP 187 0x111111111101412341211 true,aP 188 0x11110001102511212212 true,aP 189 0x11b32321111116511110141241211 true,aP 190 0x11202211120222212 true,aP 191 0x1111132223121 true,aP 199 0x11121222121 true,aP 200 0x1110110111014531040111111453104101011111001111045110014531040111100145310401110251151254224121 true]}:=by
 apply Subtype.mk
 conv=>rhs;reduce
def oS1:bV:=zg xZ.1 0
def aJ2:bV:=zg xZ.1 1
def lC1:bV:=zg xZ.1 2
def aK2:bV:=zg xZ.1 3
def aL2:bV:=zg xZ.1 4
def aM2:bV:=zg xZ.1 5
def aN2:bV:=zg xZ.1 6
def aO2:bV:=zg xZ.1 7
def aP2:bV:=zg xZ.1 8
def aQ2:bV:=zg xZ.1 9
def aR2:bV:=zg xZ.1 10
def aS2:bV:=zg xZ.1 11
def aT2:bV:=zg xZ.1 12
def aU2:bV:=zg xZ.1 13
def aV2:bV:=zg xZ.1 14
def aW2:bV:=zg xZ.1 15
def aX2:bV:=zg xZ.1 16
def aY2:bV:=zg xZ.1 17
def aZ2:bV:=zg xZ.1 18
def bA2:bV:=zg xZ.1 19
def oT1:bV:=zg xZ.1 20
def bB2:bV:=zg xZ.1 21
def bC2:bV:=zg xZ.1 22
def bD2:bV:=zg xZ.1 23
def yA:{l:aA bV//l=[aP 201 0x1111111111000311876340001212212 true,aP 202 0x1111103b3a22111110011100003011003143030016121212212 true,aP 203 0x1710321113511412412 true,aP 204 0x1111110100110003221876340001212212 true,aP 205 0x1110010000100010111011412412 true,aP 207 0x111111111111120211011111120211001112021100 true,aP 211 0x171221111116511112122121 true,aP 212 0x11012531040117a1a22791a2210111111125310410101110110101110110125310403c422111104511118511111125310410101102b12101000032131f1e1d14000131232222121 true,aP 213 0x111212212 true,aP 222 0x11112f2d222e2a29322e28220111101f121010000311b1a1934000117121212212 true,aP 223 0x11111111111453104101011101111011100007543382f2e7050001111011453104101011105125422412 true,aP 224 0x111111111014531040111110110101000185433a3918105001011101145310410102962228622101105125422412 true,aP 230 0x111011110101110351101131232222121 true,aP 231 0x1100111000018e7221101111018511030011101055111110451111104511111001075111103511101045111039121010000412d2c2b6106000011144ce056610400110001102511412412 true,aP 232 0x1111110001101001110111100011025117127622612 true,aP 233 0x111011001111010030107621d1918300111111100011011101111000110030110019187641a1918210601100291201107127622612 true,aP 235 0x1111010101131232222121 true,aP 236 0x111100003d422484221111110101951101d5110311038121110000111011111001a51110321221203121 true,aP 237 0x111112122121 true,aP 238 0x15022112511212212 true,aP 239 0x11111011010000111110110141241211 true,aP 240 0x111111011111101311000111111110131b1a19541611001e12010005421b1a195416000105125422412 true,aP 241 0x1111110111100411c1b43400111011112122121 true,aP 242 0x119213211111017511104124121 true]}:=by
 apply Subtype.mk
 conv=>rhs;reduce
def bE2:bV:=zg yA.1 0
def bF2:bV:=zg yA.1 1
def bG2:bV:=zg yA.1 2
def bH2:bV:=zg yA.1 3
def bI2:bV:=zg yA.1 4
def oU1:bV:=zg yA.1 5
def bJ2:bV:=zg yA.1 6
def bK2:bV:=zg yA.1 7
def bL2:bV:=zg yA.1 8
def bM2:bV:=zg yA.1 9
def bN2:bV:=zg yA.1 10
def bO2:bV:=zg yA.1 11
def bP2:bV:=zg yA.1 12
def bQ2:bV:=zg yA.1 13
def bR2:bV:=zg yA.1 14
def bS2:bV:=zg yA.1 15
def bT2:bV:=zg yA.1 16
def oV1:bV:=zg yA.1 17
def bU2:bV:=zg yA.1 18
def bV2:bV:=zg yA.1 19
def bW2:bV:=zg yA.1 20
def bX2:bV:=zg yA.1 21
def bY2:bV:=zg yA.1 22
def bZ2:bV:=zg yA.1 23
def zA7:{l:aA bV//l=[aP 243 0x1101111103010011020412 true]}:=by
 apply Subtype.mk
 conv=>rhs;reduce
def cA2:bV:=zg zA7.1 0
end
noncomputable section
def pl:aA (aB bV):=[none,none,none,some p3,none,some p5,none,some p7,some p8,some p9,some p10,some p11,some p12,none,none,none,none,some p17,some p18,none,none,some p21,some p22,some p23,some p24,some p25,some p26,none,some p28,none,some p30,some p31,some p32,some p33,some p34,some p35,some p36,some p37,some p38,some p39,some p40,some p41,some p42,some p43,some p44,some p45,some p46,some p47,some p48,some p49,some p50,some p51,none,none,none,some p55,some p56,some p57,some p58,some p59,some p60,some p61,some p62,some p63,some p64,some p65,some p66,some p67,some p68,some p69,some p70,some p71,some p72,some p73,some p74,some p75,some p76,some p77,some p78,some p79,some p80,some p81,some p82,some p83,some p84,some p85,some p86,some p87,some p88,some p89,some p90,some p91,some p92,some p93,some p94,some p95,some p96,some p97,some p98,some p99,some oO1,none,none,none,none,none,none,none,some lA1,some oP1,some oQ1,some yX1,some yY1,some lB1,some yZ1,some zB1,some zC1,some zD1,some zE1,some zF1,some zG1,some zH1,some zI1,some zJ1,some zK1,some zL1,some zM1,some yN1,some zN1,some zO1,some zP1,some zQ1,some zR1,some zS1,some zT1,some zU1,some zV1,some zW1,some zX1,some oR1,some yO1,some yP1,some zY1,some zZ1,some aA2,some aB2,some aC2,some aD2,some aE2,some aF2,some aG2,some aH2,some aI2,none,none,none,none,none,none,none,none,none,some oS1,some aJ2,some lC1,some aK2,some aL2,some aM2,some aN2,some aO2,some aP2,some aQ2,some yQ1,some yR1,some yS1,some aR2,some aS2,some aT2,some aU2,some yT1,none,none,none,some yU1,some aV2,some aW2,some aX2,some aY2,some aZ2,some bA2,some oT1,some bB2,none,none,none,none,none,none,some yV1,some bC2,some bD2,some bE2,some bF2,some bG2,some bH2,some bI2,none,some oU1,none,none,none,some bJ2,some bK2,some bL2,none,none,none,none,none,none,none,none,some bM2,some bN2,some bO2,none,none,none,none,none,some bP2,some bQ2,some bR2,some bS2,none,some bT2,some oV1,some bU2,some bV2,some bW2,some bX2,some bY2,some bZ2,some cA2]
def Mu:xF:=fun f=>(pl[f]?).join
def lB (f:Nat):Bool:=rM f [31,32,33,34,35,36,37,38,39,40,41,42,43,44,45,46,47,58,64,70,73,88,90,108,113,164,236]
def NW1 (f:Nat):Bool:=rM f [90,113]
def Si (f:Nat):Bool:=rM f []
def Bc:NB:=⟨NW1,Si,fun _ _ _ _=>none⟩
def Xx (f e:Nat):Bool:=rM f [180,181,182]&&Nat.beq e (match f with|180=>5|181=>5|182=>2|_=>0)
def oW1 (k:Int):YM:=⟨⟨0,3⟩,⟨4,4,⟨0,0,0,0,0,0⟩⟩,0,k,false,0,0,0,0,0,0,⟨#[]⟩,[],[⟨[],[⟨[⟨⟨0,4⟩,1,⟨0,0⟩,[⟨⟨6,(-1),3⟩,false,0⟩],[],0,0,0,[],0,0⟩],[]⟩]⟩]⟩
def Xy:Y0:=⟨⟨#[]⟩,false,[⟨⟨0,1⟩,⟨#[]⟩,⟨1,2⟩,[⟨⟨0,2⟩,1⟩]⟩],[oW1 (-2)],[],[⟨0,4⟩]⟩
def Kb:Y0:=⟨⟨#[]⟩,false,[⟨⟨0,1⟩,⟨#[]⟩,⟨1,2⟩,[⟨⟨0,2⟩,1⟩]⟩],[oW1 6],[],[⟨0,4⟩]⟩
def rZ {A:Type} (l:aA A):aB (aA A):=bif Nat.ble l.length 1073741824 then some l else none
def Tk (k:Bool):vE:=fun f xs=>match xs with
 |[.is e rows]=>bif Xx f e&&Nat.ble rows.length 1073741824 then some (.is e rows)else none
 |[]=>bif k&&Nat.beq f 6 then some (bv true)else none
 |_=>none
theorem okg {k:Bool} {d N:Nat} {ps:aA Nat} {a b:PC} (h:okL lB N ps a b=true):okG (Xd (Tk k) lB Bc Mu d).is N ps a b=some ():=by
 unfold okG;rw[show(Xd (Tk k) lB Bc Mu d).is=lB from Pt d,nQ2 h]
noncomputable abbrev OD (k:Bool) (d:Nat):vE:=Od (Tk k) lB Bc Mu d
noncomputable abbrev XD (k:Bool) (d:Nat):NX:=Xd (Tk k) lB Bc Mu d
theorem od {k:Bool} {f:Nat} {fn:bV} (hn:lB f=false) (h:Mu f=some fn) (a:fn.frz=true) {d:Nat} {xs:aA PV}:OD k (d+1) f xs=Aw (OD k d) (XD k d) fn xs some:=oG1 hn h a d xs
theorem oe {k:Bool} {f:Nat} {fn:bV} {d:Nat} {xs:aA PV} {A:Type} {F:aB A} {e:A->PV} (h:(lB f,Mu f,fn.frz)=(false,some fn,true)) (hb:Aw (OD k d) (XD k d) fn xs some=F.map e):OD k (d+1) f xs=F.map e:=by
 simp only[oJ2]at h;rw[od h.1 h.2.1 h.2.2];exact hb
theorem xd {k:Bool} {f:Nat} {fn:bV} (h:Mu f=some fn) {d:Nat} {xs:aA PV} {hs:aN} {m:Nat} {nw:Bool}:fU (XD k (d+1)) f xs hs m nw=Xk (OD k d) (XD k d) fn xs hs m (Ii hs nw m):=oH1 h d xs hs m _
theorem yd {kf:Bool} {k d:Nat} {xs:aA PV} {hs:aN} {m:Nat}:zT (XD kf (d+1)) k xs hs m=cR1 (OD kf d) (XD kf d) k xs hs m (Ii hs false m):=rfl
theorem sA {k:Bool} (f d:Nat) {A:Type} (e:Nat) (c:A->aA PV) (l:aA A) (h1:lB f=false) (h2:Mu f=none) (a:Xx f e=true):OD k d f [.is e (l.map c)]=(rZ l).map fun l=>.is e (l.map c):=by
 rw[OD,Pu h1 h2];unfold rZ;simp only[Tk,a,Bool.true_and,qT2];cases Nat.ble l.length 1073741824<;>rfl
theorem Xz (d:Nat):OD true d 6 []=(some true).map fun y=>bv y:=by
 rw[OD,Pu rfl rfl];rfl
theorem pV:okL lB 16 [7,8] Ms Mt=true:=by kernel_rfl
theorem lX:okL lB 22 [13,14] uA uB=true:=by kernel_rfl
end
end Go.P
namespace Go.P
open Go.Sim (Ex eE CK)
open K (I Q rq nq xq ck)
abbrev cL (l:aA YV) (s:Y0) (r:Int):aN:=[(2,.lst 106 3 false (I YV.g l)),(1,.box (ck s r (.own 2)))]
abbrev oX1:Nat×dO:=(1,.box [i64 0,i64 0,i64 0,i64 0,i64 0,.v (.slice none 0 0),.v (.slice none 0 0),i64 0,i64 0,i64 0,.v (.slice none 0 0),i64 0,i64 0])
abbrev vX:Nat×dO:=(5,.loop 22 [(3,.ref 1 0),(4,.ref 2 0),(5,.ref 3 0)] [13,14] uA uB false (some .ret))
abbrev kN:Nat×dO:=(5,.loop 22 [(3,.ref 1 0),(4,.ref 2 0),(5,.ref 3 0)] [13,14] uA uB false none)
abbrev kO:Nat×dO:=(4,.loop 16 [(3,.ref 1 0)] [7,8] Ms Mt false none)
abbrev dE1:Nat×dO:=(2,.box [bv false,i64 0,i64 0,i64 0,bv false,i64 0])
abbrev dF1:aA (Nat×PV):=[(2,.ref 0 0),(4,.ref 2 0)]
abbrev Sj:Nat×dO:=(2,.box [i64 0,i64 0])
theorem ig {α A B:Type} {f:A->aA PV} {l:aA A} {i:Int} {b:Bool} {K:aA PV->aB α} {F:A->aB B} {Y:aB α} {FY:aB B} {enc:B->α} (hk:∀y,K (f y)=(F y).map enc) (hy:Y=FY.map enc:=by rfl):Hy b (bL (rN (l.map f) i) K) Y=(if b then(aV l i).bind F else FY).map enc:=io (bo rg hk) hy
def Ya (x1:Int):aB Bool:=
 some ((decide (x1<32))||(x1==127))
theorem oY1 {k} (d) (x1:Int):OD k (d+1) 111 [.v (.int .u8 x1)]=(Ya x1).map bv:=by
 refine oe rfl ?_;refine bz (fW rfl) ?_;rfl
def dG1 (x1:aA UInt8):aB Int:=
 (aX (E:=Int⊕Unit) (fun(a:Int)=>if decide (a<(x1.length:Int))then(aV x1 a).bind fun b=>(Ya (b.toNat:Int)).bind fun c=>if c then some (.inr (.inl a))else some (.inl (bD (a+1)))else some (.inr (.inr ()))) bK 0).bind fun d=>(match d with|.inl x7=>some x7|.inr _=>some (-1))
theorem oZ1 {k} (d) (x1:aA UInt8):OD k (d+2) 163 [.is 1 (I Xo x1),.fn 111 [] []]=(dG1 x1).map i64:=by
 refine oe rfl ?_;refine bz lm ?_;refine bo (aL (S:=Int) (enc:=fun a=>(Q [(0,.is 1 (I Xo x1)),(1,.fn 111 [] []),(7,i64 (x1.length:Int)),(8,i64 a)] [])) (encE:=(fun|.inl b=>(rq [(4,i64 b)] [])|.inr _=>(xq 0 [] []))) (fun a=>?_) bK 0) fun e=>?_;refine ig fun c=>?_;refine bo (oY1 d (c.toNat:Int)) fun f=>?_;refine io rfl rfl;rcases e with b|_;rfl;rfl
def Sl (x1:aA UInt8):aB Bool:=
 (dG1 x1).bind fun a=>some (decide (a>=0))
theorem pA1 {k} (d) (x1:aA UInt8):OD k (d+3) 112 [.is 1 (I Xo x1),.fn 111 [] []]=(Sl x1).map bv:=by
 refine oe rfl ?_;refine bo (oZ1 d x1) fun a=>?_;rfl
def F59 (x1:ByteArray):aB Bool:=
 ((if decide ((x1.size:Int)<=256)then(Sl x1.data.toList).bind fun a=>some (!a)else some false:aB (Bool))).bind fun b=>some b
theorem lD1 {k} (d) (x1:ByteArray):OD k (d+4) 59 [.v (.string x1)]=(F59 x1).map bv:=by
 refine oe rfl ?_;refine bo (e:=id) ?_ fun b=>?_;refine io ?_ rfl;refine bo (pA1 d x1.data.toList) fun a=>?_;rfl;rfl
def Bp (x1 a b:Int):aB Bool:=
 some ((decide (x1>=a))&&(decide (x1<=b)))
theorem pW {k} (d) (x1 a b:Int):OD k (d+1) 60 [i64 x1,i64 a,i64 b]=(Bp x1 a b).map bv:=by
 refine oe rfl ?_;refine bz (gE rfl) ?_;rfl
def Kq (x1:YL):aB Int:=
 if(((decide (x1.cW<(-77)))||(decide (x1.cW>77)))||(decide (x1.bB<(-140))))||(decide (x1.bB>140))then some 2 else some 0
theorem lE1 {k} (d) (x1:YL):OD k (d+1) 48 [.agg (YL.g x1)]=(Kq x1).map i64:=by
 refine oe rfl ?_;refine bz (fW rfl) ?_;refine bz (fW rfl) ?_;refine bz (fW rfl) ?_;refine io rfl rfl
def jS (x1:Bool) (b:YZ) (a:aA YV) (f:Y0) (c:Int):aB (aA YV):=
 ((if x1 then(qQ false a [(YV.mk c b)]).bind fun d=>some d else some a:aB (aA YV))).bind fun e=>some e
theorem iF {k} (d) (x1:Bool) (b:YZ) (f:aA YV) (c:Y0) (a:Int):fU (XD k (d+1)) 58 [.ref 1 0,bv x1,.agg (YZ.g b)] (cL f c a) 3 false=(jS x1 b f c a).map (fun(i:aA YV)=>((.tup [],(cL i c a),0))):=by
 rw[xd (fn:=p58) rfl];refine bo (e:=(fun(h:aA YV)=>(nq [] ((3,.box (YZ.g b))::cL h c a)))) ?_ fun h=>?_;refine io ?_ rfl;refine bo (dT false YV.g f [(YV.mk a b)]) fun j=>?_;rfl;rfl
def Kc (x1:aA YV) (a:Y0) (u:Int):aB (aA YV):=
 (aX (E:=aA YV) (fun(⟨e,i⟩:Int×(aA YV))=>if decide (e<(a.bE.length:Int))then(aV a.bE e).bind fun c=>(F59 c.xI).bind fun n=>((if !n then some true else(Bp (c.dR.length:Int) 1 4).bind fun o=>some (!o):aB (Bool))).bind fun p=>((if p then some true else(Kq c.cG).bind fun q=>some (q !=0):aB (Bool))).bind fun r=>(jS r c.ID i a u).bind fun s=>some (.inl ((bD (e+1)),s))else some (.inr i)) bK (0,x1)).bind fun t=>(aX (E:=aA YV) (fun(⟨f,j⟩:Int×(aA YV))=>if decide (f<(a.aE.length:Int))then(aV a.aE f).bind fun b=>(F59 b.gU).bind fun v=>(aX (E:=Bool) (fun(⟨k,g⟩:Bool×Int)=>if decide (g<(b.aS.length:Int))then(aV b.aS g).bind fun d=>(aX (E:=Bool) (fun(⟨l,h⟩:Bool×Int)=>if decide (h<(d.aO.length:Int))then(aV d.aO h).bind fun m=>some (.inl (((l||(decide ((m.aU.length:Int)>128)))||(decide ((m.gN.length:Int)>16))),(bD (h+1))))else some (.inr l)) bK (((k||(decide ((d.jT.length:Int)>64)))||(decide ((d.aO.length:Int)>2))),0)).bind fun w=>some (.inl (w,(bD (g+1))))else some (.inr k)) bK (((!v)||(decide ((b.jW.length:Int)>64))),0)).bind fun x=>(jS x b.ID j a u).bind fun y=>some (.inl ((bD (f+1)),y))else some (.inr j)) bK (0,t)).bind fun z=>(F59 a.nI).bind fun A=>((if !A then some true else(Bp (a.bE.length:Int) 1 32).bind fun B=>some (!B):aB (Bool))).bind fun C=>((if C then some true else(Bp (a.aE.length:Int) 1 1024).bind fun D=>some (!D):aB (Bool))).bind fun F=>(jS ((F||(decide ((a.bF.length:Int)>4096)))||(decide ((a.jU.length:Int)>100))) (YZ.mk 0 0) z a u).bind fun G=>some G
theorem pB1 {k} (d) (x1:aA YV) (a:Y0) (f:Int):fU (XD k (d+5)) 31 [.ref 1 0] (cL x1 a f) 3 false=(Kc x1 a f).map (fun(y:aA YV)=>((.tup [],(cL y a f),0))):=by
 rw[xd (fn:=p31) rfl];refine bz lm ?_;refine bo (aL (S:=Int×(aA YV)) (enc:=fun⟨r,m⟩=>(Q [(0,.ref 1 0),(15,.is 6 (I YJ.g a.bE)),(16,i64 (a.bE.length:Int)),(17,i64 r)] (cL m a f))) (encE:=(fun(n:aA YV)=>(xq 0 [(0,.ref 1 0)] (cL n a f)))) (fun⟨r,m⟩=>?_) bK (0,x1)) fun n=>?_;refine ig fun j=>?_;refine bo (lD1 d j.xI) fun z=>?_;refine bo (e:=id) ?_ fun B=>?_;refine io rfl ?_;refine bz lm ?_;refine bo (pW (d+3) (j.dR.length:Int) 1 4) fun A=>?_;rfl;refine bo (e:=id) ?_ fun v=>?_;refine io rfl ?_;refine bo (lE1 (d+3) j.cG) fun C=>?_;rfl;refine bo (iF (d+3) v j.ID m a f) fun D=>?_;rfl;refine bz lm ?_;refine bo (aL (S:=Int×(aA YV)) (enc:=fun⟨h,c⟩=>(Q [(0,.ref 1 0),(47,.is 22 (I YM.g a.aE)),(48,i64 (a.aE.length:Int)),(49,i64 h)] (cL c a f))) (encE:=(fun(q:aA YV)=>(xq 2 [(0,.ref 1 0)] (cL q a f)))) (fun⟨h,c⟩=>?_) bK (0,n)) fun q=>?_;refine ig fun b=>?_;refine bo (lD1 d b.gU) fun w=>?_;refine bz (fW (bz lm rfl)) ?_;refine bz lm ?_;refine bo (aL (S:=Bool×Int) (enc:=fun⟨o,l⟩=>(Q [(0,.ref 1 0),(5,.ref 3 0),(6,bv o),(47,.is 22 (I YM.g a.aE)),(48,i64 (a.aE.length:Int)),(49,i64 h),(64,.is 2 (I YW.g b.aS)),(65,i64 (b.aS.length:Int)),(66,i64 l)] ((3,.box (YM.g b))::cL c a f))) (encE:=(fun(p:Bool)=>(xq 4 [(0,.ref 1 0),(5,.ref 3 0),(6,bv p),(47,.is 22 (I YM.g a.aE)),(48,i64 (a.aE.length:Int)),(49,i64 h)] ((3,.box (YM.g b))::cL c a f)))) (fun⟨o,l⟩=>?_) bK (((!w)||(decide ((b.jW.length:Int)>64))),0)) fun p=>?_;refine ig fun i=>?_;refine bz (fW (bz lm rfl)) ?_;refine bz (fW (bz lm rfl)) ?_;refine bz lm ?_;refine bo (aL (S:=Bool×Int) (enc:=fun⟨s,t⟩=>(Q [(0,.ref 1 0),(5,.ref 3 0),(6,bv s),(47,.is 22 (I YM.g a.aE)),(48,i64 (a.aE.length:Int)),(49,i64 h),(64,.is 2 (I YW.g b.aS)),(65,i64 (b.aS.length:Int)),(66,i64 l),(84,.is 2 (I YO.g i.aO)),(85,i64 (i.aO.length:Int)),(86,i64 t)] ((4,.box (YW.g i))::(3,.box (YM.g b))::cL c a f))) (encE:=(fun(u:Bool)=>(xq 6 [(0,.ref 1 0),(5,.ref 3 0),(6,bv u),(47,.is 22 (I YM.g a.aE)),(48,i64 (a.aE.length:Int)),(49,i64 h),(64,.is 2 (I YW.g b.aS)),(65,i64 (b.aS.length:Int)),(66,i64 l)] ((4,.box (YW.g i))::(3,.box (YM.g b))::cL c a f)))) (fun⟨s,t⟩=>?_) bK (((o||(decide ((i.jT.length:Int)>64)))||(decide ((i.aO.length:Int)>2))),0)) fun u=>?_;refine ig fun E=>?_;refine bz (fW (bz lm rfl)) ?_;refine bz (fW (bz lm rfl)) ?_;rfl;rfl;refine bo (iF (d+3) p b.ID c a f) fun F=>?_;rfl;refine bo (lD1 d a.nI) fun G=>?_;refine bo (e:=id) ?_ fun J=>?_;refine io rfl ?_;refine bz lm ?_;refine bo (pW (d+3) (a.bE.length:Int) 1 32) fun H=>?_;rfl;refine bo (e:=id) ?_ fun x=>?_;refine io rfl ?_;refine bz lm ?_;refine bo (pW (d+3) (a.aE.length:Int) 1 1024) fun K=>?_;rfl;refine bz (fW (bz lm rfl)) ?_;refine bz (fW (bz lm rfl)) ?_;refine bo (iF (d+3) ((x||(decide ((a.bF.length:Int)>4096)))||(decide ((a.jU.length:Int)>100))) (YZ.mk 0 0) q a f) fun L=>?_;rfl
def Py (x1:Y0):aB Unit:=
 some ()
theorem lF1 {k} (d) (x1:Y0):fU (XD k (d+1)) 113 [.ref 0 0] [(0,.box (Y0.g x1))] 3 true=(Py x1).map (fun(_:Unit)=>((.fn 164 [] [.ref 3 0],[(3,.box [.ref 0 0]),(0,.box (Y0.g x1))],4))):=by
 rw[xd (fn:=lB1) rfl];rfl
def Fd (x1 d:Int) (e f:Int) (g h i:Int) (b:YJ) (c:aA YZ):aB (aA YZ):=
 (qQ false c [b.ID]).bind fun a=>some a
theorem dH1 {k} (d) (x1 e:Int) (f h:Int) (i j l:Int) (b:YJ) (c:aA YZ):zT (XD k (d+1)) 4 [.agg [i64 x1,i64 e,i64 f,i64 h,i64 i,i64 j,i64 l],.ip (YJ.g b)] [kO,(2,.lst 41 2 false (I YZ.g c)),(1,.box [.own 2])] 5=(Fd x1 e f h i j l b c).map (fun(a:aA YZ)=>((bv true,[kO,(2,.lst 41 2 false (I YZ.g a)),(1,.box [.own 2])],0))):=by
 rw[yd];refine bz (okg pV) ?_;refine bo (dT false YZ.g c [b.ID]) fun m=>?_;rfl
def uC (x1 d:Int) (e f:Int) (g h i:Int) (b:YF) (c:aA YZ):aB (aA YZ):=
 (qQ false c [b.ID]).bind fun a=>some a
theorem Sm {k} (d) (x1 e:Int) (f h:Int) (i j l:Int) (b:YF) (c:aA YZ):zT (XD k (d+1)) 4 [.agg [i64 x1,i64 e,i64 f,i64 h,i64 i,i64 j,i64 l],.ip (YF.g b)] [kO,(2,.lst 41 2 false (I YZ.g c)),(1,.box [.own 2])] 5=(uC x1 e f h i j l b c).map (fun(a:aA YZ)=>((bv true,[kO,(2,.lst 41 2 false (I YZ.g a)),(1,.box [.own 2])],0))):=by
 rw[yd];refine bz (okg pV) ?_;refine bo (dT false YZ.g c [b.ID]) fun m=>?_;rfl
def uD (x1 d:Int) (e f:Int) (g h i:Int) (b:YM) (c:aA YZ):aB (aA YZ):=
 (qQ false c [b.ID]).bind fun a=>some a
theorem Sn {k} (d) (x1 e:Int) (f h:Int) (i j l:Int) (b:YM) (c:aA YZ):zT (XD k (d+1)) 4 [.agg [i64 x1,i64 e,i64 f,i64 h,i64 i,i64 j,i64 l],.ip (YM.g b)] [kO,(2,.lst 41 2 false (I YZ.g c)),(1,.box [.own 2])] 5=(uD x1 e f h i j l b c).map (fun(a:aA YZ)=>((bv true,[kO,(2,.lst 41 2 false (I YZ.g a)),(1,.box [.own 2])],0))):=by
 rw[yd];refine bz (okg pV) ?_;refine bo (dT false YZ.g c [b.ID]) fun m=>?_;rfl
def uE (x1 d:Int) (e f:Int) (g h i:Int) (b:YE) (c:aA YZ):aB (aA YZ):=
 (qQ false c [b.ID]).bind fun a=>some a
theorem So {k} (d) (x1 e:Int) (f h:Int) (i j l:Int) (b:YE) (c:aA YZ):zT (XD k (d+1)) 4 [.agg [i64 x1,i64 e,i64 f,i64 h,i64 i,i64 j,i64 l],.ip (YE.g b)] [kO,(2,.lst 41 2 false (I YZ.g c)),(1,.box [.own 2])] 5=(uE x1 e f h i j l b c).map (fun(a:aA YZ)=>((bv true,[kO,(2,.lst 41 2 false (I YZ.g a)),(1,.box [.own 2])],0))):=by
 rw[yd];refine bz (okg pV) ?_;refine bo (dT false YZ.g c [b.ID]) fun m=>?_;rfl
def uF (x1 d:Int) (e f:Int) (g h i:Int) (b:YN) (c:aA YZ):aB (aA YZ):=
 (qQ false c [b.ID]).bind fun a=>some a
theorem Sp {k} (d) (x1 e:Int) (f h:Int) (i j l:Int) (b:YN) (c:aA YZ):zT (XD k (d+1)) 4 [.agg [i64 x1,i64 e,i64 f,i64 h,i64 i,i64 j,i64 l],.ip (YN.g b)] [kO,(2,.lst 41 2 false (I YZ.g c)),(1,.box [.own 2])] 5=(uF x1 e f h i j l b c).map (fun(a:aA YZ)=>((bv true,[kO,(2,.lst 41 2 false (I YZ.g a)),(1,.box [.own 2])],0))):=by
 rw[yd];refine bz (okg pV) ?_;refine bo (dT false YZ.g c [b.ID]) fun m=>?_;rfl
def Pz (x1:Y0) (W:aA YZ):aB (aA YZ):=
 (aX (E:=aA YZ) (fun(⟨L,f,w⟩:Int×Int×(aA YZ))=>if decide (f<(x1.bE.length:Int))then(aV x1.bE f).bind fun M=>(Fd 1 f 0 0 0 0 0 M w).bind fun N=>(aV x1.bE f).bind fun O=>(aX (E:=Int×(aA YZ)) (fun(⟨l,m,K⟩:Int×Int×(aA YZ))=>if decide (m<(O.dR.length:Int))then(aV x1.bE f).bind fun P=>(aV P.dR m).bind fun R=>(uC 2 0 l 0 0 0 0 R K).bind fun S=>some (.inl ((bD (l+1)),(bD (m+1)),S))else some (.inr (l,K))) bK (L,0,N)).bind fun⟨T,U⟩=>some (.inl (T,(bD (f+1)),U))else some (.inr w)) bK (0,0,W)).bind fun V=>(aX (E:=aA YZ) (fun(⟨a,g⟩:Int×(aA YZ))=>if decide (a<(x1.aE.length:Int))then(aV x1.aE a).bind fun n=>(uD 3 0 0 a 0 0 0 n g).bind fun o=>(aV x1.aE a).bind fun p=>(aX (E:=aA YZ) (fun(⟨b,h⟩:Int×(aA YZ))=>if decide (b<(p.aS.length:Int))then(aV x1.aE a).bind fun q=>(aV q.aS b).bind fun r=>(aX (E:=aA YZ) (fun(⟨c,i⟩:Int×(aA YZ))=>if decide (c<(r.aO.length:Int))then(aV x1.aE a).bind fun s=>(aV s.aS b).bind fun t=>(aV t.aO c).bind fun u=>(aX (E:=aA YZ) (fun(⟨d,j⟩:Int×(aA YZ))=>if decide (d<(u.aU.length:Int))then(aV x1.aE a).bind fun v=>(aV v.aS b).bind fun x=>(aV x.aO c).bind fun y=>(aV y.aU d).bind fun z=>(uE 4 0 b a c d 0 z j).bind fun A=>some (.inl ((bD (d+1)),A))else some (.inr j)) bK (0,i)).bind fun B=>some (.inl ((bD (c+1)),B))else some (.inr i)) bK (0,h)).bind fun C=>some (.inl ((bD (b+1)),C))else some (.inr h)) bK (0,o)).bind fun D=>some (.inl ((bD (a+1)),D))else some (.inr g)) bK (0,V)).bind fun F=>(aX (E:=aA YZ) (fun(⟨e,k⟩:Int×(aA YZ))=>if decide (e<(x1.bF.length:Int))then(aV x1.bF e).bind fun G=>(uF 5 0 0 0 0 0 e G k).bind fun H=>some (.inl ((bD (e+1)),H))else some (.inr k)) bK (0,F)).bind fun J=>some J
theorem lG1 {k} (d) (x1:Y0) (K:aA YZ):fU (XD k (d+2)) 164 [.yld 4,.ref 3 0] [kO,(3,.box [.ref 0 0]),(0,.box (Y0.g x1)),(2,.lst 41 2 false (I YZ.g K)),(1,.box [.own 2])] 5 false=(Pz x1 K).map (fun(F:aA YZ)=>((.tup [],[kO,(3,.box [.ref 0 0]),(0,.box (Y0.g x1)),(2,.lst 41 2 false (I YZ.g F)),(1,.box [.own 2])],0))):=by
 rw[xd (fn:=lC1) rfl];refine bz lm ?_;refine bo (aL (S:=Int×Int×(aA YZ)) (enc:=fun⟨v,f,w⟩=>(Q [(0,.yld 4),(1,.ref 3 0),(3,i64 v),(15,i64 (x1.bE.length:Int)),(16,i64 f)] [kO,(3,.box [.ref 0 0]),(0,.box (Y0.g x1)),(2,.lst 41 2 false (I YZ.g w)),(1,.box [.own 2])])) (encE:=(fun(z:aA YZ)=>(xq 0 [(0,.yld 4),(1,.ref 3 0)] [kO,(3,.box [.ref 0 0]),(0,.box (Y0.g x1)),(2,.lst 41 2 false (I YZ.g z)),(1,.box [.own 2])]))) (fun⟨v,f,w⟩=>?_) bK (0,0,K)) fun z=>?_;refine ig fun L=>?_;refine bo (dH1 d 1 f 0 0 0 0 0 L w) fun M=>?_;refine bo rg fun N=>?_;refine bz lm ?_;refine bo (aL (S:=Int×Int×(aA YZ)) (enc:=fun⟨x,G,y⟩=>(Q [(0,.yld 4),(1,.ref 3 0),(3,i64 x),(4,i64 f),(15,i64 (x1.bE.length:Int)),(16,i64 f),(39,i64 (N.dR.length:Int)),(40,i64 G)] [kO,(2,.lst 41 2 false (I YZ.g y)),(1,.box [.own 2]),(3,.box [.ref 0 0]),(0,.box (Y0.g x1))])) (encE:=(fun(⟨H,J⟩:Int×(aA YZ))=>(xq 2 [(0,.yld 4),(1,.ref 3 0),(3,i64 H),(15,i64 (x1.bE.length:Int)),(16,i64 f)] [kO,(2,.lst 41 2 false (I YZ.g J)),(1,.box [.own 2]),(3,.box [.ref 0 0]),(0,.box (Y0.g x1))]))) (fun⟨x,G,y⟩=>?_) bK (v,0,M)) fun⟨H,J⟩=>?_;refine ig fun Z=>?_;refine bo rg fun O=>?_;refine bo (Sm d 2 0 x 0 0 0 0 O y) fun a0=>?_;rfl;rfl;refine bz lm ?_;refine bo (aL (S:=Int×(aA YZ)) (enc:=fun⟨a,h⟩=>(Q [(0,.yld 4),(1,.ref 3 0),(67,i64 (x1.aE.length:Int)),(68,i64 a)] [kO,(3,.box [.ref 0 0]),(0,.box (Y0.g x1)),(2,.lst 41 2 false (I YZ.g h)),(1,.box [.own 2])])) (encE:=(fun(o:aA YZ)=>(xq 4 [(0,.yld 4),(1,.ref 3 0)] [kO,(3,.box [.ref 0 0]),(0,.box (Y0.g x1)),(2,.lst 41 2 false (I YZ.g o)),(1,.box [.own 2])]))) (fun⟨a,h⟩=>?_) bK (0,z)) fun o=>?_;refine ig fun A=>?_;refine bo (Sn d 3 0 0 a 0 0 0 A h) fun B=>?_;refine bo rg fun e=>?_;refine bz lm ?_;refine bo (aL (S:=Int×(aA YZ)) (enc:=fun⟨b,i⟩=>(Q [(0,.yld 4),(1,.ref 3 0),(6,i64 a),(67,i64 (x1.aE.length:Int)),(68,i64 a),(91,i64 (e.aS.length:Int)),(92,i64 b)] [kO,(2,.lst 41 2 false (I YZ.g i)),(1,.box [.own 2]),(3,.box [.ref 0 0]),(0,.box (Y0.g x1))])) (encE:=(fun(t:aA YZ)=>(xq 6 [(0,.yld 4),(1,.ref 3 0),(67,i64 (x1.aE.length:Int)),(68,i64 a)] [kO,(2,.lst 41 2 false (I YZ.g t)),(1,.box [.own 2]),(3,.box [.ref 0 0]),(0,.box (Y0.g x1))]))) (fun⟨b,i⟩=>?_) bK (0,B)) fun t=>?_;refine ig fun P=>?_;refine bo rg fun j=>?_;refine bz lm ?_;refine bo (aL (S:=Int×(aA YZ)) (enc:=fun⟨c,l⟩=>(Q [(0,.yld 4),(1,.ref 3 0),(6,i64 a),(7,i64 b),(67,i64 (x1.aE.length:Int)),(68,i64 a),(91,i64 (e.aS.length:Int)),(92,i64 b),(107,i64 (j.aO.length:Int)),(108,i64 c)] [kO,(2,.lst 41 2 false (I YZ.g l)),(1,.box [.own 2]),(3,.box [.ref 0 0]),(0,.box (Y0.g x1))])) (encE:=(fun(s:aA YZ)=>(xq 8 [(0,.yld 4),(1,.ref 3 0),(6,i64 a),(67,i64 (x1.aE.length:Int)),(68,i64 a),(91,i64 (e.aS.length:Int)),(92,i64 b)] [kO,(2,.lst 41 2 false (I YZ.g s)),(1,.box [.own 2]),(3,.box [.ref 0 0]),(0,.box (Y0.g x1))]))) (fun⟨c,l⟩=>?_) bK (0,i)) fun s=>?_;refine ig fun R=>?_;refine bo rg fun T=>?_;refine bo rg fun C=>?_;refine bz lm ?_;refine bo (aL (S:=Int×(aA YZ)) (enc:=fun⟨m,n⟩=>(Q [(0,.yld 4),(1,.ref 3 0),(6,i64 a),(7,i64 b),(8,i64 c),(67,i64 (x1.aE.length:Int)),(68,i64 a),(91,i64 (e.aS.length:Int)),(92,i64 b),(107,i64 (j.aO.length:Int)),(108,i64 c),(127,i64 (C.aU.length:Int)),(128,i64 m)] [kO,(2,.lst 41 2 false (I YZ.g n)),(1,.box [.own 2]),(3,.box [.ref 0 0]),(0,.box (Y0.g x1))])) (encE:=(fun(r:aA YZ)=>(xq 10 [(0,.yld 4),(1,.ref 3 0),(6,i64 a),(7,i64 b),(67,i64 (x1.aE.length:Int)),(68,i64 a),(91,i64 (e.aS.length:Int)),(92,i64 b),(107,i64 (j.aO.length:Int)),(108,i64 c)] [kO,(2,.lst 41 2 false (I YZ.g r)),(1,.box [.own 2]),(3,.box [.ref 0 0]),(0,.box (Y0.g x1))]))) (fun⟨m,n⟩=>?_) bK (0,l)) fun r=>?_;refine ig fun U=>?_;refine bo rg fun V=>?_;refine bo rg fun W=>?_;refine bo rg fun D=>?_;refine bo (So d 4 0 b a c m 0 D n) fun X=>?_;rfl;rfl;rfl;rfl;refine bz lm ?_;refine bo (aL (S:=Int×(aA YZ)) (enc:=fun⟨p,q⟩=>(Q [(0,.yld 4),(1,.ref 3 0),(166,i64 (x1.bF.length:Int)),(167,i64 p)] [kO,(3,.box [.ref 0 0]),(0,.box (Y0.g x1)),(2,.lst 41 2 false (I YZ.g q)),(1,.box [.own 2])])) (encE:=(fun(u:aA YZ)=>(xq 12 [] [kO,(3,.box [.ref 0 0]),(0,.box (Y0.g x1)),(2,.lst 41 2 false (I YZ.g u)),(1,.box [.own 2])]))) (fun⟨p,q⟩=>?_) bK (0,o)) fun u=>?_;refine ig fun E=>?_;refine bo (Sp d 5 0 0 0 0 0 p E q) fun Y=>?_;rfl;rfl
def F61 (x1:Y0):aB (aA YZ):=
 (Py x1).bind fun _=>(Pz x1 []).bind fun a=>some a
theorem cB2 {k} (d) (x1:Y0):OD k (d+3) 61 [.agg (Y0.g x1)]=(F61 x1).map (fun a=>.is 2 (I YZ.g a)):=by
 refine oe rfl ?_;refine bo (lF1 (d+1) x1) fun _=>?_;refine bo (lG1 d x1 []) fun b=>?_;rfl
def F62 (x1:YZ):aB Bool:=
 (Bp x1.iZ 0 99).bind fun a=>((if a then(Bp x1.dW 1 1073741824).bind fun b=>some b else some false:aB (Bool))).bind fun c=>some c
theorem pD1 {k} (d) (x1:YZ):OD k (d+2) 62 [.agg (YZ.g x1)]=(F62 x1).map bv:=by
 refine oe rfl ?_;refine bo (pW d x1.iZ 0 99) fun a=>?_;refine bo (e:=id) ?_ fun c=>?_;refine io ?_ rfl;refine bo (pW d x1.dW 1 1073741824) fun b=>?_;rfl;rfl
def F63 (x1:Y0) (c:Int):aB Int:=
 (aX (E:=Int⊕Unit) (fun(a:Int)=>if decide (a<(x1.jU.length:Int))then(aV x1.jU a).bind fun b=>if b.iZ==c then some (.inr (.inl b.dW))else some (.inl (bD (a+1)))else some (.inr (.inr ()))) bK 0).bind fun d=>(match d with|.inl x6=>some x6|.inr _=>some 0)
theorem cC2 {k} (d) (x1:Y0) (a:Int):OD k (d+1) 63 [.agg (Y0.g x1),i64 a]=(F63 x1 a).map i64:=by
 refine oe rfl ?_;refine bz lm ?_;refine bo (aL (S:=Int) (enc:=fun b=>(Q [(1,i64 a),(8,.is 2 (I YZ.g x1.jU)),(9,i64 (x1.jU.length:Int)),(10,i64 b)] [(0,.box (Y0.g x1))])) (encE:=(fun|.inl c=>(rq [(4,i64 c)] [(0,.box (Y0.g x1))])|.inr _=>(xq 0 [] [(0,.box (Y0.g x1))]))) (fun b=>?_) bK 0) fun e=>?_;refine ig fun f=>?_;refine io rfl rfl;rcases e with c|_;rfl;rfl
def Yb (x1:aA YV) (e:Y0) (u:Int):aB (aA YV):=
 (F61 e).bind fun v=>(aX (E:=(aA (YZ×Bool))×(aA YV)) (fun(⟨c,d,f⟩:Int×(aA (YZ×Bool))×(aA YV))=>if decide (c<(v.length:Int))then(aV v c).bind fun a=>(F62 a).bind fun i=>((if(!i)||(Xr d a false)then some true else(F63 e a.iZ).bind fun j=>some (decide (a.dW>j)):aB (Bool))).bind fun k=>(jS k a f e u).bind fun l=>some (.inl ((bD (c+1)),(Sg d a true),l))else some (.inr (d,f))) bK (0,[],x1)).bind fun⟨w,m⟩=>(aX (E:=Bool) (fun(⟨g,b⟩:Bool×Int)=>if decide (b<(e.jU.length:Int))then(aV e.jU b).bind fun h=>((if g then some true else(F62 h).bind fun n=>some (!n):aB (Bool))).bind fun o=>((if o then some true else((if decide (b>0)then(aV e.jU (bD (b-1))).bind fun p=>some (decide (h.iZ<=p.iZ))else some false:aB (Bool))).bind fun q=>some q:aB (Bool))).bind fun r=>some (.inl (r,(bD (b+1))))else some (.inr g)) bK (false,0)).bind fun s=>(jS s (YZ.mk 0 0) m e u).bind fun t=>some t
theorem pE1 {k} (d) (x1:aA YV) (a:Y0) (i:Int):fU (XD k (d+4)) 32 [.ref 1 0] (cL x1 a i) 3 false=(Yb x1 a i).map (fun(r:aA YV)=>((.tup [],(cL r a i),0))):=by
 rw[xd (fn:=p32) rfl];refine bo (cB2 d a) fun s=>?_;refine bz lm ?_;refine bo (aL (S:=Int×(aA (YZ×Bool))×(aA YV)) (enc:=fun⟨m,f,j⟩=>(Q [(0,.ref 1 0),(2,.map 3),(13,.is 2 (I YZ.g s)),(14,i64 (s.length:Int)),(15,i64 m)] ((3,.mp (I (gY (eA YZ.g) bv) f))::cL j a i))) (encE:=(fun(⟨h,c⟩:(aA (YZ×Bool))×(aA YV))=>(xq 0 [(0,.ref 1 0)] ((3,.mp (I (gY (eA YZ.g) bv) h))::cL c a i)))) (fun⟨m,f,j⟩=>?_) bK (0,[],x1)) fun⟨h,c⟩=>?_;refine ig fun b=>?_;refine bo (pD1 (d+1) b) fun t=>?_;refine bz (fW (bz (Az Px bv f b false) rfl)) ?_;refine bo (e:=id) ?_ fun p=>?_;refine io rfl ?_;refine bo (cC2 (d+2) a b.iZ) fun u=>?_;rfl;refine bo (iF (d+2) p b j a i) fun v=>?_;refine bz (oE Px bv f b true) ?_;rfl;refine bz lm ?_;refine bo (aL (S:=Bool×Int) (enc:=fun⟨n,o⟩=>(Q [(0,.ref 1 0),(5,bv n),(49,.is 2 (I YZ.g a.jU)),(50,i64 (a.jU.length:Int)),(51,i64 o)] ((3,.mp (I (gY (eA YZ.g) bv) h))::cL c a i))) (encE:=(fun(l:Bool)=>(xq 2 [(0,.ref 1 0),(5,bv l)] ((3,.mp (I (gY (eA YZ.g) bv) h))::cL c a i)))) (fun⟨n,o⟩=>?_) bK (false,0)) fun l=>?_;refine ig fun q=>?_;refine bo (e:=id) ?_ fun x=>?_;refine io rfl ?_;refine bo (pD1 (d+1) q) fun w=>?_;rfl;refine bo (e:=id) ?_ fun A=>?_;refine io rfl ?_;refine bo (e:=id) ?_ fun z=>?_;refine ig fun y=>?_;rfl;rfl;rfl;refine bo (iF (d+2) l (YZ.mk 0 0) c a i) fun B=>?_;rfl
def F49 (x1:Y0):aB Int:=
 (aX (E:=Int) (fun(⟨b,a⟩:Int×Int)=>if decide (a<(x1.bE.length:Int))then(aV x1.bE a).bind fun c=>some (.inl ((bD (b+(c.dR.length:Int))),(bD (a+1))))else some (.inr b)) bK (0,0)).bind fun d=>some d
theorem pG1 {k} (d) (x1:Y0):OD k (d+1) 49 [.agg (Y0.g x1)]=(F49 x1).map i64:=by
 refine oe rfl ?_;refine bz lm ?_;refine bo (aL (S:=Int×Int) (enc:=fun⟨a,b⟩=>(Q [(3,i64 a),(7,.is 6 (I YJ.g x1.bE)),(8,i64 (x1.bE.length:Int)),(9,i64 b)] [(0,.box (Y0.g x1))])) (encE:=(fun(c:Int)=>(xq 0 [(3,i64 c)] [(0,.box (Y0.g x1))]))) (fun⟨a,b⟩=>?_) bK (0,0)) fun c=>?_;refine ig fun e=>?_;refine bz lm ?_;rfl;rfl
def F65 (x1:Int) (j:YM) (n:Int):aB Bool:=
 (aX (E:=Bool) (fun(⟨d,b⟩:Bool×Int)=>if decide (b<(j.aS.length:Int))then(aV j.aS b).bind fun a=>((if d||((a.aO.length:Int)==0)then some true else(aV a.aO 0).bind fun g=>some ((g.aU.length:Int)==0):aB (Bool))).bind fun h=>((if h then some true else(aV a.aO (bD ((a.aO.length:Int)-1))).bind fun i=>some ((i.aU.length:Int)==0):aB (Bool))).bind fun k=>(aX (E:=Bool) (fun(⟨e,c⟩:Bool×Int)=>if decide (c<(a.aO.length:Int))then(aV a.aO c).bind fun f=>some (.inl ((e||(((f.aU.length:Int)==0)&&(decide ((f.gN.length:Int)>0)))),(bD (c+1))))else some (.inr e)) bK (k,0)).bind fun l=>some (.inl (l,(bD (b+1))))else some (.inr d)) bK (((j.aS.length:Int)!=n),0)).bind fun m=>some m
theorem cD2 {k} (d) (x1:Int) (a:YM) (n:Int):OD k (d+1) 65 [i64 x1,.agg (YM.g a),.ip [i64 n]]=(F65 x1 a n).map bv:=by
 refine oe rfl ?_;refine bz lm ?_;refine bz lm ?_;refine bo (aL (S:=Bool×Int) (enc:=fun⟨f,b⟩=>(Q [(6,bv f),(18,.is 2 (I YW.g a.aS)),(19,i64 (a.aS.length:Int)),(20,i64 b)] [(0,.box (YM.g a))])) (encE:=(fun(l:Bool)=>(xq 0 [(6,bv l)] [(0,.box (YM.g a))]))) (fun⟨f,b⟩=>?_) bK (((a.aS.length:Int)!=n),0)) fun l=>?_;refine ig fun c=>?_;refine bz (fW (bz lm rfl)) ?_;refine bo (e:=id) ?_ fun p=>?_;refine io rfl ?_;refine bo rg fun o=>?_;refine bz lm ?_;rfl;refine bo (e:=id) ?_ fun m=>?_;refine io rfl ?_;refine bz lm ?_;refine bo rg fun q=>?_;refine bz lm ?_;rfl;refine bz lm ?_;refine bo (aL (S:=Bool×Int) (enc:=fun⟨h,i⟩=>(Q [(6,bv h),(18,.is 2 (I YW.g a.aS)),(19,i64 (a.aS.length:Int)),(20,i64 b),(51,.is 2 (I YO.g c.aO)),(52,i64 (c.aO.length:Int)),(53,i64 i)] [(1,.box (YW.g c)),(0,.box (YM.g a))])) (encE:=(fun(j:Bool)=>(xq 2 [(6,bv j),(18,.is 2 (I YW.g a.aS)),(19,i64 (a.aS.length:Int)),(20,i64 b)] [(1,.box (YW.g c)),(0,.box (YM.g a))]))) (fun⟨h,i⟩=>?_) bK (m,0)) fun j=>?_;refine ig fun r=>?_;refine bz (fW (bz lm (bz (gE (bz lm rfl)) rfl))) ?_;rfl;rfl;rfl
def dI1 (x1:Int) (h:aA YV) (f:Y0) (i:Int):aB (aA YV):=
 (aX (E:=aA YV) (fun(⟨b,g⟩:Int×(aA YV))=>if decide (b<(f.aE.length:Int))then(aV f.aE b).bind fun a=>(F65 b a x1).bind fun c=>(jS c a.ID g f i).bind fun d=>some (.inl ((bD (b+1)),d))else some (.inr g)) bK (0,h)).bind fun e=>some e
theorem pH1 {k} (d) (x1:Int) (i:aA YV) (a:Y0) (b:Int):fU (XD k (d+2)) 64 [.ref 1 0,.fn 65 [] [.ref 3 0]] ((3,.box [i64 x1])::cL i a b) 4 false=(dI1 x1 i a b).map (fun(h:aA YV)=>((.tup [],((3,.box [i64 x1])::cL h a b),0))):=by
 rw[xd (fn:=p64) rfl];refine bz lm ?_;refine bo (aL (S:=Int×(aA YV)) (enc:=fun⟨j,l⟩=>(Q [(0,.ref 1 0),(1,.fn 65 [] [.ref 3 0]),(10,.is 22 (I YM.g a.aE)),(11,i64 (a.aE.length:Int)),(12,i64 j)] ((3,.box [i64 x1])::cL l a b))) (encE:=(fun(e:aA YV)=>(xq 0 [] ((3,.box [i64 x1])::cL e a b)))) (fun⟨j,l⟩=>?_) bK (0,i)) fun e=>?_;refine ig fun c=>?_;refine bo (cD2 d j c x1) fun f=>?_;refine bo (iF d f c.ID l a b) fun m=>?_;rfl;rfl
def Yc (x1:aA YV) (a:Y0) (b:Int):aB (aA YV):=
 (F49 a).bind fun c=>(dI1 c x1 a b).bind fun d=>some d
theorem pI1 {k} (d) (x1:aA YV) (a:Y0) (b:Int):fU (XD k (d+3)) 33 [.ref 1 0] (cL x1 a b) 3 false=(Yc x1 a b).map (fun(e:aA YV)=>((.tup [],(cL e a b),0))):=by
 rw[xd (fn:=p33) rfl];refine bo (pG1 (d+1) a) fun c=>?_;refine bo (pH1 d c x1 a b) fun f=>?_;rfl
def dJ1:aB Y9:=
 some (Y9.mk (YI.mk (⟨#[116,114,101,98,108,101]⟩:ByteArray) 71 (-2) 0 34 (-1) (-3)) (YI.mk (⟨#[98,97,115,115]⟩:ByteArray) 70 2 0 22 (-3) (-5)) (YI.mk (⟨#[97,108,116,111]⟩:ByteArray) 67 0 0 28 (-2) (-4)) (YI.mk (⟨#[116,101,110,111,114]⟩:ByteArray) 67 2 0 26 (-2) (-2)) (YI.mk (⟨#[115,111,112,114,97,110,111]⟩:ByteArray) 67 (-4) 0 32 (-2) (-3)) (YI.mk (⟨#[109,101,122,122,111,115,111,112,114,97,110,111]⟩:ByteArray) 67 (-2) 0 30 (-2) (-3)) (YI.mk (⟨#[98,97,114,105,116,111,110,101]⟩:ByteArray) 70 0 0 24 (-2) (-3)) (YI.mk (⟨#[116,114,101,98,108,101,56]⟩:ByteArray) 71 (-2) (-1) 27 (-1) (-3)) (YI.mk (⟨#[98,97,115,115,56]⟩:ByteArray) 70 2 (-1) 15 (-3) (-5)))
theorem pJ1 {k} (d):OD k (d+1) 165 []=(dJ1).map (fun a=>.agg (Y9.g a)):=by
 refine oe rfl ?_;rfl
def dK1 (x1:Int):aB (YI×Int):=
 if(decide (x1<1))||(decide (x1>9))then some ((YI.mk (⟨#[]⟩:ByteArray) 0 0 0 0 0 0),11)else(dJ1).bind fun a=>(aV [a.c0,a.c1,a.c2,a.c3,a.c4,a.c5,a.c6,a.c7,a.c8] (bD (x1-1))).bind fun b=>some (b,0)
theorem pK1 {k} (d) (x1:Int):OD k (d+2) 114 [i64 x1]=(dK1 x1).map (fun⟨b,c⟩=>.tup [.agg (YI.g b),i64 c]):=by
 refine oe rfl ?_;refine bz (fW rfl) ?_;refine io rfl ?_;refine bo (pJ1 d) fun a=>?_;refine bo (Ju (A:=YI) YI.g [a.c0,a.c1,a.c2,a.c3,a.c4,a.c5,a.c6,a.c7,a.c8] (bD (x1-1)) rfl (fun _=>rfl) rfl) fun e=>?_;rfl
def F66 (x1:Int):aB Int:=
 (dK1 x1).bind fun⟨b,a⟩=>some a
theorem pM1 {k} (d) (x1:Int):OD k (d+3) 66 [i64 x1]=(F66 x1).map i64:=by
 refine oe rfl ?_;refine bo (pK1 d x1) fun⟨a,b⟩=>?_;rfl
def dL1 (x1:YX):aB Bool:=
 if((x1.dF.c0==0)&&((x1.dF.c1==0)&&((x1.dF.c2==0)&&((x1.dF.c3==0)&&((x1.dF.c4==0)&&((x1.dF.c5==0)&&true))))))!=false then some true else(aX (E:=(Int×Int)⊕(Int×Int)) (fun(⟨c,a,d⟩:Int×Int×Int)=>if decide (d<6)then(aV [x1.dF.c0,x1.dF.c1,x1.dF.c2,x1.dF.c3,x1.dF.c4,x1.dF.c5] d).bind fun b=>if((decide (b<0))||(decide (b>64)))||((decide (b>0))&&(d !=a))then some (.inr (.inl (c,a)))else((if decide (b>0)then some ((bD (c+b)),(bD (a+1)))else some (c,a):aB (Int×Int))).bind fun⟨g,e⟩=>some (.inl (g,e,(bD (d+1))))else some (.inr (.inr (c,a)))) bK (0,0,0)).bind fun f=>(match f with|.inl ⟨x11,x12⟩=>some false|.inr ⟨x13,x14⟩=>some ((x13==x1.gC)&&(decide (x14>=2))))
theorem pN1 {k} (d) (x1:YX):OD k (d+1) 198 [.agg (YX.g x1)]=(dL1 x1).map bv:=by
 refine oe rfl ?_;refine io rfl ?_;refine bo (aL (S:=Int×Int×Int) (enc:=fun⟨i,j,f⟩=>(Q [(1,.ref 0 0),(3,i64 i),(4,i64 j),(12,.agg (Y6.g x1.dF)),(13,i64 f)] [(0,.box (YX.g x1))])) (encE:=(fun|.inl ⟨b,c⟩=>(rq [(1,.ref 0 0),(2,bv false),(3,i64 b),(4,i64 c)] [(0,.box (YX.g x1))])|.inr ⟨x13,x14⟩=>(xq 0 [(1,.ref 0 0),(3,i64 x13),(4,i64 x14)] [(0,.box (YX.g x1))]))) (fun⟨i,j,f⟩=>?_) bK (0,0,0)) fun h=>?_;refine io ?_ rfl;refine bo (rY .i64 [x1.dF.c0,x1.dF.c1,x1.dF.c2,x1.dF.c3,x1.dF.c4,x1.dF.c5] f rfl) fun m=>?_;refine bz (fW rfl) ?_;refine bz (fW (bz (gE rfl) rfl)) ?_;refine io rfl ?_;refine bo (e:=(fun(⟨l,a⟩:Int×Int)=>(nq [(1,.ref 0 0),(3,i64 l),(4,i64 a),(12,.agg (Y6.g x1.dF)),(13,i64 f)] [(0,.box (YX.g x1))]))) ?_ fun⟨l,a⟩=>?_;refine io rfl rfl;rfl;rcases h with⟨b,c⟩|⟨x13,x14⟩
 rfl;refine bz (gE rfl) ?_;rfl
def dM1 (x1:YX):aB Int:=
 if(decide (x1.gC<1))||(decide (x1.gC>64))then some 2 else if((decide (x1.Unit<1))||(decide (x1.Unit>64)))||((Jv .i64 x1.Unit (bD (x1.Unit-1)))!=0)then some 17 else(dL1 x1).bind fun a=>if !a then some 19 else some 0
theorem pO1 {k} (d) (x1:YX):OD k (d+2) 166 [.agg (YX.g x1)]=(dM1 x1).map i64:=by
 refine oe rfl ?_;refine bz (fW rfl) ?_;refine io rfl ?_;refine bz (fW rfl) ?_;refine bz (fW rfl) ?_;refine io rfl ?_;refine bo (pN1 d x1) fun a=>?_;refine io rfl rfl
def dN1 (x1:YX):aB Int:=
 (Mp .i64 1935360 x1.Unit).bind fun a=>some a
theorem pP1 {k} (d) (x1:YX):OD k (d+1) 199 [.agg (YX.g x1)]=(dN1 x1).map i64:=by
 refine oe rfl ?_;refine bo oi fun a=>?_;rfl
def dO1 (x1:YX):aB Int:=
 (dN1 x1).bind fun a=>some (bD (x1.gC*a))
theorem pQ1 {k} (d) (x1:YX):OD k (d+2) 167 [.agg (YX.g x1)]=(dO1 x1).map i64:=by
 refine oe rfl ?_;refine bo (pP1 d x1) fun a=>?_;rfl
def dP1 (x1:YX):aB (Int×Int):=
 (dM1 x1).bind fun a=>if a !=0 then some (0,a)else(dO1 x1).bind fun b=>some (b,0)
theorem pR1 {k} (d) (x1:YX):OD k (d+3) 115 [.agg (YX.g x1)]=(dP1 x1).map (fun⟨a,b⟩=>.tup [i64 a,i64 b]):=by
 refine oe rfl ?_;refine bo (pO1 d x1) fun c=>?_;refine io rfl ?_;refine bo (pQ1 d x1) fun e=>?_;rfl
def F68 (x1:YM):aB (Int×Int):=
 (dP1 x1.rC).bind fun⟨c,b⟩=>if b !=0 then some (0,b)else if decide (x1.Gg<0)then some (0,2)else((if decide (x1.Gg>0)then some x1.Gg else some c:aB (Int))).bind fun a=>(Xq .i64 a 7560).bind fun d=>if d !=0 then some (0,16)else if decide (a>15482880)then some (0,5)else some (a,0)
theorem Sq {k} (d) (x1:YM):OD k (d+4) 68 [.agg (YM.g x1)]=(F68 x1).map (fun⟨b,c⟩=>.tup [i64 b,i64 c]):=by
 refine oe rfl ?_;refine bo (pR1 d x1.rC) fun⟨f,h⟩=>?_;refine io rfl ?_;refine io rfl ?_;refine bo (e:=(fun(a:Int)=>(nq [(4,i64 a)] [(0,.box (YM.g x1))]))) ?_ fun a=>?_;refine io rfl rfl;refine bo oi fun i=>?_;refine io rfl ?_;refine io rfl rfl
def F67 (x1:Int) (g:YM):aB Bool:=
 (F68 g).bind fun⟨q,r⟩=>(aX (E:=Bool) (fun(⟨e,b⟩:Bool×Int)=>if decide (b<(g.aS.length:Int))then(aV g.aS b).bind fun c=>(aX (E:=Bool) (fun(⟨f,a⟩:Bool×Int)=>if decide (a<(c.jT.length:Int))then(aV c.jT a).bind fun d=>((if f then some true else(F66 d.Nq).bind fun h=>some (h !=0):aB (Bool))).bind fun i=>((if i then some true else(Bp d.At 0 (bD (q-1))).bind fun j=>some (!j):aB (Bool))).bind fun k=>((if k then some true else((if decide (a>0)then(aV c.jT (bD (a-1))).bind fun l=>some (decide (d.At<=l.At))else some false:aB (Bool))).bind fun m=>some m:aB (Bool))).bind fun n=>some (.inl (n,(bD (a+1))))else some (.inr f)) bK (e,0)).bind fun o=>some (.inl (o,(bD (b+1))))else some (.inr e)) bK (false,0)).bind fun p=>some (p&&(r==0))
theorem cE2 {k} (d) (x1:Int) (a:YM):OD k (d+5) 67 [i64 x1,.agg (YM.g a)]=(F67 x1 a).map bv:=by
 refine oe rfl ?_;refine bo (Sq d a) fun⟨n,o⟩=>?_;refine bz lm ?_;refine bo (aL (S:=Bool×Int) (enc:=fun⟨f,b⟩=>(Q [(5,i64 n),(6,i64 o),(7,bv f),(18,.is 2 (I YW.g a.aS)),(19,i64 (a.aS.length:Int)),(20,i64 b)] [(0,.box (YM.g a))])) (encE:=(fun(m:Bool)=>(xq 0 [(6,i64 o),(7,bv m)] [(0,.box (YM.g a))]))) (fun⟨f,b⟩=>?_) bK (false,0)) fun m=>?_;refine ig fun c=>?_;refine bz lm ?_;refine bo (aL (S:=Bool×Int) (enc:=fun⟨h,i⟩=>(Q [(5,i64 n),(6,i64 o),(7,bv h),(9,.ref 1 0),(18,.is 2 (I YW.g a.aS)),(19,i64 (a.aS.length:Int)),(20,i64 b),(25,.is 2 (I YC.g c.jT)),(26,i64 (c.jT.length:Int)),(27,i64 i)] [(1,.box (YW.g c)),(0,.box (YM.g a))])) (encE:=(fun(l:Bool)=>(xq 2 [(5,i64 n),(6,i64 o),(7,bv l),(18,.is 2 (I YW.g a.aS)),(19,i64 (a.aS.length:Int)),(20,i64 b)] [(1,.box (YW.g c)),(0,.box (YM.g a))]))) (fun⟨h,i⟩=>?_) bK (f,0)) fun l=>?_;refine ig fun j=>?_;refine bo (e:=id) ?_ fun q=>?_;refine io rfl ?_;refine bo (pM1 (d+1) j.Nq) fun p=>?_;rfl;refine bo (e:=id) ?_ fun s=>?_;refine io rfl ?_;refine bo (pW (d+3) j.At 0 (bD (n-1))) fun r=>?_;rfl;refine bo (e:=id) ?_ fun v=>?_;refine io rfl ?_;refine bo (e:=id) ?_ fun u=>?_;refine ig fun t=>?_;rfl;rfl;rfl;rfl;refine bz (gE rfl) ?_;rfl
def Fe (x1:aA YV) (e:Y0) (h:Int):aB (aA YV):=
 (aX (E:=aA YV) (fun(⟨a,f⟩:Int×(aA YV))=>if decide (a<(e.aE.length:Int))then(aV e.aE a).bind fun g=>(F67 a g).bind fun b=>(jS b g.ID f e h).bind fun c=>some (.inl ((bD (a+1)),c))else some (.inr f)) bK (0,x1)).bind fun d=>some d
theorem dR1 {k} (d) (x1:aA YV) (a:Y0) (b:Int):fU (XD k (d+6)) 64 [.ref 1 0,.fn 67 [] []] (cL x1 a b) 3 false=(Fe x1 a b).map (fun(f:aA YV)=>((.tup [],(cL f a b),0))):=by
 rw[xd (fn:=p64) rfl];refine bz lm ?_;refine bo (aL (S:=Int×(aA YV)) (enc:=fun⟨h,i⟩=>(Q [(0,.ref 1 0),(1,.fn 67 [] []),(10,.is 22 (I YM.g a.aE)),(11,i64 (a.aE.length:Int)),(12,i64 h)] (cL i a b))) (encE:=(fun(c:aA YV)=>(xq 0 [] (cL c a b)))) (fun⟨h,i⟩=>?_) bK (0,x1)) fun c=>?_;refine ig fun j=>?_;refine bo (cE2 d h j) fun e=>?_;refine bo (iF (d+4) e j.ID i a b) fun l=>?_;rfl;rfl
def Yd (x1:aA YV) (g:Y0) (m:Int):aB (aA YV):=
 (aX (E:=aA YV) (fun(⟨a,c⟩:Int×(aA YV))=>if decide (a<(g.bE.length:Int))then(aV g.bE a).bind fun d=>(aX (E:=aA YV) (fun(⟨b,e⟩:Int×(aA YV))=>if decide (b<(d.dR.length:Int))then(aV d.dR b).bind fun f=>(F66 f.Nq).bind fun h=>(jS (h !=0) f.ID e g m).bind fun i=>some (.inl ((bD (b+1)),i))else some (.inr e)) bK (0,c)).bind fun j=>some (.inl ((bD (a+1)),j))else some (.inr c)) bK (0,x1)).bind fun k=>(Fe k g m).bind fun l=>some l
theorem pS1 {k} (d) (x1:aA YV) (a:Y0) (e:Int):fU (XD k (d+7)) 34 [.ref 1 0] (cL x1 a e) 3 false=(Yd x1 a e).map (fun(o:aA YV)=>((.tup [],(cL o a e),0))):=by
 rw[xd (fn:=p34) rfl];refine bz lm ?_;refine bo (aL (S:=Int×(aA YV)) (enc:=fun⟨b,f⟩=>(Q [(0,.ref 1 0),(10,.is 6 (I YJ.g a.bE)),(11,i64 (a.bE.length:Int)),(12,i64 b)] (cL f a e))) (encE:=(fun(i:aA YV)=>(xq 0 [(0,.ref 1 0)] (cL i a e)))) (fun⟨b,f⟩=>?_) bK (0,x1)) fun i=>?_;refine ig fun c=>?_;refine bz lm ?_;refine bo (aL (S:=Int×(aA YV)) (enc:=fun⟨j,h⟩=>(Q [(0,.ref 1 0),(10,.is 6 (I YJ.g a.bE)),(11,i64 (a.bE.length:Int)),(12,i64 b),(17,.is 3 (I YF.g c.dR)),(18,i64 (c.dR.length:Int)),(19,i64 j)] ((3,.box (YJ.g c))::cL h a e))) (encE:=(fun(m:aA YV)=>(xq 2 [(0,.ref 1 0),(10,.is 6 (I YJ.g a.bE)),(11,i64 (a.bE.length:Int)),(12,i64 b)] ((3,.box (YJ.g c))::cL m a e)))) (fun⟨j,h⟩=>?_) bK (0,f)) fun m=>?_;refine ig fun l=>?_;refine bo (pM1 (d+3) l.Nq) fun n=>?_;refine bo (iF (d+5) (n !=0) l.ID h a e) fun p=>?_;rfl;rfl;refine bo (dR1 d i a e) fun q=>?_;rfl
def F26 (x1:Int):aB Int:=
 if(decide (x1<(-7)))||(decide (x1>7))then some 2 else some 0
theorem pT1 {k} (d) (x1:Int):OD k (d+1) 26 [i64 x1]=(F26 x1).map i64:=by
 refine oe rfl ?_;refine bz (fW rfl) ?_;refine io rfl rfl
def Tl (x1:Int) (a:YL):aB (Int×Int):=
 (F26 x1).bind fun d=>if d !=0 then some (0,d)else if(((decide (a.cW<(-77)))||(decide (a.cW>77)))||(decide (a.bB<(-140))))||(decide (a.bB>140))then some (0,2)else(aX (E:=Int) (fun(b:Int)=>if decide (b>7)then some (.inl (bD (b-12)))else some (.inr b)) bK (bD (x1+(bD ((bD (7*a.bB))-(bD (12*a.cW))))))).bind fun e=>(aX (E:=Int) (fun(c:Int)=>if decide (c<(-7))then some (.inl (bD (c+12)))else some (.inr c)) bK e).bind fun f=>some (f,0)
theorem lI1 {k} (d) (x1:Int) (a:YL):OD k (d+2) 12 [i64 x1,.agg (YL.g a)]=(Tl x1 a).map (fun⟨h,i⟩=>.tup [i64 h,i64 i]):=by
 refine oe rfl ?_;refine bo (pT1 d x1) fun j=>?_;refine io rfl ?_;refine bz (fW rfl) ?_;refine bz (fW rfl) ?_;refine bz (fW rfl) ?_;refine io rfl ?_;refine bo (aL (S:=Int) (enc:=fun c=>(Q [(0,i64 c)] [(0,.box (YL.g a))])) (encE:=(fun(b:Int)=>(xq 0 [(0,i64 b)] [(0,.box (YL.g a))]))) (fun c=>?_) bK (bD (x1+(bD ((bD (7*a.bB))-(bD (12*a.cW))))))) fun b=>?_;refine io rfl rfl;refine bo (aL (S:=Int) (enc:=fun e=>(Q [(0,i64 e)] [(0,.box (YL.g a))])) (encE:=(fun(f:Int)=>(xq 2 [(0,i64 f)] [(0,.box (YL.g a))]))) (fun e=>?_) bK b) fun f=>?_;refine io rfl rfl;rfl
def F69 (x1:Int) (g:YM) (h:YK):aB Bool:=
 (F68 g).bind fun⟨m,j⟩=>((if j !=0 then some true else(Bp g.dJ (-7) 7).bind fun k=>some (!k):aB (Bool))).bind fun l=>(aX (E:=Bool) (fun(⟨a,b⟩:Bool×Int)=>if decide (b<(h.s'.bE.length:Int))then(aV h.s'.bE b).bind fun c=>((if h.s'.gM&&(!a)then(Tl g.dJ c.cG).bind fun⟨i,d⟩=>some (d !=0)else some a:aB (Bool))).bind fun e=>some (.inl (e,(bD (b+1))))else some (.inr a)) bK (l,0)).bind fun f=>some f
theorem cF2 {k} (d) (x1:Int) (a:YM) (b:YK):OD k (d+5) 69 [i64 x1,.agg (YM.g a),.ip [.ip (YK.g b)]]=(F69 x1 a b).map bv:=by
 refine oe rfl ?_;refine bo (Sq d a) fun⟨o,p⟩=>?_;refine bo (e:=id) ?_ fun n=>?_;refine io rfl ?_;refine bo (pW (d+3) a.dJ (-7) 7) fun q=>?_;rfl;refine bz lm ?_;refine bo (aL (S:=Bool×Int) (enc:=fun⟨f,c⟩=>(Q [(2,.ip [.ip (YK.g b)]),(4,.ref 0 0),(8,bv f),(28,.is 6 (I YJ.g b.s'.bE)),(29,i64 (b.s'.bE.length:Int)),(30,i64 c)] [(0,.box (YM.g a))])) (encE:=(fun(j:Bool)=>(xq 0 [(8,bv j)] [(0,.box (YM.g a))]))) (fun⟨f,c⟩=>?_) bK (n,0)) fun j=>?_;refine ig fun h=>?_;refine bz (gE rfl) ?_;refine bo (e:=(fun(i:Bool)=>(nq [(2,.ip [.ip (YK.g b)]),(4,.ref 0 0),(8,bv i),(28,.is 6 (I YJ.g b.s'.bE)),(29,i64 (b.s'.bE.length:Int)),(30,i64 c)] [(1,.box (YJ.g h)),(0,.box (YM.g a))]))) ?_ fun i=>?_;refine io ?_ rfl;refine bo (lI1 (d+2) a.dJ h.cG) fun⟨l,m⟩=>?_;rfl;rfl;rfl
def Ff (x1:aA YV) (a:Y0) (g:Int):aB (aA YV):=
 (aX (E:=aA YV) (fun(⟨b,f⟩:Int×(aA YV))=>if decide (b<(a.aE.length:Int))then(aV a.aE b).bind fun h=>(F69 b h (YK.mk a g f)).bind fun c=>(jS c h.ID f a g).bind fun d=>some (.inl ((bD (b+1)),d))else some (.inr f)) bK (0,x1)).bind fun e=>some e
theorem dS1 {k} (d) (x1:aA YV) (a:Y0) (b:Int):fU (XD k (d+6)) 64 [.ref 1 0,.fn 69 [] [.ref 3 0]] ((3,.box [.ref 1 0])::cL x1 a b) 4 false=(Ff x1 a b).map (fun(h:aA YV)=>((.tup [],((3,.box [.ref 1 0])::cL h a b),0))):=by
 rw[xd (fn:=p64) rfl];refine bz lm ?_;refine bo (aL (S:=Int×(aA YV)) (enc:=fun⟨i,e⟩=>(Q [(0,.ref 1 0),(1,.fn 69 [] [.ref 3 0]),(10,.is 22 (I YM.g a.aE)),(11,i64 (a.aE.length:Int)),(12,i64 i)] ((3,.box [.ref 1 0])::cL e a b))) (encE:=(fun(c:aA YV)=>(xq 0 [] ((3,.box [.ref 1 0])::cL c a b)))) (fun⟨i,e⟩=>?_) bK (0,x1)) fun c=>?_;refine ig fun j=>?_;refine bo (cF2 d i j (YK.mk a b e)) fun f=>?_;refine bo (iF (d+4) f j.ID e a b) fun l=>?_;rfl;rfl
def Ye (x1:aA YV) (a:Y0) (b:Int):aB (aA YV):=
 (Ff x1 a b).bind fun c=>some c
theorem pU1 {k} (d) (x1:aA YV) (a:Y0) (b:Int):fU (XD k (d+7)) 35 [.ref 1 0] (cL x1 a b) 3 false=(Ye x1 a b).map (fun(c:aA YV)=>((.tup [],(cL c a b),0))):=by
 rw[xd (fn:=p35) rfl];refine bo (dS1 d x1 a b) fun e=>?_;rfl
def qR (x1 a:Int):aB Int:=
 if(decide (x1<0))||(decide (x1>a))then some 2 else some 0
theorem nH {k} (d) (x1 a:Int):OD k (d+1) 125 [i64 x1,i64 a]=(qR x1 a).map i64:=by
 refine oe rfl ?_;refine bz (fW rfl) ?_;refine io rfl rfl
def Kd (x1:aA Int):aB Int:=
 (aX (E:=Int⊕Unit) (fun(a:Int)=>if decide (a<(x1.length:Int))then(aV x1 a).bind fun b=>if b !=0 then some (.inr (.inl b))else some (.inl (bD (a+1)))else some (.inr (.inr ()))) bK 0).bind fun c=>(match c with|.inl x5=>some x5|.inr _=>some 0)
theorem Ke {k} (d) (x1:aA Int):OD k (d+1) 124 [.is 1 (I cI x1)]=(Kd x1).map i64:=by
 refine oe rfl ?_;refine bz lm ?_;refine bo (aL (S:=Int) (enc:=fun a=>(Q [(5,.is 1 (I cI x1)),(6,i64 (x1.length:Int)),(7,i64 a)] [])) (encE:=(fun|.inl b=>(rq [(2,i64 b)] [])|.inr _=>(xq 0 [] []))) (fun a=>?_) bK 0) fun c=>?_;refine ig fun e=>?_;refine io rfl rfl;rcases c with b|_;rfl;rfl
def Yf (x1:Int):aB Bool:=
 some ((decide (x1>=1))&&(decide (x1<=4)))
theorem iK1 {k} (d) (x1:Int):OD k (d+1) 126 [i64 x1]=(Yf x1).map bv:=by
 refine oe rfl ?_;refine bz (gE rfl) ?_;rfl
def dT1 (x1:Int):aB Int:=
 if decide (x1<0)then some 0 else some (Jv .i64 x1 16)
theorem pV1 {k} (d) (x1:Int):OD k (d+1) 175 [i64 x1]=(dT1 x1).map i64:=by
 refine oe rfl ?_;refine io rfl rfl
def dU1 (x1:YE):aB YE:=
 ((if x1.cU==1 then some true else(Yf x1.cU).bind fun a=>some (!a):aB (Bool))).bind fun b=>if b then some x1 else((if x1.cU !=3 then some x1.Value else some (YA.mk 0 0):aB (YA))).bind fun c=>((if x1.cU !=4 then(dT1 x1.cV).bind fun d=>some d else some 0:aB (Int))).bind fun e=>some (YE.mk x1.ID x1.cU c [] [] e 0 x1.iL [] 0 0)
theorem pW1 {k} (d) (x1:YE):OD k (d+2) 128 [.agg (YE.g x1)]=(dU1 x1).map (fun c=>.agg (YE.g c)):=by
 refine oe rfl ?_;refine bo (e:=id) ?_ fun h=>?_;refine io rfl ?_;refine bo (iK1 d x1.cU) fun f=>?_;rfl;refine io rfl ?_;refine bo (e:=(fun(a:YA)=>(nq [(1,.ref 0 0),(2,.ref 1 0),(3,.ref 2 0)] [(2,.box [i64 x1.ID.iZ,i64 x1.ID.dW,i64 x1.cU,i64 a.Log,i64 a.qD,.v (.slice none 0 0),.v (.slice none 0 0),i64 0,i64 0,i64 x1.iL,.v (.slice none 0 0),i64 0,i64 0]),oX1,(0,.box (YE.g x1))]))) ?_ fun a=>?_;refine io rfl rfl;refine bo (e:=(fun(b:Int)=>(nq [(2,.ref 1 0),(3,.ref 2 0)] [(2,.box [i64 x1.ID.iZ,i64 x1.ID.dW,i64 x1.cU,i64 a.Log,i64 a.qD,.v (.slice none 0 0),.v (.slice none 0 0),i64 b,i64 0,i64 x1.iL,.v (.slice none 0 0),i64 0,i64 0]),oX1,(0,.box (YE.g x1))]))) ?_ fun b=>?_;refine io ?_ rfl;refine bo (pV1 d x1.cV) fun i=>?_;rfl;rfl
def dV1 (x1 d:aA YB):aB Bool:=
 if(x1.length:Int)!=(d.length:Int)then some false else(aX (E:=Unit⊕Unit) (fun(c:Int)=>if decide (c<(x1.length:Int))then(aV x1 c).bind fun a=>(aV d c).bind fun b=>if((a.eN.qC==b.eN.qC)&&((a.eN.oN==b.eN.oN)&&((a.eN.kU==b.eN.kU)&&((a.Tf==b.Tf)&&((a.aJ1==b.aJ1)&&true)))))!=true then some (.inr (.inl ()))else some (.inl (bD (c+1)))else some (.inr (.inr ()))) bK 0).bind fun e=>(match e with|.inl _=>some false|.inr _=>some true)
theorem pX1 {k} (d) (x1 a:aA YB):OD k (d+1) 172 [.is 5 (I YB.g x1),.is 5 (I YB.g a)]=(dV1 x1 a).map bv:=by
 refine oe rfl ?_;refine bz lm ?_;refine bz lm ?_;refine io rfl ?_;refine bz lm ?_;refine bo (aL (S:=Int) (enc:=fun b=>(Q [(0,.is 5 (I YB.g x1)),(1,.is 5 (I YB.g a)),(12,i64 (x1.length:Int)),(13,i64 b)] [])) (encE:=(fun|.inl _=>(rq [(4,bv false)] [])|.inr _=>(xq 0 [] []))) (fun b=>?_) bK 0) fun c=>?_;refine ig fun e=>?_;refine bo rg fun f=>?_;refine io rfl rfl;rcases c with _|_;rfl;rfl
def dW1 (x1 d:aA YD):aB Bool:=
 if(x1.length:Int)!=(d.length:Int)then some false else(aX (E:=Unit⊕Unit) (fun(c:Int)=>if decide (c<(x1.length:Int))then(aV x1 c).bind fun a=>(aV d c).bind fun b=>if((a.eN.qC==b.eN.qC)&&((a.eN.oN==b.eN.oN)&&((a.eN.kU==b.eN.kU)&&((a.Log==b.Log)&&((a.aK1==b.aK1)&&true)))))!=true then some (.inr (.inl ()))else some (.inl (bD (c+1)))else some (.inr (.inr ()))) bK 0).bind fun e=>(match e with|.inl _=>some false|.inr _=>some true)
theorem pY1 {k} (d) (x1 a:aA YD):OD k (d+1) 173 [.is 5 (I YD.g x1),.is 5 (I YD.g a)]=(dW1 x1 a).map bv:=by
 refine oe rfl ?_;refine bz lm ?_;refine bz lm ?_;refine io rfl ?_;refine bz lm ?_;refine bo (aL (S:=Int) (enc:=fun b=>(Q [(0,.is 5 (I YD.g x1)),(1,.is 5 (I YD.g a)),(12,i64 (x1.length:Int)),(13,i64 b)] [])) (encE:=(fun|.inl _=>(rq [(4,bv false)] [])|.inr _=>(xq 0 [] []))) (fun b=>?_) bK 0) fun c=>?_;refine ig fun e=>?_;refine bo rg fun f=>?_;refine io rfl rfl;rcases c with _|_;rfl;rfl
end Go.P
namespace Go.P
open Go.Sim (Ex eE CK)
open K (I Q rq nq xq ck)
def dX1 (x1 b:aA YY):aB Bool:=
 if(x1.length:Int)!=(b.length:Int)then some false else(aX (E:=Unit⊕Unit) (fun(a:Int)=>if decide (a<(x1.length:Int))then(aV x1 a).bind fun c=>(aV b a).bind fun d=>if((c.mR==d.mR)&&((c.xH==d.xH)&&true))!=true then some (.inr (.inl ()))else some (.inl (bD (a+1)))else some (.inr (.inr ()))) bK 0).bind fun e=>(match e with|.inl _=>some false|.inr _=>some true)
theorem pZ1 {k} (d) (x1 a:aA YY):OD k (d+1) 174 [.is 2 (I YY.g x1),.is 2 (I YY.g a)]=(dX1 x1 a).map bv:=by
 refine oe rfl ?_;refine bz lm ?_;refine bz lm ?_;refine io rfl ?_;refine bz lm ?_;refine bo (aL (S:=Int) (enc:=fun b=>(Q [(0,.is 2 (I YY.g x1)),(1,.is 2 (I YY.g a)),(12,i64 (x1.length:Int)),(13,i64 b)] [])) (encE:=(fun|.inl _=>(rq [(4,bv false)] [])|.inr _=>(xq 0 [] []))) (fun b=>?_) bK 0) fun c=>?_;refine ig fun e=>?_;refine bo rg fun f=>?_;refine io rfl rfl;rcases c with _|_;rfl;rfl
def dY1 (x1 a:YE):aB Bool:=
 ((if((((((x1.cU==a.cU)&&(((x1.Value.Log==a.Value.Log)&&((x1.Value.qD==a.Value.qD)&&true))!=false))&&(x1.cV==a.cV))&&(x1.iU==a.iU))&&(x1.iL==a.iL))&&(x1.Bs==a.Bs))&&(x1.Br==a.Br)then(dV1 x1.eR a.eR).bind fun b=>some b else some false:aB (Bool))).bind fun c=>((if c then(dW1 x1.fS a.fS).bind fun d=>some d else some false:aB (Bool))).bind fun e=>((if e then(dX1 x1.dA a.dA).bind fun f=>some f else some false:aB (Bool))).bind fun g=>some g
theorem qA1 {k} (d) (x1 a:YE):OD k (d+2) 127 [.agg (YE.g x1),.agg (YE.g a)]=(dY1 x1 a).map bv:=by
 refine oe rfl ?_;refine bz (gE rfl) ?_;refine bz (gE rfl) ?_;refine bz (gE rfl) ?_;refine bz (gE rfl) ?_;refine bz (gE rfl) ?_;refine bz (gE rfl) ?_;refine bo (e:=id) ?_ fun c=>?_;refine io ?_ rfl;refine bo (pX1 d x1.eR a.eR) fun b=>?_;rfl;refine bo (e:=id) ?_ fun h=>?_;refine io ?_ rfl;refine bo (pY1 d x1.fS a.fS) fun f=>?_;rfl;refine bo (e:=id) ?_ fun j=>?_;refine io ?_ rfl;refine bo (pZ1 d x1.dA a.dA) fun i=>?_;rfl;rfl
def Yg (x1:YA):aB Int:=
 if(((decide (x1.Log<(-1)))||(decide (x1.Log>8)))||(decide (x1.qD<0)))||(decide (x1.qD>3))then some 17 else some 0
theorem iL1 {k} (d) (x1:YA):OD k (d+1) 129 [.agg (YA.g x1)]=(Yg x1).map i64:=by
 refine oe rfl ?_;refine bz (fW rfl) ?_;refine bz (fW rfl) ?_;refine bz (fW rfl) ?_;refine io rfl rfl
def dZ1:aB Bb:=
 some (Bb.mk 0 2 4 5 7 9 11)
theorem qB1 {k} (d):OD k (d+1) 100 []=(dZ1).map (fun a=>.agg (Bb.g a)):=by
 refine oe rfl ?_;rfl
def F51 (x1:YH):aB Int:=
 (dZ1).bind fun a=>(aV [a.c0,a.c1,a.c2,a.c3,a.c4,a.c5,a.c6] x1.qC).bind fun b=>some (bD ((bD ((bD (12*(bD (x1.kU+1))))+b))+x1.oN))
theorem qD1 {k} (d) (x1:YH):OD k (d+2) 51 [.agg (YH.g x1)]=(F51 x1).map i64:=by
 refine oe rfl ?_;refine bo (qB1 d) fun a=>?_;refine bo (rY .i64 [a.c0,a.c1,a.c2,a.c3,a.c4,a.c5,a.c6] x1.qC rfl) fun b=>?_;rfl
def F50 (x1:YH):aB Int:=
 if(((((decide (x1.qC<0))||(decide (x1.qC>6)))||(decide (x1.oN<(-2))))||(decide (x1.oN>2)))||(decide (x1.kU<(-1))))||(decide (x1.kU>9))then some 18 else(F51 x1).bind fun a=>if(decide (a<0))||(decide (a>127))then some 18 else some 0
theorem cG2 {k} (d) (x1:YH):OD k (d+3) 50 [.agg (YH.g x1)]=(F50 x1).map i64:=by
 refine oe rfl ?_;refine bz (fW rfl) ?_;refine bz (fW rfl) ?_;refine bz (fW rfl) ?_;refine bz (fW rfl) ?_;refine bz (fW rfl) ?_;refine io rfl ?_;refine bo (qD1 d x1) fun a=>?_;refine bz (fW rfl) ?_;refine io rfl rfl
def F28 (x1:YH):aB (Int×Int):=
 (F50 x1).bind fun a=>if a !=0 then some (0,a)else(F51 x1).bind fun b=>some (b,0)
theorem qF1 {k} (d) (x1:YH):OD k (d+4) 28 [.agg (YH.g x1)]=(F28 x1).map (fun⟨a,b⟩=>.tup [i64 a,i64 b]):=by
 refine oe rfl ?_;refine bo (cG2 d x1) fun c=>?_;refine io rfl ?_;refine bo (qD1 (d+1) x1) fun e=>?_;rfl
def Sr (x1:YH):aB (Int×Int):=
 (F28 x1).bind fun⟨a,b⟩=>if((b !=0)||(decide (a<0)))||(decide (a>127))then some (0,18)else some (a,0)
theorem Yh {k} (d) (x1:YH):OD k (d+5) 177 [.agg (YH.g x1)]=(Sr x1).map (fun⟨a,b⟩=>.tup [i64 a,i64 b]):=by
 refine oe rfl ?_;refine bo (qF1 d x1) fun⟨c,e⟩=>?_;refine bz (fW rfl) ?_;refine bz (fW rfl) ?_;refine io rfl rfl
def eA1 (x1:YB):aB Int:=
 (Sr x1.eN).bind fun⟨d,a⟩=>(qR x1.aJ1 2).bind fun b=>(Kd [a,b]).bind fun c=>some c
theorem qG1 {k} (d) (x1:YB):OD k (d+6) 176 [.agg (YB.g x1)]=(eA1 x1).map i64:=by
 refine oe rfl ?_;refine bo (Yh d x1.eN) fun⟨c,a⟩=>?_;refine bo (nH (d+4) x1.aJ1 2) fun b=>?_;refine bo (Ke (d+4) [a,b]) fun e=>?_;rfl
def eB1 (x1:aA YB):aB Int:=
 if(x1.length:Int)==0 then some 4 else if decide ((x1.length:Int)>10)then some 9 else(aX (E:=Int⊕Unit) (fun(⟨g,c⟩:Int×Int)=>if decide (c<(x1.length:Int))then(aV x1 c).bind fun d=>(eA1 d).bind fun e=>if e !=0 then some (.inr (.inl e))else(Sr d.eN).bind fun⟨a,f⟩=>if decide (a<=g)then some (.inr (.inl 25))else some (.inl (a,(bD (c+1))))else some (.inr (.inr ()))) bK ((-1),0)).bind fun b=>(match b with|.inl x12=>some x12|.inr _=>some 0)
theorem qH1 {k} (d) (x1:aA YB):OD k (d+7) 130 [.is 5 (I YB.g x1)]=(eB1 x1).map i64:=by
 refine oe rfl ?_;refine bz lm ?_;refine io rfl ?_;refine bz lm ?_;refine io rfl ?_;refine bz lm ?_;refine bo (aL (S:=Int×Int) (enc:=fun⟨c,e⟩=>(Q [(3,i64 c),(17,.is 5 (I YB.g x1)),(18,i64 (x1.length:Int)),(19,i64 e)] [])) (encE:=(fun|.inl a=>(rq [(2,i64 a)] [])|.inr _=>(xq 1 [] []))) (fun⟨c,e⟩=>?_) bK ((-1),0)) fun b=>?_;refine ig fun f=>?_;refine bo (qG1 d f) fun j=>?_;refine io rfl ?_;refine bo (Yh (d+1) f.eN) fun⟨h,i⟩=>?_;refine io rfl rfl;rcases b with a|_;rfl;rfl
def eC1 (x1:aA YD):aB Int:=
 if decide ((x1.length:Int)>8)then some 9 else(aX (E:=Int⊕Unit) (fun(b:Int)=>if decide (b<(x1.length:Int))then(aV x1 b).bind fun c=>(Sr c.eN).bind fun⟨e,d⟩=>if d !=0 then some (.inr (.inl d))else if(decide (c.Log<1))||(decide (c.Log>6))then some (.inr (.inl 2))else some (.inl (bD (b+1)))else some (.inr (.inr ()))) bK 0).bind fun a=>(match a with|.inl x9=>some x9|.inr _=>some 0)
theorem qI1 {k} (d) (x1:aA YD):OD k (d+6) 131 [.is 5 (I YD.g x1)]=(eC1 x1).map i64:=by
 refine oe rfl ?_;refine bz lm ?_;refine io rfl ?_;refine bz lm ?_;refine bo (aL (S:=Int) (enc:=fun b=>(Q [(10,.is 5 (I YD.g x1)),(11,i64 (x1.length:Int)),(12,i64 b)] [])) (encE:=(fun|.inl c=>(rq [(2,i64 c)] [])|.inr _=>(xq 0 [] []))) (fun b=>?_) bK 0) fun a=>?_;refine ig fun e=>?_;refine bo (Yh d e.eN) fun⟨f,h⟩=>?_;refine io rfl ?_;refine bz (fW rfl) ?_;refine io rfl rfl;rcases a with c|_;rfl;rfl
def eD1 (x1:YY):aB Int:=
 if(decide (x1.xH<0))||(decide (x1.xH>2))then some 2 else if decide ((x1.mR.size:Int)>256)then some 5 else(aX (E:=Unit⊕Unit) (fun(a:Int)=>if decide (a<(x1.mR.size:Int))then(pI x1.mR a).bind fun b=>((if decide (b<32)then some true else(pI x1.mR a).bind fun c=>some (c==127):aB (Bool))).bind fun d=>if d then some (.inr (.inl ()))else some (.inl (bD (a+1)))else some (.inr (.inr ()))) bK 0).bind fun e=>(match e with|.inl _=>some 6|.inr _=>if(x1.mR.toList==(⟨#[]⟩:ByteArray).toList)&&(x1.xH==1)then some 3 else some 0)
theorem qJ1 {k} (d) (x1:YY):OD k (d+1) 178 [.agg (YY.g x1)]=(eD1 x1).map i64:=by
 refine oe rfl ?_;refine bz (fW rfl) ?_;refine io rfl ?_;refine io rfl ?_;refine bo (aL (S:=Int) (enc:=fun a=>(Q [(1,.ref 0 0),(20,i64 (x1.mR.size:Int)),(21,i64 a)] [(0,.box (YY.g x1))])) (encE:=(fun|.inl _=>(rq [(1,.ref 0 0),(2,i64 6)] [(0,.box (YY.g x1))])|.inr _=>(xq 1 [(1,.ref 0 0)] [(0,.box (YY.g x1))]))) (fun a=>?_) bK 0) fun b=>?_;refine io ?_ rfl;refine bo oi fun c=>?_;refine bo (e:=id) ?_ fun h=>?_;refine io rfl ?_;refine bo oi fun f=>?_;rfl;refine io rfl rfl;rcases b with _|_;rfl;refine bz (gE rfl) ?_;refine io rfl rfl
def eE1 (x1:YY):aB Bool:=
 some (((x1.mR==(⟨#[]⟩:ByteArray))&&((x1.xH==0)&&true))!=false)
theorem qK1 {k} (d) (x1:YY):OD k (d+1) 179 [.agg (YY.g x1)]=(eE1 x1).map bv:=by
 refine oe rfl ?_;rfl
def eF1 (x1:aA YY):aB Int:=
 if decide ((x1.length:Int)>4)then some 9 else(aX (E:=Int⊕Unit) (fun(c:Int)=>if decide (c<(x1.length:Int))then(aV x1 c).bind fun e=>(eD1 e).bind fun d=>if d !=0 then some (.inr (.inl d))else some (.inl (bD (c+1)))else some (.inr (.inr ()))) bK 0).bind fun f=>(match f with|.inl x7=>some x7|.inr _=>((if decide ((x1.length:Int)>0)then(aV x1 (bD ((x1.length:Int)-1))).bind fun g=>(eE1 g).bind fun a=>some a else some false:aB (Bool))).bind fun b=>if b then some 3 else some 0)
theorem qL1 {k} (d) (x1:aA YY):OD k (d+2) 132 [.is 2 (I YY.g x1)]=(eF1 x1).map i64:=by
 refine oe rfl ?_;refine bz lm ?_;refine io rfl ?_;refine bz lm ?_;refine bo (aL (S:=Int) (enc:=fun a=>(Q [(0,.is 2 (I YY.g x1)),(10,.is 2 (I YY.g x1)),(11,i64 (x1.length:Int)),(12,i64 a)] [])) (encE:=(fun|.inl b=>(rq [(0,.is 2 (I YY.g x1)),(2,i64 b)] [])|.inr _=>(xq 0 [(0,.is 2 (I YY.g x1))] []))) (fun a=>?_) bK 0) fun i=>?_;refine ig fun h=>?_;refine bo (qJ1 d h) fun l=>?_;refine io rfl rfl;rcases i with b|_;rfl;refine bz lm ?_;refine bo (e:=id) ?_ fun f=>?_;refine ig fun j=>?_;refine bo (qK1 d j) fun c=>?_;rfl;refine io rfl rfl
def F75 (x1:YE):aB Int:=
 (qR x1.ID.iZ 99).bind fun r=>(qR x1.ID.dW 1073741824).bind fun s=>(Kd [r,s]).bind fun q=>if q !=0 then some q else(Yf x1.cU).bind fun t=>if !t then some 11 else(dU1 x1).bind fun u=>(dY1 x1 u).bind fun v=>if !v then some 3 else((if x1.cU !=3 then(Yg x1.Value).bind fun w=>some (w !=0)else some false:aB (Bool))).bind fun x=>if x then some 17 else if x1.cU==1 then(eB1 x1.eR).bind fun b=>(eC1 x1.fS).bind fun c=>(eF1 x1.dA).bind fun d=>(Kd [b,c,d]).bind fun a=>if a !=0 then some a else(qR x1.cV 31).bind fun e=>(qR x1.iU 4).bind fun f=>(qR x1.iL 9).bind fun g=>(qR x1.Bs 2).bind fun h=>(qR x1.Br 2).bind fun i=>(Kd [e,f,g,h,i]).bind fun j=>some j else(qR x1.cV 31).bind fun k=>(qR x1.iU 4).bind fun l=>(qR x1.iL 9).bind fun m=>(qR x1.Bs 2).bind fun n=>(qR x1.Br 2).bind fun o=>(Kd [k,l,m,n,o]).bind fun p=>some p
theorem Ss {k} (d) (x1:YE):OD k (d+8) 75 [.agg (YE.g x1)]=(F75 x1).map i64:=by
 refine oe rfl ?_;refine bo (nH (d+6) x1.ID.iZ 99) fun t=>?_;refine bo (nH (d+6) x1.ID.dW 1073741824) fun v=>?_;refine bo (Ke (d+6) [t,v]) fun x=>?_;refine io rfl ?_;refine bo (iK1 (d+6) x1.cU) fun y=>?_;refine io rfl ?_;refine bo (pW1 (d+5) x1) fun w=>?_;refine bo (qA1 (d+5) x1 w) fun z=>?_;refine io rfl ?_;refine bo (e:=id) ?_ fun B=>?_;refine io ?_ rfl;refine bo (iL1 (d+6) x1.Value) fun A=>?_;rfl;refine io rfl ?_;refine io ?_ ?_;refine bo (qH1 d x1.eR) fun a=>?_;refine bo (qI1 (d+1) x1.fS) fun b=>?_;refine bo (qL1 (d+5) x1.dA) fun c=>?_;refine bo (Ke (d+6) [a,b,c]) fun r=>?_;refine io rfl ?_;refine bo (nH (d+6) x1.cV 31) fun f=>?_;refine bo (nH (d+6) x1.iU 4) fun h=>?_;refine bo (nH (d+6) x1.iL 9) fun i=>?_;refine bo (nH (d+6) x1.Bs 2) fun j=>?_;refine bo (nH (d+6) x1.Br 2) fun l=>?_;refine bo (Ke (d+6) [f,h,i,j,l]) fun s=>?_;rfl;refine bo (nH (d+6) x1.cV 31) fun m=>?_;refine bo (nH (d+6) x1.iU 4) fun n=>?_;refine bo (nH (d+6) x1.iL 9) fun o=>?_;refine bo (nH (d+6) x1.Bs 2) fun p=>?_;refine bo (nH (d+6) x1.Br 2) fun q=>?_;refine bo (Ke (d+6) [m,n,o,p,q]) fun u=>?_;rfl
def eH1 (x1:YE):aB Bool:=
 (F75 x1).bind fun a=>some (a !=0)
theorem qM1 {k} (d) (x1:YE):OD k (d+9) 117 [.agg (YE.g x1)]=(eH1 x1).map bv:=by
 refine oe rfl ?_;refine bo (Ss d x1) fun a=>?_;rfl
def eI1 (x1:aA YE):aB Int:=
 (aX (E:=Int⊕Unit) (fun(a:Int)=>if decide (a<(x1.length:Int))then(aV x1 a).bind fun b=>(eH1 b).bind fun c=>if c then some (.inr (.inl a))else some (.inl (bD (a+1)))else some (.inr (.inr ()))) bK 0).bind fun d=>(match d with|.inl x7=>some x7|.inr _=>some (-1))
theorem qN1 {k} (d) (x1:aA YE):OD k (d+10) 170 [.is 13 (I YE.g x1),.fn 117 [] []]=(eI1 x1).map i64:=by
 refine oe rfl ?_;refine bz lm ?_;refine bo (aL (S:=Int) (enc:=fun a=>(Q [(0,.is 13 (I YE.g x1)),(1,.fn 117 [] []),(7,i64 (x1.length:Int)),(8,i64 a)] [])) (encE:=(fun|.inl b=>(rq [(4,i64 b)] [])|.inr _=>(xq 0 [] []))) (fun a=>?_) bK 0) fun e=>?_;refine ig fun c=>?_;refine bo (qM1 d c) fun f=>?_;refine io rfl rfl;rcases e with b|_;rfl;rfl
def Yi (x1:aA YE):aB Bool:=
 (eI1 x1).bind fun a=>some (decide (a>=0))
theorem iM1 {k} (d) (x1:aA YE):OD k (d+11) 122 [.is 13 (I YE.g x1),.fn 117 [] []]=(Yi x1).map bv:=by
 refine oe rfl ?_;refine bo (qN1 d x1) fun a=>?_;rfl
def eJ1 (x1:YO):aB Bool:=
 ((if decide ((x1.aU.length:Int)>0)then(aV x1.aU 0).bind fun a=>some (a.cU==3)else some false:aB (Bool))).bind fun b=>some b
theorem qO1 {k} (d) (x1:YO):OD k (d+1) 211 [.agg (YO.g x1)]=(eJ1 x1).map bv:=by
 refine oe rfl ?_;refine bz lm ?_;refine bo (e:=id) ?_ fun b=>?_;refine ig fun a=>?_;rfl;rfl
def eK1 (x1:YA):aB Int:=
 (Mo .i64 3870720 (bD (x1.Log+1))).bind fun a=>(aX (E:=Int) (fun(⟨e,b,c⟩:Int×Int×Int)=>if decide (c<x1.qD)then(Mp .i64 e 2).bind fun d=>some (.inl (d,(bD (b+d)),(bD (c+1))))else some (.inr b)) bK (a,a,0)).bind fun f=>some f
theorem qP1 {k} (d) (x1:YA):OD k (d+1) 241 [.agg (YA.g x1)]=(eK1 x1).map i64:=by
 refine oe rfl ?_;refine bo oi fun a=>?_;refine bo (aL (S:=Int×Int×Int) (enc:=fun⟨b,c,e⟩=>(Q [(3,i64 b),(4,i64 c),(11,i64 x1.qD),(12,i64 e)] [(0,.box (YA.g x1))])) (encE:=(fun(f:Int)=>(xq 0 [(4,i64 f)] [(0,.box (YA.g x1))]))) (fun⟨b,c,e⟩=>?_) bK (a,a,0)) fun f=>?_;refine io ?_ rfl;refine bo oi fun h=>?_;rfl;rfl
def eL1 (x1:YA):aB (Int×Int):=
 (Yg x1).bind fun a=>if a !=0 then some (0,a)else(eK1 x1).bind fun b=>some (b,0)
theorem qQ1 {k} (d) (x1:YA):OD k (d+2) 235 [.agg (YA.g x1)]=(eL1 x1).map (fun⟨a,b⟩=>.tup [i64 a,i64 b]):=by
 refine oe rfl ?_;refine bo (iL1 d x1) fun c=>?_;refine io rfl ?_;refine bo (qP1 d x1) fun e=>?_;rfl
def eM1 (x1:YE):aB (Int×Int):=
 (F75 x1).bind fun a=>if(a !=0)||(x1.cU==3)then some (0,a)else(eL1 x1.Value).bind fun⟨b,c⟩=>some (b,c)
theorem qR1 {k} (d) (x1:YE):OD k (d+9) 230 [.agg (YE.g x1)]=(eM1 x1).map (fun⟨a,b⟩=>.tup [i64 a,i64 b]):=by
 refine oe rfl ?_;refine bo (Ss d x1) fun c=>?_;refine bz (fW rfl) ?_;refine io rfl ?_;refine bo (qQ1 (d+6) x1.Value) fun⟨e,f⟩=>?_;rfl
def eN1 (x1:aA YE):aB (aA Int):=
 (rB (x1.length:Int) (x1.length:Int) 0).bind fun j=>(aX (E:=aA Int) (fun(⟨b,a⟩:Int×(aA Int))=>if decide (b<(x1.length:Int))then(aV x1 b).bind fun c=>(eM1 c).bind fun⟨d,h⟩=>(fK a b).bind fun e=>(Fc a e (fun i=>d)).bind fun f=>some (.inl ((bD (b+1)),f))else some (.inr a)) bK (0,j)).bind fun g=>some g
theorem qS1 {k} (d) (x1:aA YE):OD k (d+10) 222 [.is 13 (I YE.g x1)]=(eN1 x1).map (fun q=>.is 1 (I cI q)):=by
 refine oe rfl ?_;refine bz lm ?_;refine bo (jQ cI _ _ 0) fun p=>?_;refine bz lm ?_;refine bo (aL (S:=Int×(aA Int)) (enc:=fun⟨i,a⟩=>(Q [(3,.own 0),(9,.is 13 (I YE.g x1)),(10,i64 (x1.length:Int)),(11,i64 i)] [(0,.lst 3 1 true (I cI a))])) (encE:=(fun(b:aA Int)=>(xq 0 [(3,.own 0)] [(0,.lst 3 1 true (I cI b))]))) (fun⟨i,a⟩=>?_) bK (0,p)) fun b=>?_;refine ig fun e=>?_;refine bo (qR1 d e) fun⟨h,j⟩=>?_;refine bo (bU cI a _) fun l=>?_;refine bo (vU (A:=Int) (c:=cI) (m:=1) (f:=fun n=>h) (fun _=>⟨rfl,rfl⟩) (oO2 rfl) a _) fun o=>?_;rfl;rfl
def Yj (x1:Int):aB Bool:=
 some ((decide (x1>=1))&&(decide (x1<=32)))
theorem iN1 {k} (d) (x1:Int):OD k (d+1) 238 [i64 x1]=(Yj x1).map bv:=by
 refine oe rfl ?_;refine bz (gE rfl) ?_;rfl
def eO1 (x1 a:YU):aB Int:=
 if x1.iV !=a.iV then if decide (x1.iV<a.iV)then some (-1)else some 1 else if x1.gC !=a.gC then if decide (x1.gC>a.gC)then some (-1)else some 1 else some 0
theorem qT1 {k} (d) (x1 a:YU):OD k (d+1) 239 [.agg (YU.g x1),.agg (YU.g a)]=(eO1 x1 a).map i64:=by
 refine oe rfl ?_;refine io ?_ ?_;refine io rfl rfl;refine io ?_ rfl;refine io rfl rfl
def Mv (x1:YU):aB Int:=
 some (bD (x1.iV+x1.gC))
theorem Qa {k} (d) (x1:YU):OD k (d+1) 237 [.agg (YU.g x1)]=(Mv x1).map i64:=by
 refine oe rfl ?_;rfl
def Qb (x1:YU) (n:aA YU):aB (Bool×(aA YU)):=
 (aX (E:=aA YU) (fun(b:aA YU)=>((if decide ((b.length:Int)>0)then(fK b (bD ((b.length:Int)-1))).bind fun o=>(gQ b o).bind fun c=>(Mv c).bind fun d=>some (decide (d<=x1.iV))else some false:aB (Bool))).bind fun e=>if e then(pU b (bD ((b.length:Int)-1))).bind fun f=>some (.inl f)else some (.inr b)) bK n).bind fun a=>((if(a.length:Int)==3 then some true else((if decide ((a.length:Int)>0)then(Mv x1).bind fun g=>(fK a (bD ((a.length:Int)-1))).bind fun h=>(gQ a h).bind fun i=>(Mv i).bind fun j=>some (decide (g>j))else some false:aB (Bool))).bind fun k=>some k:aB (Bool))).bind fun l=>if l then some (false,a)else(qQ true a [x1]).bind fun m=>some (true,m)
theorem lJ1 {k} (d) (x1:YU) (i:aA YU):fU (XD k (d+2)) 236 [.agg (YU.g x1),.ref 0 0] [(1,.lst 294 4 true (I YU.g i)),(0,.box [.own 1])] 2 false=(Qb x1 i).map (fun(⟨j,l⟩:Bool×(aA YU))=>((bv j,[(1,.lst 294 4 true (I YU.g l)),(0,.box [.own 1])],0))):=by
 rw[xd (fn:=oV1) rfl];refine bo (aL (S:=aA YU) (enc:=fun h=>(Q [(1,.ref 0 0),(2,.ref 2 0)] [(2,.box (YU.g x1)),(1,.lst 294 4 true (I YU.g h)),(0,.box [.own 1])])) (encE:=(fun(b:aA YU)=>(xq 0 [(1,.ref 0 0),(2,.ref 2 0)] [(2,.box (YU.g x1)),(1,.lst 294 4 true (I YU.g b)),(0,.box [.own 1])]))) (fun h=>?_) bK i) fun b=>?_;refine bz (dD YU.g h) ?_;refine bo (e:=id) ?_ fun o=>?_;refine io ?_ rfl;refine bz (dD YU.g h) ?_;refine bo (bU YU.g h _) fun w=>?_;refine bo (lW (A:=YU) (c:=YU.g) (m:=4) (g:=fun a=>[i64 a.iV,i64 a.gC,i64 a.fO,i64 a.gO]) (fun _=>⟨rfl,rfl⟩) (oO2 rfl) h _) fun a=>?_;refine bo (Qa d a) fun n=>?_;rfl;refine io ?_ rfl;refine bz (dD YU.g h) ?_;refine bo (rA YU.g h (bD ((h.length:Int)-1))) fun p=>?_;rfl;refine bz (dD YU.g b) ?_;refine bo (e:=id) ?_ fun u=>?_;refine io rfl ?_;refine bo (e:=id) ?_ fun t=>?_;refine io ?_ rfl;refine bo (Qa d x1) fun q=>?_;refine bo (bU YU.g b _) fun r=>?_;refine bo (lW (A:=YU) (c:=YU.g) (m:=4) (g:=fun f=>[i64 f.iV,i64 f.gC,i64 f.fO,i64 f.gO]) (fun _=>⟨rfl,rfl⟩) (oO2 rfl) b _) fun f=>?_;refine bo (Qa d f) fun s=>?_;rfl;rfl;refine io rfl ?_;refine bo (dT true YU.g b [x1]) fun v=>?_;rfl
def eP1 (x1:aA YU) (e:Int):aB Int:=
 if(decide (e<0))||(decide (e>128))then some 2 else if decide ((x1.length:Int)>16)then some 9 else(aX (E:=(Int×(aA YU))⊕(aA YU)) (fun(⟨b,c⟩:Int×(aA YU))=>if decide (b<(x1.length:Int))then(aV x1 b).bind fun a=>((if(((decide (a.gC<1))||(decide (a.gC>e)))||(decide (a.iV<0)))||(decide (a.iV>(bD (e-a.gC))))then some true else(Yj a.fO).bind fun f=>some (!f):aB (Bool))).bind fun g=>((if g then some true else(Yj a.gO).bind fun h=>some (!h):aB (Bool))).bind fun i=>if i||(a.fO==a.gO)then some (.inr (.inl (2,c)))else((if decide (b>0)then(aV x1 (bD (b-1))).bind fun j=>(eO1 j a).bind fun k=>some (decide (k>0))else some false:aB (Bool))).bind fun l=>if l then some (.inr (.inl (25,c)))else(Qb a c).bind fun⟨m,d⟩=>if !m then some (.inr (.inl (21,d)))else some (.inl ((bD (b+1)),d))else some (.inr (.inr c))) bK (0,[])).bind fun n=>(match n with|.inl ⟨x25,x26⟩=>some x25|.inr x27=>some 0)
theorem qU1 {k} (d) (x1:aA YU) (i:Int):OD k (d+3) 231 [.is 4 (I YU.g x1),i64 i]=(eP1 x1 i).map i64:=by
 refine oe rfl ?_;refine bz (fW rfl) ?_;refine io rfl ?_;refine bz lm ?_;refine io rfl ?_;refine bz lm ?_;refine bo (aL (S:=Int×(aA YU)) (enc:=fun⟨c,b⟩=>(Q [(0,.is 4 (I YU.g x1)),(1,i64 i),(6,.fn 236 [] [.ref 0 0]),(19,.is 4 (I YU.g x1)),(20,i64 (x1.length:Int)),(21,i64 c)] [(1,.lst 294 4 true (I YU.g b)),(0,.box [.own 1])])) (encE:=(fun|.inl ⟨f,h⟩=>(rq [(4,i64 f)] [(1,.lst 294 4 true (I YU.g h)),(0,.box [.own 1])])|.inr x27=>(xq 0 [] [(1,.lst 294 4 true (I YU.g x27)),(0,.box [.own 1])]))) (fun⟨c,b⟩=>?_) bK (0,[])) fun l=>?_;refine ig fun a=>?_;refine bz (fW rfl) ?_;refine bz (fW rfl) ?_;refine bz (fW rfl) ?_;refine bo (e:=id) ?_ fun n=>?_;refine io rfl ?_;refine bo (iN1 (d+1) a.fO) fun m=>?_;rfl;refine bo (e:=id) ?_ fun p=>?_;refine io rfl ?_;refine bo (iN1 (d+1) a.gO) fun o=>?_;rfl;refine bz (fW rfl) ?_;refine io rfl ?_;refine bo (e:=id) ?_ fun r=>?_;refine ig fun j=>?_;refine bo (qT1 (d+1) j a) fun q=>?_;rfl;refine io rfl ?_;refine bo (lJ1 d a b) fun⟨s,t⟩=>?_;refine io rfl rfl;rcases l with⟨f,h⟩|x27;rfl;rfl
def eQ1 (x1:YU) (a:Int):aB Bool:=
 some ((decide (a>=x1.iV))&&(decide ((bD (a-x1.iV))<x1.gC)))
theorem qV1 {k} (d) (x1:YU) (a:Int):OD k (d+1) 242 [.agg (YU.g x1),i64 a]=(eQ1 x1 a).map bv:=by
 refine oe rfl ?_;refine bz (gE rfl) ?_;rfl
def eR1 (x1 c:Int):aB Int:=
 (aX (E:=Int) (fun(⟨b,a⟩:Int×Int)=>if decide (a>0)then(Xq .i64 b a).bind fun d=>some (.inl (a,d))else some (.inr b)) bK (x1,c)).bind fun e=>some e
theorem qW1 {k} (d) (x1 a:Int):OD k (d+1) 243 [i64 x1,i64 a]=(eR1 x1 a).map i64:=by
 refine oe rfl ?_;refine bo (aL (S:=Int×Int) (enc:=fun⟨b,c⟩=>(Q [(0,i64 b),(1,i64 c)] [])) (encE:=(fun(e:Int)=>(xq 0 [(0,i64 e)] []))) (fun⟨b,c⟩=>?_) bK (x1,a)) fun e=>?_;refine io ?_ rfl;refine bo oi fun f=>?_;rfl;rfl
def eS1 (x1:aA YU) (m:Int):aB (Int×Int):=
 (aX (E:=Int×Int) (fun(⟨b,c,d⟩:Int×Int×Int)=>if decide (d<(x1.length:Int))then(aV x1 d).bind fun a=>(eQ1 a m).bind fun f=>((if f then(eR1 (bD (b*a.gO)) (bD (c*a.fO))).bind fun e=>(Mp .i64 (bD (b*a.gO)) e).bind fun g=>(Mp .i64 (bD (c*a.fO)) e).bind fun h=>some (g,h)else some (b,c):aB (Int×Int))).bind fun⟨i,j⟩=>some (.inl (i,j,(bD (d+1))))else some (.inr (b,c))) bK (1,1,0)).bind fun⟨k,l⟩=>some (k,l)
theorem qX1 {k} (d) (x1:aA YU) (j:Int):OD k (d+2) 240 [.is 4 (I YU.g x1),i64 j]=(eS1 x1 j).map (fun⟨r,s⟩=>.tup [i64 r,i64 s]):=by
 refine oe rfl ?_;refine bz lm ?_;refine bo (aL (S:=Int×Int×Int) (enc:=fun⟨b,c,f⟩=>(Q [(1,i64 j),(4,i64 b),(5,i64 c),(9,.is 4 (I YU.g x1)),(10,i64 (x1.length:Int)),(11,i64 f)] [])) (encE:=(fun(⟨l,m⟩:Int×Int)=>(xq 0 [(4,i64 l),(5,i64 m)] []))) (fun⟨b,c,f⟩=>?_) bK (1,1,0)) fun⟨l,m⟩=>?_;refine ig fun a=>?_;refine bo (qV1 d a j) fun n=>?_;refine bo (e:=(fun(⟨h,i⟩:Int×Int)=>(nq [(1,i64 j),(4,i64 h),(5,i64 i),(9,.is 4 (I YU.g x1)),(10,i64 (x1.length:Int)),(11,i64 f)] [(0,.box (YU.g a))]))) ?_ fun⟨h,i⟩=>?_;refine io ?_ rfl;refine bo (qW1 d (bD (b*a.gO)) (bD (c*a.fO))) fun o=>?_;refine bo oi fun p=>?_;refine bo oi fun q=>?_;rfl;rfl;rfl
def Yk (x1:aA YU) (d a:Int):aB (Int×Int):=
 if(decide (a<0))||(decide (a>7741440))then some (0,2)else(eS1 x1 d).bind fun⟨b,c⟩=>(Xq .i64 (bD (a*b)) c).bind fun e=>if e !=0 then some (0,16)else(Mp .i64 (bD (a*b)) c).bind fun f=>some (f,0)
theorem iO1 {k} (d) (x1:aA YU) (a b:Int):OD k (d+3) 232 [.is 4 (I YU.g x1),i64 a,i64 b]=(Yk x1 a b).map (fun⟨c,e⟩=>.tup [i64 c,i64 e]):=by
 refine oe rfl ?_;refine bz (fW rfl) ?_;refine io rfl ?_;refine bo (qX1 d x1 a) fun⟨f,h⟩=>?_;refine bo oi fun i=>?_;refine io rfl ?_;refine bo oi fun j=>?_;rfl
def Yl (x1:aA YU) (c:aA Int):aB ((aA Int)×Int):=
 (eP1 x1 (c.length:Int)).bind fun i=>if i !=0 then some ([],i)else(rB 0 (c.length:Int) 0).bind fun j=>(aX (E:=(Int×(aA Int))⊕(aA Int)) (fun(⟨d,a⟩:Int×(aA Int))=>if decide (d<(c.length:Int))then(aV c d).bind fun e=>(Yk x1 d e).bind fun⟨f,b⟩=>if b !=0 then some (.inr (.inl (b,a)))else(qQ true a [f]).bind fun g=>some (.inl ((bD (d+1)),g))else some (.inr (.inr a))) bK (0,j)).bind fun h=>(match h with|.inl ⟨x15,x16⟩=>some ([],x15)|.inr x17=>some (x17,0))
theorem iP1 {k} (d) (x1:aA YU) (e:aA Int):OD k (d+4) 223 [.is 4 (I YU.g x1),.is 1 (I cI e)]=(Yl x1 e).map (fun⟨o,p⟩=>.tup [.is 1 (I cI o),i64 p]):=by
 refine oe rfl ?_;refine bz lm ?_;refine bo (qU1 d x1 (e.length:Int)) fun q=>?_;refine io rfl ?_;refine bz lm ?_;refine bo (jQ cI _ _ 0) fun n=>?_;refine bz lm ?_;refine bo (aL (S:=Int×(aA Int)) (enc:=fun⟨j,a⟩=>(Q [(0,.is 4 (I YU.g x1)),(7,.own 0),(22,.is 1 (I cI e)),(23,i64 (e.length:Int)),(24,i64 j)] [(0,.lst 3 1 true (I cI a))])) (encE:=(fun|.inl ⟨b,c⟩=>(rq [(4,.is 1 (I cI [])),(5,i64 b),(7,.own 0)] [(0,.lst 3 1 true (I cI c))])|.inr x17=>(xq 0 [(7,.own 0)] [(0,.lst 3 1 true (I cI x17))]))) (fun⟨j,a⟩=>?_) bK (0,n)) fun i=>?_;refine ig fun f=>?_;refine bo (iO1 d x1 j f) fun⟨h,l⟩=>?_;refine io rfl ?_;refine bo (dT true cI a [h]) fun m=>?_;rfl;rcases i with⟨b,c⟩|x17;rfl;rfl
def eT1 (x1:aA YU) (m:Int) (n:aA Int):aB (Int×Bool):=
 (aV x1 m).bind fun l=>(aX (E:=Int⊕Int) (fun(⟨c,a⟩:Int×Int)=>(Mv l).bind fun d=>if decide (a<d)then(rX x1 (bD (m+1)) ((x1).length)).bind fun e=>(aV n a).bind fun f=>(Yk e a f).bind fun⟨g,h⟩=>if h !=0 then some (.inr (.inl c))else some (.inl ((bD (c+g)),(bD (a+1))))else some (.inr (.inr c))) bK (0,l.iV)).bind fun i=>(match i with|.inl x17=>some (0,false)|.inr x18=>(aX (E:=Int⊕Unit) (fun(b:Int)=>if decide (b<=8)then(Mo .i64 3870720 (bD (b+1))).bind fun j=>if x18==(bD (l.fO*j))then some (.inr (.inl b))else some (.inl (bD (b+1)))else some (.inr (.inr ()))) bK (-1)).bind fun k=>(match k with|.inl x23=>some (x23,true)|.inr _=>some (0,false)))
theorem qY1 {k} (d) (x1:aA YU) (m:Int) (o:aA Int):OD k (d+4) 233 [.is 4 (I YU.g x1),i64 m,.is 1 (I cI o)]=(eT1 x1 m o).map (fun⟨t,u⟩=>.tup [i64 t,bv u]):=by
 refine oe rfl ?_;refine bo rg fun a=>?_;refine bo (aL (S:=Int×Int) (enc:=fun⟨c,b⟩=>(Q [(0,.is 4 (I YU.g x1)),(1,i64 m),(2,.is 1 (I cI o)),(8,.ref 0 0),(9,i64 c),(10,i64 b)] [(0,.box (YU.g a))])) (encE:=(fun|.inl e=>(rq [(6,i64 0),(7,bv false),(8,.ref 0 0),(9,i64 e)] [(0,.box (YU.g a))])|.inr x18=>(xq 0 [(8,.ref 0 0),(9,i64 x18)] [(0,.box (YU.g a))]))) (fun⟨c,b⟩=>?_) bK (0,a.iV)) fun l=>?_;refine bo (Qa (d+2) a) fun p=>?_;refine io ?_ rfl;refine bo (Bo _ _ _) fun i=>?_;refine bo rg fun j=>?_;refine bo (iO1 d i b j) fun⟨q,r⟩=>?_;refine io rfl rfl;rcases l with e|x18;rfl;refine bo (aL (S:=Int) (enc:=fun f=>(Q [(8,.ref 0 0),(9,i64 x18),(13,i64 f)] [(0,.box (YU.g a))])) (encE:=(fun|.inl h=>(rq [(6,i64 h),(7,bv true)] [(0,.box (YU.g a))])|.inr _=>(xq 2 [] [(0,.box (YU.g a))]))) (fun f=>?_) bK (-1)) fun n=>?_;refine io ?_ rfl;refine bo oi fun s=>?_;refine io rfl rfl;rcases n with h|_;rfl;rfl
def eU1 (x1:aA YU) (g:aA Int):aB ((aA Int)×Int):=
 (Yl x1 g).bind fun⟨j,h⟩=>if h !=0 then some ([],h)else(rB 0 (x1.length:Int) 0).bind fun i=>(aX (E:=(aA Int)⊕(aA Int)) (fun(⟨f,a⟩:Int×(aA Int))=>if decide (f<(x1.length:Int))then(eT1 x1 f g).bind fun⟨b,c⟩=>if !c then some (.inr (.inl a))else(qQ true a [b]).bind fun d=>some (.inl ((bD (f+1)),d))else some (.inr (.inr a))) bK (0,i)).bind fun e=>(match e with|.inl x14=>some ([],21)|.inr x15=>some (x15,0))
theorem qZ1 {k} (d) (x1:aA YU) (c:aA Int):OD k (d+5) 224 [.is 4 (I YU.g x1),.is 1 (I cI c)]=(eU1 x1 c).map (fun⟨m,n⟩=>.tup [.is 1 (I cI m),i64 n]):=by
 refine oe rfl ?_;refine bo (iP1 d x1 c) fun⟨o,p⟩=>?_;refine io rfl ?_;refine bz lm ?_;refine bo (jQ cI _ _ 0) fun l=>?_;refine bz lm ?_;refine bo (aL (S:=Int×(aA Int)) (enc:=fun⟨h,a⟩=>(Q [(0,.is 4 (I YU.g x1)),(1,.is 1 (I cI c)),(8,.own 0),(25,i64 (x1.length:Int)),(26,i64 h)] [(0,.lst 3 1 true (I cI a))])) (encE:=(fun|.inl b=>(rq [(4,.is 1 (I cI [])),(5,i64 21),(8,.own 0)] [(0,.lst 3 1 true (I cI b))])|.inr x15=>(xq 0 [(8,.own 0)] [(0,.lst 3 1 true (I cI x15))]))) (fun⟨h,a⟩=>?_) bK (0,l)) fun f=>?_;refine io ?_ rfl;refine bo (qY1 d x1 h c) fun⟨e,i⟩=>?_;refine io rfl ?_;refine bo (dT true cI a [e]) fun j=>?_;rfl;rcases f with b|x15;rfl;rfl
def eV1 (x1:YO):aB ((aA Int)×Int):=
 (aX (E:=Int⊕Unit) (fun(b:Int)=>if decide (b<(x1.aU.length:Int))then(aV x1.aU b).bind fun e=>(F75 e).bind fun f=>if f !=0 then some (.inr (.inl f))else if(e.cU==3)&&((decide (b>0))||(decide ((x1.aU.length:Int)>1)))then some (.inr (.inl 11))else some (.inl (bD (b+1)))else some (.inr (.inr ()))) bK 0).bind fun i=>(match i with|.inl x7=>some ([],x7)|.inr _=>(eN1 x1.aU).bind fun g=>(Yl x1.gN g).bind fun⟨c,a⟩=>if a !=0 then some ([],a)else(eU1 x1.gN g).bind fun⟨h,d⟩=>if d !=0 then some ([],21)else some (c,0))
theorem rA1 {k} (d) (x1:YO):OD k (d+11) 212 [.agg (YO.g x1)]=(eV1 x1).map (fun⟨m,n⟩=>.tup [.is 1 (I cI m),i64 n]):=by
 refine oe rfl ?_;refine bz lm ?_;refine bo (aL (S:=Int) (enc:=fun a=>(Q [(1,.ref 0 0),(13,.is 13 (I YE.g x1.aU)),(14,i64 (x1.aU.length:Int)),(15,i64 a)] [(0,.box (YO.g x1))])) (encE:=(fun|.inl b=>(rq [(1,.ref 0 0),(2,.is 1 (I cI [])),(3,i64 b)] [(0,.box (YO.g x1))])|.inr _=>(xq 0 [(1,.ref 0 0)] [(0,.box (YO.g x1))]))) (fun a=>?_) bK 0) fun l=>?_;refine ig fun j=>?_;refine bo (Ss (d+2) j) fun o=>?_;refine io rfl ?_;refine bz (gE (bz (fW (bz lm rfl)) rfl)) ?_;refine io rfl rfl;rcases l with b|_;rfl;refine bo (qS1 d x1.aU) fun c=>?_;refine bo (iP1 (d+6) x1.gN c) fun⟨e,f⟩=>?_;refine io rfl ?_;refine bo (qZ1 (d+5) x1.gN c) fun⟨h,i⟩=>?_;refine io rfl rfl
def eW1 (x1:YO) (a:Int):aB ((aA Int)×Int):=
 if(decide (a<1))||(decide (a>15482880))then some ([],2)else if decide ((x1.aU.length:Int)>128)then some ([],9)else(eJ1 x1).bind fun c=>if c&&((x1.aU.length:Int)==1)then(aV x1.aU 0).bind fun d=>(F75 d).bind fun b=>if b !=0 then some ([],b)else if decide ((x1.gN.length:Int)>0)then some ([],21)else some ([a],0)else(eV1 x1).bind fun⟨e,f⟩=>some (e,f)
theorem rB1 {k} (d) (x1:YO) (a:Int):OD k (d+12) 200 [.agg (YO.g x1),i64 a]=(eW1 x1 a).map (fun⟨c,e⟩=>.tup [.is 1 (I cI c),i64 e]):=by
 refine oe rfl ?_;refine bz (fW rfl) ?_;refine io rfl ?_;refine bz lm ?_;refine io rfl ?_;refine bo (qO1 (d+10) x1) fun f=>?_;refine bz (gE (bz lm rfl)) ?_;refine io ?_ ?_;refine bo rg fun b=>?_;refine bo (Ss (d+3) b) fun h=>?_;refine io rfl ?_;refine bz lm ?_;refine io rfl rfl;refine bo (rA1 d x1) fun⟨i,j⟩=>?_;rfl
def eX1 (x1:aA Int):aB Int:=
 (aX (E:=Int) (fun(⟨b,a⟩:Int×Int)=>if decide (a<(x1.length:Int))then(aV x1 a).bind fun c=>some (.inl ((bD (b+c)),(bD (a+1))))else some (.inr b)) bK (0,0)).bind fun d=>some d
theorem rC1 {k} (d) (x1:aA Int):OD k (d+1) 201 [.is 1 (I cI x1)]=(eX1 x1).map i64:=by
 refine oe rfl ?_;refine bz lm ?_;refine bo (aL (S:=Int×Int) (enc:=fun⟨a,b⟩=>(Q [(3,i64 a),(6,.is 1 (I cI x1)),(7,i64 (x1.length:Int)),(8,i64 b)] [])) (encE:=(fun(c:Int)=>(xq 0 [(3,i64 c)] []))) (fun⟨a,b⟩=>?_) bK (0,0)) fun c=>?_;refine ig fun e=>?_;rfl;rfl
def Ym (x1:YO) (b:Int):aB ((aA Int)×Int):=
 (eW1 x1 b).bind fun⟨a,c⟩=>((if(c==0)&&(decide ((a.length:Int)>0))then(eX1 a).bind fun e=>some (e !=b)else some false:aB (Bool))).bind fun f=>((if f then some 20 else some c:aB (Int))).bind fun d=>if d !=0 then some ([],d)else some (a,0)
theorem iQ1 {k} (d) (x1:YO) (a:Int):OD k (d+13) 171 [.agg (YO.g x1),i64 a]=(Ym x1 a).map (fun⟨f,h⟩=>.tup [.is 1 (I cI f),i64 h]):=by
 refine oe rfl ?_;refine bo (rB1 d x1 a) fun⟨b,i⟩=>?_;refine bz (gE (bz lm rfl)) ?_;refine bo (e:=id) ?_ fun l=>?_;refine io ?_ rfl;refine bo (rC1 (d+11) b) fun j=>?_;rfl;refine bo (e:=(fun(c:Int)=>(nq [(6,.is 1 (I cI b)),(7,i64 c)] [(0,.box (YO.g x1))]))) ?_ fun c=>?_;refine io rfl rfl;refine io rfl rfl
def Yn (x1:YO) (a:Int):aB Int:=
 (Ym x1 a).bind fun⟨c,b⟩=>some b
theorem iR1 {k} (d) (x1:YO) (a:Int):OD k (d+14) 123 [.agg (YO.g x1),i64 a]=(Yn x1 a).map i64:=by
 refine oe rfl ?_;refine bo (iQ1 d x1 a) fun⟨b,c⟩=>?_;rfl
def F71 (x1:Int):aB Bool:=
 some ((x1==11)||(x1==20))
theorem rE1 {k} (d) (x1:Int):OD k (d+1) 71 [i64 x1]=(F71 x1).map bv:=by
 refine oe rfl ?_;refine bz (fW rfl) ?_;rfl
def eY1 (x1:YO) (a:Int):aB Bool:=
 (Yi x1.aU).bind fun b=>((if !b then(Yn x1 a).bind fun c=>(F71 c).bind fun d=>some d else some false:aB (Bool))).bind fun e=>some e
theorem rF1 {k} (d) (x1:YO) (a:Int):OD k (d+15) 121 [.agg (YO.g x1),.ip [.fn 117 [] []],.ip [.fn 71 [] []],.ip [i64 a]]=(eY1 x1 a).map bv:=by
 refine oe rfl ?_;refine bo (iM1 (d+3) x1.aU) fun c=>?_;refine bo (e:=id) ?_ fun h=>?_;refine io ?_ rfl;refine bo (iR1 d x1 a) fun b=>?_;refine bo (rE1 (d+13) b) fun f=>?_;rfl;rfl
def eZ1 (x1:aA YO) (b:Int):aB Int:=
 (aX (E:=Int⊕Unit) (fun(a:Int)=>if decide (a<(x1.length:Int))then(aV x1 a).bind fun c=>(eY1 c b).bind fun d=>if d then some (.inr (.inl a))else some (.inl (bD (a+1)))else some (.inr (.inr ()))) bK 0).bind fun e=>(match e with|.inl x8=>some x8|.inr _=>some (-1))
theorem rG1 {k} (d) (x1:aA YO) (a:Int):OD k (d+16) 169 [.is 2 (I YO.g x1),.fn 121 [] [.ip [.fn 117 [] []],.ip [.fn 71 [] []],.ip [i64 a]]]=(eZ1 x1 a).map i64:=by
 refine oe rfl ?_;refine bz lm ?_;refine bo (aL (S:=Int) (enc:=fun b=>(Q [(0,.is 2 (I YO.g x1)),(1,.fn 121 [] [.ip [.fn 117 [] []],.ip [.fn 71 [] []],.ip [i64 a]]),(7,i64 (x1.length:Int)),(8,i64 b)] [])) (encE:=(fun|.inl c=>(rq [(4,i64 c)] [])|.inr _=>(xq 0 [] []))) (fun b=>?_) bK 0) fun f=>?_;refine ig fun e=>?_;refine bo (rF1 d e a) fun h=>?_;refine io rfl rfl;rcases f with c|_;rfl;rfl
def fA1 (x1:aA YO) (a:Int):aB Bool:=
 (eZ1 x1 a).bind fun b=>some (decide (b>=0))
theorem rH1 {k} (d) (x1:aA YO) (a:Int):OD k (d+17) 120 [.is 2 (I YO.g x1),.fn 121 [] [.ip [.fn 117 [] []],.ip [.fn 71 [] []],.ip [i64 a]]]=(fA1 x1 a).map bv:=by
 refine oe rfl ?_;refine bo (rG1 d x1 a) fun b=>?_;rfl
def fB1 (x1:YW) (a:Int):aB Bool:=
 (fA1 x1.aO a).bind fun b=>some b
theorem rI1 {k} (d) (x1:YW) (a:Int):OD k (d+18) 119 [.agg (YW.g x1),.ip [.fn 117 [] []],.ip [.fn 71 [] []],.ip [i64 a]]=(fB1 x1 a).map bv:=by
 refine oe rfl ?_;refine bo (rH1 d x1.aO a) fun b=>?_;rfl
def fC1 (x1:aA YW) (b:Int):aB Int:=
 (aX (E:=Int⊕Unit) (fun(a:Int)=>if decide (a<(x1.length:Int))then(aV x1 a).bind fun c=>(fB1 c b).bind fun d=>if d then some (.inr (.inl a))else some (.inl (bD (a+1)))else some (.inr (.inr ()))) bK 0).bind fun e=>(match e with|.inl x8=>some x8|.inr _=>some (-1))
theorem rJ1 {k} (d) (x1:aA YW) (a:Int):OD k (d+19) 168 [.is 2 (I YW.g x1),.fn 119 [] [.ip [.fn 117 [] []],.ip [.fn 71 [] []],.ip [i64 a]]]=(fC1 x1 a).map i64:=by
 refine oe rfl ?_;refine bz lm ?_;refine bo (aL (S:=Int) (enc:=fun b=>(Q [(0,.is 2 (I YW.g x1)),(1,.fn 119 [] [.ip [.fn 117 [] []],.ip [.fn 71 [] []],.ip [i64 a]]),(7,i64 (x1.length:Int)),(8,i64 b)] [])) (encE:=(fun|.inl c=>(rq [(4,i64 c)] [])|.inr _=>(xq 0 [] []))) (fun b=>?_) bK 0) fun f=>?_;refine ig fun e=>?_;refine bo (rI1 d e a) fun h=>?_;refine io rfl rfl;rcases f with c|_;rfl;rfl
def fD1 (x1:aA YW) (a:Int):aB Bool:=
 (fC1 x1 a).bind fun b=>some (decide (b>=0))
theorem rK1 {k} (d) (x1:aA YW) (a:Int):OD k (d+20) 118 [.is 2 (I YW.g x1),.fn 119 [] [.ip [.fn 117 [] []],.ip [.fn 71 [] []],.ip [i64 a]]]=(fD1 x1 a).map bv:=by
 refine oe rfl ?_;refine bo (rJ1 d x1 a) fun b=>?_;rfl
def fE1 (x1:Int) (a:YM):aB Bool:=
 (F68 a).bind fun⟨b,c⟩=>if c !=0 then some false else(fD1 a.aS b).bind fun d=>some d
theorem rL1 {k} (d) (x1:Int) (a:YM):OD k (d+21) 116 [i64 x1,.agg (YM.g a),.ip [.fn 71 [] []]]=(fE1 x1 a).map bv:=by
 refine oe rfl ?_;refine bo (Sq (d+16) a) fun⟨b,c⟩=>?_;refine io rfl ?_;refine bo (rK1 d a.aS b) fun e=>?_;rfl
def Fg (x1:aA YV) (e:Y0) (h:Int):aB (aA YV):=
 (aX (E:=aA YV) (fun(⟨a,f⟩:Int×(aA YV))=>if decide (a<(e.aE.length:Int))then(aV e.aE a).bind fun g=>(fE1 a g).bind fun b=>(jS b g.ID f e h).bind fun c=>some (.inl ((bD (a+1)),c))else some (.inr f)) bK (0,x1)).bind fun d=>some d
theorem fF1 {k} (d) (x1:aA YV) (a:Y0) (b:Int):fU (XD k (d+22)) 64 [.ref 1 0,.fn 116 [] [.ref 3 0]] ((3,.box [.fn 71 [] []])::cL x1 a b) 4 false=(Fg x1 a b).map (fun(f:aA YV)=>((.tup [],((3,.box [.fn 71 [] []])::cL f a b),0))):=by
 rw[xd (fn:=p64) rfl];refine bz lm ?_;refine bo (aL (S:=Int×(aA YV)) (enc:=fun⟨h,i⟩=>(Q [(0,.ref 1 0),(1,.fn 116 [] [.ref 3 0]),(10,.is 22 (I YM.g a.aE)),(11,i64 (a.aE.length:Int)),(12,i64 h)] ((3,.box [.fn 71 [] []])::cL i a b))) (encE:=(fun(c:aA YV)=>(xq 0 [] ((3,.box [.fn 71 [] []])::cL c a b)))) (fun⟨h,i⟩=>?_) bK (0,x1)) fun c=>?_;refine ig fun j=>?_;refine bo (rL1 d h j) fun e=>?_;refine bo (iF (d+20) e j.ID i a b) fun l=>?_;rfl;rfl
def fG1 (x1:aA YV) (a:Y0) (b:Int):aB (aA YV):=
 (Fg x1 a b).bind fun c=>some c
theorem rM1 {k} (d) (x1:aA YV) (a:Y0) (b:Int):fU (XD k (d+23)) 70 [.ref 1 0,.fn 71 [] []] (cL x1 a b) 3 false=(fG1 x1 a b).map (fun(c:aA YV)=>((.tup [],(cL c a b),0))):=by
 rw[xd (fn:=p70) rfl];refine bo (fF1 d x1 a b) fun e=>?_;rfl
def Yo (x1:aA YV) (a:Y0) (b:Int):aB (aA YV):=
 (fG1 x1 a b).bind fun c=>some c
theorem rN1 {k} (d) (x1:aA YV) (a:Y0) (b:Int):fU (XD k (d+24)) 36 [.ref 1 0] (cL x1 a b) 3 false=(Yo x1 a b).map (fun(c:aA YV)=>((.tup [],(cL c a b),0))):=by
 rw[xd (fn:=p36) rfl];refine bo (rM1 d x1 a b) fun e=>?_;rfl
def F72 (x1:Int):aB Bool:=
 ((if x1 !=0 then(F71 x1).bind fun a=>some (!a)else some false:aB (Bool))).bind fun b=>some b
theorem cH2 {k} (d) (x1:Int):OD k (d+2) 72 [i64 x1]=(F72 x1).map bv:=by
 refine oe rfl ?_;refine bo (e:=id) ?_ fun b=>?_;refine io ?_ rfl;refine bo (rE1 d x1) fun a=>?_;rfl;rfl
def Fh (x1:YO) (a:Int):aB Bool:=
 (Yi x1.aU).bind fun b=>((if !b then(Yn x1 a).bind fun c=>(F72 c).bind fun d=>some d else some false:aB (Bool))).bind fun e=>some e
theorem fH1 {k} (d) (x1:YO) (a:Int):OD k (d+15) 121 [.agg (YO.g x1),.ip [.fn 117 [] []],.ip [.fn 72 [] []],.ip [i64 a]]=(Fh x1 a).map bv:=by
 refine oe rfl ?_;refine bo (iM1 (d+3) x1.aU) fun c=>?_;refine bo (e:=id) ?_ fun h=>?_;refine io ?_ rfl;refine bo (iR1 d x1 a) fun b=>?_;refine bo (cH2 (d+12) b) fun f=>?_;rfl;rfl
def Fi (x1:aA YO) (b:Int):aB Int:=
 (aX (E:=Int⊕Unit) (fun(a:Int)=>if decide (a<(x1.length:Int))then(aV x1 a).bind fun c=>(Fh c b).bind fun d=>if d then some (.inr (.inl a))else some (.inl (bD (a+1)))else some (.inr (.inr ()))) bK 0).bind fun e=>(match e with|.inl x8=>some x8|.inr _=>some (-1))
theorem fI1 {k} (d) (x1:aA YO) (a:Int):OD k (d+16) 169 [.is 2 (I YO.g x1),.fn 121 [] [.ip [.fn 117 [] []],.ip [.fn 72 [] []],.ip [i64 a]]]=(Fi x1 a).map i64:=by
 refine oe rfl ?_;refine bz lm ?_;refine bo (aL (S:=Int) (enc:=fun b=>(Q [(0,.is 2 (I YO.g x1)),(1,.fn 121 [] [.ip [.fn 117 [] []],.ip [.fn 72 [] []],.ip [i64 a]]),(7,i64 (x1.length:Int)),(8,i64 b)] [])) (encE:=(fun|.inl c=>(rq [(4,i64 c)] [])|.inr _=>(xq 0 [] []))) (fun b=>?_) bK 0) fun f=>?_;refine ig fun e=>?_;refine bo (fH1 d e a) fun h=>?_;refine io rfl rfl;rcases f with c|_;rfl;rfl
def Fj (x1:aA YO) (a:Int):aB Bool:=
 (Fi x1 a).bind fun b=>some (decide (b>=0))
theorem fJ1 {k} (d) (x1:aA YO) (a:Int):OD k (d+17) 120 [.is 2 (I YO.g x1),.fn 121 [] [.ip [.fn 117 [] []],.ip [.fn 72 [] []],.ip [i64 a]]]=(Fj x1 a).map bv:=by
 refine oe rfl ?_;refine bo (fI1 d x1 a) fun b=>?_;rfl
def Fk (x1:YW) (a:Int):aB Bool:=
 (Fj x1.aO a).bind fun b=>some b
theorem fK1 {k} (d) (x1:YW) (a:Int):OD k (d+18) 119 [.agg (YW.g x1),.ip [.fn 117 [] []],.ip [.fn 72 [] []],.ip [i64 a]]=(Fk x1 a).map bv:=by
 refine oe rfl ?_;refine bo (fJ1 d x1.aO a) fun b=>?_;rfl
def Fl (x1:aA YW) (b:Int):aB Int:=
 (aX (E:=Int⊕Unit) (fun(a:Int)=>if decide (a<(x1.length:Int))then(aV x1 a).bind fun c=>(Fk c b).bind fun d=>if d then some (.inr (.inl a))else some (.inl (bD (a+1)))else some (.inr (.inr ()))) bK 0).bind fun e=>(match e with|.inl x8=>some x8|.inr _=>some (-1))
theorem fL1 {k} (d) (x1:aA YW) (a:Int):OD k (d+19) 168 [.is 2 (I YW.g x1),.fn 119 [] [.ip [.fn 117 [] []],.ip [.fn 72 [] []],.ip [i64 a]]]=(Fl x1 a).map i64:=by
 refine oe rfl ?_;refine bz lm ?_;refine bo (aL (S:=Int) (enc:=fun b=>(Q [(0,.is 2 (I YW.g x1)),(1,.fn 119 [] [.ip [.fn 117 [] []],.ip [.fn 72 [] []],.ip [i64 a]]),(7,i64 (x1.length:Int)),(8,i64 b)] [])) (encE:=(fun|.inl c=>(rq [(4,i64 c)] [])|.inr _=>(xq 0 [] []))) (fun b=>?_) bK 0) fun f=>?_;refine ig fun e=>?_;refine bo (fK1 d e a) fun h=>?_;refine io rfl rfl;rcases f with c|_;rfl;rfl
def Fm (x1:aA YW) (a:Int):aB Bool:=
 (Fl x1 a).bind fun b=>some (decide (b>=0))
theorem fM1 {k} (d) (x1:aA YW) (a:Int):OD k (d+20) 118 [.is 2 (I YW.g x1),.fn 119 [] [.ip [.fn 117 [] []],.ip [.fn 72 [] []],.ip [i64 a]]]=(Fm x1 a).map bv:=by
 refine oe rfl ?_;refine bo (fL1 d x1 a) fun b=>?_;rfl
def Fo (x1:Int) (a:YM):aB Bool:=
 (F68 a).bind fun⟨b,c⟩=>if c !=0 then some false else(Fm a.aS b).bind fun d=>some d
theorem fN1 {k} (d) (x1:Int) (a:YM):OD k (d+21) 116 [i64 x1,.agg (YM.g a),.ip [.fn 72 [] []]]=(Fo x1 a).map bv:=by
 refine oe rfl ?_;refine bo (Sq (d+16) a) fun⟨b,c⟩=>?_;refine io rfl ?_;refine bo (fM1 d a.aS b) fun e=>?_;rfl
def Fp (x1:aA YV) (e:Y0) (h:Int):aB (aA YV):=
 (aX (E:=aA YV) (fun(⟨a,f⟩:Int×(aA YV))=>if decide (a<(e.aE.length:Int))then(aV e.aE a).bind fun g=>(Fo a g).bind fun b=>(jS b g.ID f e h).bind fun c=>some (.inl ((bD (a+1)),c))else some (.inr f)) bK (0,x1)).bind fun d=>some d
theorem fO1 {k} (d) (x1:aA YV) (a:Y0) (b:Int):fU (XD k (d+22)) 64 [.ref 1 0,.fn 116 [] [.ref 3 0]] ((3,.box [.fn 72 [] []])::cL x1 a b) 4 false=(Fp x1 a b).map (fun(f:aA YV)=>((.tup [],((3,.box [.fn 72 [] []])::cL f a b),0))):=by
 rw[xd (fn:=p64) rfl];refine bz lm ?_;refine bo (aL (S:=Int×(aA YV)) (enc:=fun⟨h,i⟩=>(Q [(0,.ref 1 0),(1,.fn 116 [] [.ref 3 0]),(10,.is 22 (I YM.g a.aE)),(11,i64 (a.aE.length:Int)),(12,i64 h)] ((3,.box [.fn 72 [] []])::cL i a b))) (encE:=(fun(c:aA YV)=>(xq 0 [] ((3,.box [.fn 72 [] []])::cL c a b)))) (fun⟨h,i⟩=>?_) bK (0,x1)) fun c=>?_;refine ig fun j=>?_;refine bo (fN1 d h j) fun e=>?_;refine bo (iF (d+20) e j.ID i a b) fun l=>?_;rfl;rfl
def Fq (x1:aA YV) (a:Y0) (b:Int):aB (aA YV):=
 (Fp x1 a b).bind fun c=>some c
theorem fP1 {k} (d) (x1:aA YV) (a:Y0) (b:Int):fU (XD k (d+23)) 70 [.ref 1 0,.fn 72 [] []] (cL x1 a b) 3 false=(Fq x1 a b).map (fun(c:aA YV)=>((.tup [],(cL c a b),0))):=by
 rw[xd (fn:=p70) rfl];refine bo (fO1 d x1 a b) fun e=>?_;rfl
def Yp (x1:aA YV) (a:Y0) (b:Int):aB (aA YV):=
 (Fq x1 a b).bind fun c=>some c
theorem rO1 {k} (d) (x1:aA YV) (a:Y0) (b:Int):fU (XD k (d+24)) 37 [.ref 1 0] (cL x1 a b) 3 false=(Yp x1 a b).map (fun(c:aA YV)=>((.tup [],(cL c a b),0))):=by
 rw[xd (fn:=p37) rfl];refine bo (fP1 d x1 a b) fun e=>?_;rfl
def F74 (x1:YP) (a:YE):aB Bool:=
 (F75 a).bind fun b=>some (b !=0)
theorem cI2 {k} (d) (x1:YP) (a:YE):OD k (d+9) 74 [.agg (YP.g x1),.agg (YE.g a)]=(F74 x1 a).map bv:=by
 refine oe rfl ?_;refine bo (Ss d a) fun b=>?_;rfl
def fQ1 (x1:aA YV) (s:Y0) (t:Int):aB (aA YV):=
 (aX (E:=aA YV) (fun(⟨b,m⟩:Int×(aA YV))=>if decide (b<(s.aE.length:Int))then(aV s.aE b).bind fun n=>(aX (E:=aA YV) (fun(⟨c,o⟩:Int×(aA YV))=>if decide (c<(n.aS.length:Int))then(aV n.aS c).bind fun p=>(aX (E:=aA YV) (fun(⟨d,q⟩:Int×(aA YV))=>if decide (d<(p.aO.length:Int))then(aV p.aO d).bind fun r=>(aX (E:=aA YV) (fun(⟨a,e⟩:Int×(aA YV))=>if decide (a<(r.aU.length:Int))then(aV r.aU a).bind fun f=>(F74 (YP.mk 4 0 c b d a 0) f).bind fun g=>(jS g f.ID e s t).bind fun h=>some (.inl ((bD (a+1)),h))else some (.inr e)) bK (0,q)).bind fun i=>some (.inl ((bD (d+1)),i))else some (.inr q)) bK (0,o)).bind fun j=>some (.inl ((bD (c+1)),j))else some (.inr o)) bK (0,m)).bind fun k=>some (.inl ((bD (b+1)),k))else some (.inr m)) bK (0,x1)).bind fun l=>some l
theorem rP1 {k} (d) (x1:aA YV) (c:Y0) (i:Int):fU (XD k (d+10)) 73 [.ref 1 0,.fn 74 [] []] (cL x1 c i) 3 false=(fQ1 x1 c i).map (fun(w:aA YV)=>((.tup [],(cL w c i),0))):=by
 rw[xd (fn:=p73) rfl];refine bz lm ?_;refine bo (aL (S:=Int×(aA YV)) (enc:=fun⟨b,s⟩=>(Q [(0,.ref 1 0),(1,.fn 74 [] []),(16,.is 22 (I YM.g c.aE)),(17,i64 (c.aE.length:Int)),(18,i64 b)] (cL s c i))) (encE:=(fun(r:aA YV)=>(xq 0 [] (cL r c i)))) (fun⟨b,s⟩=>?_) bK (0,x1)) fun r=>?_;refine ig fun a=>?_;refine bz lm ?_;refine bo (aL (S:=Int×(aA YV)) (enc:=fun⟨e,t⟩=>(Q [(0,.ref 1 0),(1,.fn 74 [] []),(4,i64 b),(16,.is 22 (I YM.g c.aE)),(17,i64 (c.aE.length:Int)),(18,i64 b),(24,.is 2 (I YW.g a.aS)),(25,i64 (a.aS.length:Int)),(26,i64 e)] ((3,.box (YM.g a))::cL t c i))) (encE:=(fun(q:aA YV)=>(xq 2 [(0,.ref 1 0),(1,.fn 74 [] []),(16,.is 22 (I YM.g c.aE)),(17,i64 (c.aE.length:Int)),(18,i64 b)] ((3,.box (YM.g a))::cL q c i)))) (fun⟨e,t⟩=>?_) bK (0,s)) fun q=>?_;refine ig fun f=>?_;refine bz lm ?_;refine bo (aL (S:=Int×(aA YV)) (enc:=fun⟨h,u⟩=>(Q [(0,.ref 1 0),(1,.fn 74 [] []),(4,i64 b),(6,i64 e),(16,.is 22 (I YM.g c.aE)),(17,i64 (c.aE.length:Int)),(18,i64 b),(24,.is 2 (I YW.g a.aS)),(25,i64 (a.aS.length:Int)),(26,i64 e),(32,.is 2 (I YO.g f.aO)),(33,i64 (f.aO.length:Int)),(34,i64 h)] ((4,.box (YW.g f))::(3,.box (YM.g a))::cL u c i))) (encE:=(fun(p:aA YV)=>(xq 4 [(0,.ref 1 0),(1,.fn 74 [] []),(4,i64 b),(16,.is 22 (I YM.g c.aE)),(17,i64 (c.aE.length:Int)),(18,i64 b),(24,.is 2 (I YW.g a.aS)),(25,i64 (a.aS.length:Int)),(26,i64 e)] ((4,.box (YW.g f))::(3,.box (YM.g a))::cL p c i)))) (fun⟨h,u⟩=>?_) bK (0,t)) fun p=>?_;refine ig fun m=>?_;refine bz lm ?_;refine bo (aL (S:=Int×(aA YV)) (enc:=fun⟨j,l⟩=>(Q [(0,.ref 1 0),(1,.fn 74 [] []),(4,i64 b),(6,i64 e),(8,i64 h),(16,.is 22 (I YM.g c.aE)),(17,i64 (c.aE.length:Int)),(18,i64 b),(24,.is 2 (I YW.g a.aS)),(25,i64 (a.aS.length:Int)),(26,i64 e),(32,.is 2 (I YO.g f.aO)),(33,i64 (f.aO.length:Int)),(34,i64 h),(40,.is 13 (I YE.g m.aU)),(41,i64 (m.aU.length:Int)),(42,i64 j)] ((5,.box (YO.g m))::(4,.box (YW.g f))::(3,.box (YM.g a))::cL l c i))) (encE:=(fun(o:aA YV)=>(xq 6 [(0,.ref 1 0),(1,.fn 74 [] []),(4,i64 b),(6,i64 e),(16,.is 22 (I YM.g c.aE)),(17,i64 (c.aE.length:Int)),(18,i64 b),(24,.is 2 (I YW.g a.aS)),(25,i64 (a.aS.length:Int)),(26,i64 e),(32,.is 2 (I YO.g f.aO)),(33,i64 (f.aO.length:Int)),(34,i64 h)] ((5,.box (YO.g m))::(4,.box (YW.g f))::(3,.box (YM.g a))::cL o c i)))) (fun⟨j,l⟩=>?_) bK (0,u)) fun o=>?_;refine ig fun n=>?_;refine bo (cI2 d (YP.mk 4 0 e b h j 0) n) fun v=>?_;refine bo (iF (d+8) v n.ID l c i) fun x=>?_;rfl;rfl;rfl;rfl;rfl
def Yq (x1:aA YV) (a:Y0) (b:Int):aB (aA YV):=
 (fQ1 x1 a b).bind fun c=>some c
theorem rQ1 {k} (d) (x1:aA YV) (a:Y0) (b:Int):fU (XD k (d+11)) 38 [.ref 1 0] (cL x1 a b) 3 false=(Yq x1 a b).map (fun(c:aA YV)=>((.tup [],(cL c a b),0))):=by
 rw[xd (fn:=p38) rfl];refine bo (rP1 d x1 a b) fun e=>?_;rfl
end Go.P
namespace Go.P
open Go.Sim (Ex eE CK)
open K (I Q rq nq xq ck)
def F77 (x1:Y0) (c:Int):aB (Int×Int×Int):=
 if decide (c<0)then some (0,0,2)else(aX (E:=(Int×Int)⊕Unit) (fun(⟨b,a⟩:Int×Int)=>if decide (a<(x1.bE.length:Int))then(aV x1.bE a).bind fun d=>if decide (b<(d.dR.length:Int))then some (.inr (.inl (a,b)))else some (.inl ((bD (b-(d.dR.length:Int))),(bD (a+1))))else some (.inr (.inr ()))) bK (c,0)).bind fun e=>(match e with|.inl ⟨x7,x8⟩=>some (x7,x8,0)|.inr _=>some (0,0,2))
theorem cJ2 {k} (d) (x1:Y0) (a:Int):OD k (d+1) 77 [.agg (Y0.g x1),i64 a]=(F77 x1 a).map (fun⟨i,j,l⟩=>.tup [i64 i,i64 j,i64 l]):=by
 refine oe rfl ?_;refine io rfl ?_;refine bz lm ?_;refine bo (aL (S:=Int×Int) (enc:=fun⟨b,c⟩=>(Q [(1,i64 b),(12,.is 6 (I YJ.g x1.bE)),(13,i64 (x1.bE.length:Int)),(14,i64 c)] [(0,.box (Y0.g x1))])) (encE:=(fun|.inl ⟨e,f⟩=>(rq [(4,i64 e),(5,i64 f),(6,i64 0)] [(0,.box (Y0.g x1))])|.inr _=>(xq 0 [] [(0,.box (Y0.g x1))]))) (fun⟨b,c⟩=>?_) bK (a,0)) fun h=>?_;refine ig fun m=>?_;refine bz lm ?_;refine io rfl ?_;refine bz lm ?_;rfl;rcases h with⟨e,f⟩|_;rfl;rfl
def F78 (x1:YH) (a:Int):aB Bool:=
 (F28 x1).bind fun⟨b,d⟩=>(Bp (bD (b+a)) 0 127).bind fun c=>some (!c)
theorem rS1 {k} (d) (x1:YH) (a:Int):OD k (d+5) 78 [.agg (YH.g x1),.ip [i64 a]]=(F78 x1 a).map bv:=by
 refine oe rfl ?_;refine bo (qF1 d x1) fun⟨b,c⟩=>?_;refine bo (pW (d+3) (bD (b+a)) 0 127) fun e=>?_;rfl
def F80 (x1:YB) (a:Int):aB Bool:=
 (F78 x1.eN a).bind fun b=>some b
theorem cK2 {k} (d) (x1:YB) (a:Int):OD k (d+6) 80 [.agg (YB.g x1),.ip [.fn 78 [] [.ip [i64 a]]]]=(F80 x1 a).map bv:=by
 refine oe rfl ?_;refine bo (rS1 d x1.eN a) fun b=>?_;rfl
def fR1 (x1:aA YB) (b:Int):aB Int:=
 (aX (E:=Int⊕Unit) (fun(a:Int)=>if decide (a<(x1.length:Int))then(aV x1 a).bind fun c=>(F80 c b).bind fun d=>if d then some (.inr (.inl a))else some (.inl (bD (a+1)))else some (.inr (.inr ()))) bK 0).bind fun e=>(match e with|.inl x8=>some x8|.inr _=>some (-1))
theorem rT1 {k} (d) (x1:aA YB) (a:Int):OD k (d+7) 133 [.is 5 (I YB.g x1),.fn 80 [] [.ip [.fn 78 [] [.ip [i64 a]]]]]=(fR1 x1 a).map i64:=by
 refine oe rfl ?_;refine bz lm ?_;refine bo (aL (S:=Int) (enc:=fun b=>(Q [(0,.is 5 (I YB.g x1)),(1,.fn 80 [] [.ip [.fn 78 [] [.ip [i64 a]]]]),(7,i64 (x1.length:Int)),(8,i64 b)] [])) (encE:=(fun|.inl c=>(rq [(4,i64 c)] [])|.inr _=>(xq 0 [] []))) (fun b=>?_) bK 0) fun f=>?_;refine ig fun e=>?_;refine bo (cK2 d e a) fun h=>?_;refine io rfl rfl;rcases f with c|_;rfl;rfl
def F79 (x1:aA YB) (a:Int):aB Bool:=
 (fR1 x1 a).bind fun b=>some (decide (b>=0))
theorem cL2 {k} (d) (x1:aA YB) (a:Int):OD k (d+8) 79 [.is 5 (I YB.g x1),.fn 80 [] [.ip [.fn 78 [] [.ip [i64 a]]]]]=(F79 x1 a).map bv:=by
 refine oe rfl ?_;refine bo (rT1 d x1 a) fun b=>?_;rfl
def F82 (x1:YD) (a:Int):aB Bool:=
 (F78 x1.eN a).bind fun b=>some b
theorem cM2 {k} (d) (x1:YD) (a:Int):OD k (d+6) 82 [.agg (YD.g x1),.ip [.fn 78 [] [.ip [i64 a]]]]=(F82 x1 a).map bv:=by
 refine oe rfl ?_;refine bo (rS1 d x1.eN a) fun b=>?_;rfl
def fS1 (x1:aA YD) (b:Int):aB Int:=
 (aX (E:=Int⊕Unit) (fun(a:Int)=>if decide (a<(x1.length:Int))then(aV x1 a).bind fun c=>(F82 c b).bind fun d=>if d then some (.inr (.inl a))else some (.inl (bD (a+1)))else some (.inr (.inr ()))) bK 0).bind fun e=>(match e with|.inl x8=>some x8|.inr _=>some (-1))
theorem rU1 {k} (d) (x1:aA YD) (a:Int):OD k (d+7) 134 [.is 5 (I YD.g x1),.fn 82 [] [.ip [.fn 78 [] [.ip [i64 a]]]]]=(fS1 x1 a).map i64:=by
 refine oe rfl ?_;refine bz lm ?_;refine bo (aL (S:=Int) (enc:=fun b=>(Q [(0,.is 5 (I YD.g x1)),(1,.fn 82 [] [.ip [.fn 78 [] [.ip [i64 a]]]]),(7,i64 (x1.length:Int)),(8,i64 b)] [])) (encE:=(fun|.inl c=>(rq [(4,i64 c)] [])|.inr _=>(xq 0 [] []))) (fun b=>?_) bK 0) fun f=>?_;refine ig fun e=>?_;refine bo (cM2 d e a) fun h=>?_;refine io rfl rfl;rcases f with c|_;rfl;rfl
def F81 (x1:aA YD) (a:Int):aB Bool:=
 (fS1 x1 a).bind fun b=>some (decide (b>=0))
theorem cN2 {k} (d) (x1:aA YD) (a:Int):OD k (d+8) 81 [.is 5 (I YD.g x1),.fn 82 [] [.ip [.fn 78 [] [.ip [i64 a]]]]]=(F81 x1 a).map bv:=by
 refine oe rfl ?_;refine bo (rU1 d x1 a) fun b=>?_;rfl
def F76 (x1:YP) (e:YE) (f:YK):aB Bool:=
 (F75 e).bind fun h=>if h !=0 then some false else(F77 f.s' x1.dZ).bind fun⟨i,l,j⟩=>((if j==0 then(aV f.s'.bE i).bind fun k=>some k.cG.bB else some 0:aB (Int))).bind fun g=>((if f.s'.gM then some (bD (0-g))else some g:aB (Int))).bind fun a=>(F79 e.eR a).bind fun b=>((if b then some true else(F81 e.fS a).bind fun c=>some c:aB (Bool))).bind fun d=>some d
theorem cO2 {k} (d) (x1:YP) (b:YE) (c:YK):OD k (d+9) 76 [.agg (YP.g x1),.agg (YE.g b),.ip [.ip (YK.g c)]]=(F76 x1 b c).map bv:=by
 refine oe rfl ?_;refine bo (Ss d b) fun l=>?_;refine io rfl ?_;refine bo (cJ2 (d+7) c.s' x1.dZ) fun⟨m,n,o⟩=>?_;refine bo (e:=(fun(f:Int)=>(nq [(2,.ip [.ip (YK.g c)]),(4,.ref 1 0),(6,.ref 2 0)] [(2,.box [i64 f]),(1,.box (YE.g b)),(0,.box (YP.g x1))]))) ?_ fun f=>?_;refine ig fun p=>?_;rfl;refine bo (e:=(fun(a:Int)=>(nq [(4,.ref 1 0),(6,.ref 2 0)] [(2,.box [i64 a]),(1,.box (YE.g b)),(0,.box (YP.g x1))]))) ?_ fun a=>?_;refine io rfl rfl;refine bo (cL2 d b.eR a) fun h=>?_;refine bo (e:=id) ?_ fun j=>?_;refine io rfl ?_;refine bo (cN2 d b.fS a) fun i=>?_;rfl;rfl
def Fs (x1:aA YV) (s:Y0) (t:Int):aB (aA YV):=
 (aX (E:=aA YV) (fun(⟨c,m⟩:Int×(aA YV))=>if decide (c<(s.aE.length:Int))then(aV s.aE c).bind fun n=>(aX (E:=aA YV) (fun(⟨d,o⟩:Int×(aA YV))=>if decide (d<(n.aS.length:Int))then(aV n.aS d).bind fun p=>(aX (E:=aA YV) (fun(⟨e,q⟩:Int×(aA YV))=>if decide (e<(p.aO.length:Int))then(aV p.aO e).bind fun r=>(aX (E:=aA YV) (fun(⟨a,b⟩:Int×(aA YV))=>if decide (a<(r.aU.length:Int))then(aV r.aU a).bind fun f=>(F76 (YP.mk 4 0 d c e a 0) f (YK.mk s t b)).bind fun g=>(jS g f.ID b s t).bind fun h=>some (.inl ((bD (a+1)),h))else some (.inr b)) bK (0,q)).bind fun i=>some (.inl ((bD (e+1)),i))else some (.inr q)) bK (0,o)).bind fun j=>some (.inl ((bD (d+1)),j))else some (.inr o)) bK (0,m)).bind fun k=>some (.inl ((bD (c+1)),k))else some (.inr m)) bK (0,x1)).bind fun l=>some l
theorem fT1 {k} (d) (x1:aA YV) (c:Y0) (i:Int):fU (XD k (d+10)) 73 [.ref 1 0,.fn 76 [] [.ref 3 0]] ((3,.box [.ref 1 0])::cL x1 c i) 4 false=(Fs x1 c i).map (fun(w:aA YV)=>((.tup [],((3,.box [.ref 1 0])::cL w c i),0))):=by
 rw[xd (fn:=p73) rfl];refine bz lm ?_;refine bo (aL (S:=Int×(aA YV)) (enc:=fun⟨b,s⟩=>(Q [(0,.ref 1 0),(1,.fn 76 [] [.ref 3 0]),(16,.is 22 (I YM.g c.aE)),(17,i64 (c.aE.length:Int)),(18,i64 b)] ((3,.box [.ref 1 0])::cL s c i))) (encE:=(fun(r:aA YV)=>(xq 0 [] ((3,.box [.ref 1 0])::cL r c i)))) (fun⟨b,s⟩=>?_) bK (0,x1)) fun r=>?_;refine ig fun a=>?_;refine bz lm ?_;refine bo (aL (S:=Int×(aA YV)) (enc:=fun⟨e,t⟩=>(Q [(0,.ref 1 0),(1,.fn 76 [] [.ref 3 0]),(4,i64 b),(16,.is 22 (I YM.g c.aE)),(17,i64 (c.aE.length:Int)),(18,i64 b),(24,.is 2 (I YW.g a.aS)),(25,i64 (a.aS.length:Int)),(26,i64 e)] ((4,.box (YM.g a))::(3,.box [.ref 1 0])::cL t c i))) (encE:=(fun(q:aA YV)=>(xq 2 [(0,.ref 1 0),(1,.fn 76 [] [.ref 3 0]),(16,.is 22 (I YM.g c.aE)),(17,i64 (c.aE.length:Int)),(18,i64 b)] ((4,.box (YM.g a))::(3,.box [.ref 1 0])::cL q c i)))) (fun⟨e,t⟩=>?_) bK (0,s)) fun q=>?_;refine ig fun f=>?_;refine bz lm ?_;refine bo (aL (S:=Int×(aA YV)) (enc:=fun⟨j,u⟩=>(Q [(0,.ref 1 0),(1,.fn 76 [] [.ref 3 0]),(4,i64 b),(6,i64 e),(16,.is 22 (I YM.g c.aE)),(17,i64 (c.aE.length:Int)),(18,i64 b),(24,.is 2 (I YW.g a.aS)),(25,i64 (a.aS.length:Int)),(26,i64 e),(32,.is 2 (I YO.g f.aO)),(33,i64 (f.aO.length:Int)),(34,i64 j)] ((5,.box (YW.g f))::(4,.box (YM.g a))::(3,.box [.ref 1 0])::cL u c i))) (encE:=(fun(p:aA YV)=>(xq 4 [(0,.ref 1 0),(1,.fn 76 [] [.ref 3 0]),(4,i64 b),(16,.is 22 (I YM.g c.aE)),(17,i64 (c.aE.length:Int)),(18,i64 b),(24,.is 2 (I YW.g a.aS)),(25,i64 (a.aS.length:Int)),(26,i64 e)] ((5,.box (YW.g f))::(4,.box (YM.g a))::(3,.box [.ref 1 0])::cL p c i)))) (fun⟨j,u⟩=>?_) bK (0,t)) fun p=>?_;refine ig fun m=>?_;refine bz lm ?_;refine bo (aL (S:=Int×(aA YV)) (enc:=fun⟨l,h⟩=>(Q [(0,.ref 1 0),(1,.fn 76 [] [.ref 3 0]),(4,i64 b),(6,i64 e),(8,i64 j),(16,.is 22 (I YM.g c.aE)),(17,i64 (c.aE.length:Int)),(18,i64 b),(24,.is 2 (I YW.g a.aS)),(25,i64 (a.aS.length:Int)),(26,i64 e),(32,.is 2 (I YO.g f.aO)),(33,i64 (f.aO.length:Int)),(34,i64 j),(40,.is 13 (I YE.g m.aU)),(41,i64 (m.aU.length:Int)),(42,i64 l)] ((6,.box (YO.g m))::(5,.box (YW.g f))::(4,.box (YM.g a))::(3,.box [.ref 1 0])::cL h c i))) (encE:=(fun(o:aA YV)=>(xq 6 [(0,.ref 1 0),(1,.fn 76 [] [.ref 3 0]),(4,i64 b),(6,i64 e),(16,.is 22 (I YM.g c.aE)),(17,i64 (c.aE.length:Int)),(18,i64 b),(24,.is 2 (I YW.g a.aS)),(25,i64 (a.aS.length:Int)),(26,i64 e),(32,.is 2 (I YO.g f.aO)),(33,i64 (f.aO.length:Int)),(34,i64 j)] ((6,.box (YO.g m))::(5,.box (YW.g f))::(4,.box (YM.g a))::(3,.box [.ref 1 0])::cL o c i)))) (fun⟨l,h⟩=>?_) bK (0,u)) fun o=>?_;refine ig fun n=>?_;refine bo (cO2 d (YP.mk 4 0 e b j l 0) n (YK.mk c i h)) fun v=>?_;refine bo (iF (d+8) v n.ID h c i) fun x=>?_;rfl;rfl;rfl;rfl;rfl
def Yr (x1:aA YV) (a:Y0) (b:Int):aB (aA YV):=
 (Fs x1 a b).bind fun c=>some c
theorem rV1 {k} (d) (x1:aA YV) (a:Y0) (b:Int):fU (XD k (d+11)) 39 [.ref 1 0] (cL x1 a b) 3 false=(Yr x1 a b).map (fun(c:aA YV)=>((.tup [],(cL c a b),0))):=by
 rw[xd (fn:=p39) rfl];refine bo (fT1 d x1 a b) fun e=>?_;rfl
def fU1 (x1:YB):aB Bool:=
 some x1.Tf
theorem rW1 {k} (d) (x1:YB):OD k (d+1) 135 [.agg (YB.g x1)]=(fU1 x1).map bv:=by
 refine oe rfl ?_;rfl
def Ft (x1:aA YB):aB Int:=
 (aX (E:=Int⊕Unit) (fun(a:Int)=>if decide (a<(x1.length:Int))then(aV x1 a).bind fun b=>(fU1 b).bind fun c=>if c then some (.inr (.inl a))else some (.inl (bD (a+1)))else some (.inr (.inr ()))) bK 0).bind fun d=>(match d with|.inl x7=>some x7|.inr _=>some (-1))
theorem fV1 {k} (d) (x1:aA YB):OD k (d+2) 133 [.is 5 (I YB.g x1),.fn 135 [] []]=(Ft x1).map i64:=by
 refine oe rfl ?_;refine bz lm ?_;refine bo (aL (S:=Int) (enc:=fun a=>(Q [(0,.is 5 (I YB.g x1)),(1,.fn 135 [] []),(7,i64 (x1.length:Int)),(8,i64 a)] [])) (encE:=(fun|.inl b=>(rq [(4,i64 b)] [])|.inr _=>(xq 0 [] []))) (fun a=>?_) bK 0) fun e=>?_;refine ig fun c=>?_;refine bo (rW1 d c) fun f=>?_;refine io rfl rfl;rcases e with b|_;rfl;rfl
def Qc (x1:aA YB):aB Bool:=
 (Ft x1).bind fun a=>some (decide (a>=0))
theorem lK1 {k} (d) (x1:aA YB):OD k (d+3) 79 [.is 5 (I YB.g x1),.fn 135 [] []]=(Qc x1).map bv:=by
 refine oe rfl ?_;refine bo (fV1 d x1) fun a=>?_;rfl
def F84 (x1:YE):aB Bool:=
 ((if x1.cU==1 then(Qc x1.eR).bind fun a=>some a else some false:aB (Bool))).bind fun b=>some b
theorem rY1 {k} (d) (x1:YE):OD k (d+4) 84 [.agg (YE.g x1)]=(F84 x1).map bv:=by
 refine oe rfl ?_;refine bo (e:=id) ?_ fun b=>?_;refine io ?_ rfl;refine bo (lK1 d x1.eR) fun a=>?_;rfl;rfl
def Fu (x1:Y0) (a b f:Int):aB (aA YE):=
 ((if((decide (a<0))||(decide (a>=(x1.aE.length:Int))))||(decide (b<0))then some true else(aV x1.aE a).bind fun g=>some (decide (b>=(g.aS.length:Int))):aB (Bool))).bind fun h=>((if h||(decide (f<0))then some true else(aV x1.aE a).bind fun i=>(aV i.aS b).bind fun j=>some (decide (f>=(j.aO.length:Int))):aB (Bool))).bind fun k=>if k then some []else(aV x1.aE a).bind fun c=>(aV c.aS b).bind fun d=>(aV d.aO f).bind fun e=>some e.aU
theorem Qd {k} (d) (x1:Y0) (a b c:Int):OD k (d+1) 137 [.agg (Y0.g x1),i64 a,i64 b,i64 c]=(Fu x1 a b c).map (fun j=>.is 13 (I YE.g j)):=by
 refine oe rfl ?_;refine bz (fW (bz lm rfl)) ?_;refine bz (fW rfl) ?_;refine bo (e:=id) ?_ fun m=>?_;refine io rfl ?_;refine bo rg fun l=>?_;refine bz lm ?_;rfl;refine bz (fW rfl) ?_;refine bo (e:=id) ?_ fun p=>?_;refine io rfl ?_;refine bo rg fun n=>?_;refine bo rg fun o=>?_;refine bz lm ?_;rfl;refine io rfl ?_;refine bo rg fun f=>?_;refine bo rg fun h=>?_;refine bo rg fun i=>?_;rfl
def Yt (x1:Y0) (a:YP):aB Int:=
 if a.cU !=4 then some 11 else((if decide (a.lY<0)then some true else(Fu x1 a.bS a.dZ a.eW).bind fun b=>some (decide (a.lY>=(b.length:Int))):aB (Bool))).bind fun c=>if c then some 2 else some 0
theorem iS1 {k} (d) (x1:Y0) (a:YP):OD k (d+2) 136 [.agg (Y0.g x1),.agg (YP.g a)]=(Yt x1 a).map i64:=by
 refine oe rfl ?_;refine io rfl ?_;refine bo (e:=id) ?_ fun c=>?_;refine io rfl ?_;refine bo (Qd d x1 a.bS a.dZ a.eW) fun b=>?_;refine bz lm ?_;rfl;refine io rfl rfl
def Yu (x1 a:Int) (b c:Int):aB YP:=
 some (YP.mk 4 0 a x1 b c 0)
theorem iT1 {k} (d) (x1 a:Int) (b c:Int):OD k (d+1) 138 [i64 x1,i64 a,i64 b,i64 c]=(Yu x1 a b c).map (fun e=>.agg (YP.g e)):=by
 refine oe rfl ?_;rfl
def F85 (x1:Y0) (a:YP):aB (YP×Bool):=
 (Yt x1 a).bind fun b=>if b !=0 then some ((YP.mk 0 0 0 0 0 0 0),false)else(Fu x1 a.bS a.dZ a.eW).bind fun c=>if decide ((bD (a.lY+1))<(c.length:Int))then(Yu a.bS a.dZ a.eW (bD (a.lY+1))).bind fun d=>some (d,true)else(Fu x1 (bD (a.bS+1)) a.dZ a.eW).bind fun e=>if decide ((e.length:Int)>0)then(Yu (bD (a.bS+1)) a.dZ a.eW 0).bind fun f=>some (f,true)else some ((YP.mk 0 0 0 0 0 0 0),false)
theorem sA1 {k} (d) (x1:Y0) (a:YP):OD k (d+3) 85 [.agg (Y0.g x1),.agg (YP.g a)]=(F85 x1 a).map (fun⟨b,c⟩=>.tup [.agg (YP.g b),bv c]):=by
 refine oe rfl ?_;refine bo (iS1 d x1 a) fun e=>?_;refine io rfl ?_;refine bo (Qd (d+1) x1 a.bS a.dZ a.eW) fun f=>?_;refine bz lm ?_;refine io ?_ ?_;refine bo (iT1 (d+1) a.bS a.dZ a.eW (bD (a.lY+1))) fun h=>?_;rfl;refine bo (Qd (d+1) x1 (bD (a.bS+1)) a.dZ a.eW) fun i=>?_;refine bz lm ?_;refine io ?_ rfl;refine bo (iT1 (d+1) (bD (a.bS+1)) a.dZ a.eW 0) fun j=>?_;rfl
def fW1 (x1:YE):aB YE:=
 (rZ x1.eR).bind fun a=>(rZ x1.fS).bind fun b=>(rZ x1.dA).bind fun c=>some (YE.mk x1.ID x1.cU x1.Value a b x1.cV x1.iU x1.iL c x1.Bs x1.Br)
theorem sB1 {k} (d) (x1:YE):OD k (d+2) 139 [.agg (YE.g x1)]=(fW1 x1).map (fun a=>.agg (YE.g a)):=by
 refine oe rfl ?_;refine bo (sA 180 (d+1) 5 _ _ rfl rfl rfl) fun b=>?_;refine bo (sA 181 (d+1) 5 _ _ rfl rfl rfl) fun c=>?_;refine bo (sA 182 (d+1) 2 _ _ rfl rfl rfl) fun e=>?_;rfl
def F86 (x1:Y0) (a:YP):aB (YE×Int):=
 (Yt x1 a).bind fun b=>if b !=0 then some ((YE.mk (YZ.mk 0 0) 0 (YA.mk 0 0) [] [] 0 0 0 [] 0 0),b)else(Fu x1 a.bS a.dZ a.eW).bind fun c=>(aV c a.lY).bind fun d=>(fW1 d).bind fun e=>some (e,0)
theorem cP2 {k} (d) (x1:Y0) (a:YP):OD k (d+3) 86 [.agg (Y0.g x1),.agg (YP.g a)]=(F86 x1 a).map (fun⟨c,e⟩=>.tup [.agg (YE.g c),i64 e]):=by
 refine oe rfl ?_;refine bo (iS1 d x1 a) fun f=>?_;refine io rfl ?_;refine bo (Qd (d+1) x1 a.bS a.dZ a.eW) fun h=>?_;refine bo rg fun b=>?_;refine bo (sB1 d b) fun i=>?_;rfl
def fX1 (x1 a:YB):aB Bool:=
 some (((x1.eN.qC==a.eN.qC)&&((x1.eN.oN==a.eN.oN)&&((x1.eN.kU==a.eN.kU)&&true)))!=false)
theorem sC1 {k} (d) (x1 a:YB):OD k (d+1) 140 [.agg (YB.g x1),.ip (YB.g a)]=(fX1 x1 a).map bv:=by
 refine oe rfl ?_;rfl
def Fv (x1:aA YB) (b:YB):aB Int:=
 (aX (E:=Int⊕Unit) (fun(a:Int)=>if decide (a<(x1.length:Int))then(aV x1 a).bind fun c=>(fX1 c b).bind fun d=>if d then some (.inr (.inl a))else some (.inl (bD (a+1)))else some (.inr (.inr ()))) bK 0).bind fun e=>(match e with|.inl x8=>some x8|.inr _=>some (-1))
theorem fY1 {k} (d) (x1:aA YB) (a:YB):OD k (d+2) 133 [.is 5 (I YB.g x1),.fn 140 [] [.ip (YB.g a)]]=(Fv x1 a).map i64:=by
 refine oe rfl ?_;refine bz lm ?_;refine bo (aL (S:=Int) (enc:=fun b=>(Q [(0,.is 5 (I YB.g x1)),(1,.fn 140 [] [.ip (YB.g a)]),(7,i64 (x1.length:Int)),(8,i64 b)] [])) (encE:=(fun|.inl c=>(rq [(4,i64 c)] [])|.inr _=>(xq 0 [] []))) (fun b=>?_) bK 0) fun f=>?_;refine ig fun e=>?_;refine bo (sC1 d e a) fun h=>?_;refine io rfl rfl;rcases f with c|_;rfl;rfl
def Qe (x1:aA YB) (a:YB):aB Bool:=
 (Fv x1 a).bind fun b=>some (decide (b>=0))
theorem lL1 {k} (d) (x1:aA YB) (a:YB):OD k (d+3) 79 [.is 5 (I YB.g x1),.fn 140 [] [.ip (YB.g a)]]=(Qe x1 a).map bv:=by
 refine oe rfl ?_;refine bo (fY1 d x1 a) fun b=>?_;rfl
def F87 (x1 e:YE):aB Bool:=
 if x1.cU !=1 then some true else(aX (E:=Unit⊕Unit) (fun(d:Int)=>if decide (d<(x1.eR.length:Int))then(aV x1.eR d).bind fun f=>((if f.Tf then((if e.cU==1 then(Qe e.eR f).bind fun g=>some g else some false:aB (Bool))).bind fun a=>some (!a)else some false:aB (Bool))).bind fun b=>if b then some (.inr (.inl ()))else some (.inl (bD (d+1)))else some (.inr (.inr ()))) bK 0).bind fun c=>(match c with|.inl _=>some false|.inr _=>some true)
theorem cQ2 {k} (d) (x1 a:YE):OD k (d+4) 87 [.agg (YE.g x1),.agg (YE.g a)]=(F87 x1 a).map bv:=by
 refine oe rfl ?_;refine io rfl ?_;refine bz lm ?_;refine bo (aL (S:=Int) (enc:=fun c=>(Q [(3,.ref 1 0),(11,.is 5 (I YB.g x1.eR)),(12,i64 (x1.eR.length:Int)),(13,i64 c)] [(1,.box (YE.g a)),(0,.box (YE.g x1))])) (encE:=(fun|.inl _=>(rq [(4,bv false)] [(1,.box (YE.g a)),(0,.box (YE.g x1))])|.inr _=>(xq 0 [] [(1,.box (YE.g a)),(0,.box (YE.g x1))]))) (fun c=>?_) bK 0) fun b=>?_;refine ig fun i=>?_;refine bo (e:=id) ?_ fun h=>?_;refine io ?_ rfl;refine bo (e:=id) ?_ fun f=>?_;refine io ?_ rfl;refine bo (lL1 d a.eR i) fun j=>?_;rfl;rfl;refine io rfl rfl;rcases b with _|_;rfl;rfl
def F83 (x1:YP) (b:YE) (c:YK):aB Bool:=
 (F84 b).bind fun d=>if !d then some false else(F85 c.s' x1).bind fun⟨e,f⟩=>(F86 c.s' e).bind fun⟨g,i⟩=>((if !f then some true else(F87 b g).bind fun h=>some (!h):aB (Bool))).bind fun a=>some a
theorem cR2 {k} (d) (x1:YP) (a:YE) (b:YK):OD k (d+5) 83 [.agg (YP.g x1),.agg (YE.g a),.ip [.ip (YK.g b)]]=(F83 x1 a b).map bv:=by
 refine oe rfl ?_;refine bo (rY1 d a) fun i=>?_;refine io rfl ?_;refine bo (sA1 (d+1) b.s' x1) fun⟨f,j⟩=>?_;refine bo (cP2 (d+1) b.s' f) fun⟨h,l⟩=>?_;refine bo (e:=id) ?_ fun c=>?_;refine io rfl ?_;refine bo (cQ2 d a h) fun m=>?_;rfl;rfl
def Fw (x1:aA YV) (s:Y0) (t:Int):aB (aA YV):=
 (aX (E:=aA YV) (fun(⟨c,m⟩:Int×(aA YV))=>if decide (c<(s.aE.length:Int))then(aV s.aE c).bind fun n=>(aX (E:=aA YV) (fun(⟨d,o⟩:Int×(aA YV))=>if decide (d<(n.aS.length:Int))then(aV n.aS d).bind fun p=>(aX (E:=aA YV) (fun(⟨e,q⟩:Int×(aA YV))=>if decide (e<(p.aO.length:Int))then(aV p.aO e).bind fun r=>(aX (E:=aA YV) (fun(⟨a,b⟩:Int×(aA YV))=>if decide (a<(r.aU.length:Int))then(aV r.aU a).bind fun f=>(F83 (YP.mk 4 0 d c e a 0) f (YK.mk s t b)).bind fun g=>(jS g f.ID b s t).bind fun h=>some (.inl ((bD (a+1)),h))else some (.inr b)) bK (0,q)).bind fun i=>some (.inl ((bD (e+1)),i))else some (.inr q)) bK (0,o)).bind fun j=>some (.inl ((bD (d+1)),j))else some (.inr o)) bK (0,m)).bind fun k=>some (.inl ((bD (c+1)),k))else some (.inr m)) bK (0,x1)).bind fun l=>some l
theorem fZ1 {k} (d) (x1:aA YV) (c:Y0) (i:Int):fU (XD k (d+6)) 73 [.ref 1 0,.fn 83 [] [.ref 3 0]] ((3,.box [.ref 1 0])::cL x1 c i) 4 false=(Fw x1 c i).map (fun(w:aA YV)=>((.tup [],((3,.box [.ref 1 0])::cL w c i),0))):=by
 rw[xd (fn:=p73) rfl];refine bz lm ?_;refine bo (aL (S:=Int×(aA YV)) (enc:=fun⟨b,s⟩=>(Q [(0,.ref 1 0),(1,.fn 83 [] [.ref 3 0]),(16,.is 22 (I YM.g c.aE)),(17,i64 (c.aE.length:Int)),(18,i64 b)] ((3,.box [.ref 1 0])::cL s c i))) (encE:=(fun(r:aA YV)=>(xq 0 [] ((3,.box [.ref 1 0])::cL r c i)))) (fun⟨b,s⟩=>?_) bK (0,x1)) fun r=>?_;refine ig fun a=>?_;refine bz lm ?_;refine bo (aL (S:=Int×(aA YV)) (enc:=fun⟨e,t⟩=>(Q [(0,.ref 1 0),(1,.fn 83 [] [.ref 3 0]),(4,i64 b),(16,.is 22 (I YM.g c.aE)),(17,i64 (c.aE.length:Int)),(18,i64 b),(24,.is 2 (I YW.g a.aS)),(25,i64 (a.aS.length:Int)),(26,i64 e)] ((4,.box (YM.g a))::(3,.box [.ref 1 0])::cL t c i))) (encE:=(fun(q:aA YV)=>(xq 2 [(0,.ref 1 0),(1,.fn 83 [] [.ref 3 0]),(16,.is 22 (I YM.g c.aE)),(17,i64 (c.aE.length:Int)),(18,i64 b)] ((4,.box (YM.g a))::(3,.box [.ref 1 0])::cL q c i)))) (fun⟨e,t⟩=>?_) bK (0,s)) fun q=>?_;refine ig fun f=>?_;refine bz lm ?_;refine bo (aL (S:=Int×(aA YV)) (enc:=fun⟨j,u⟩=>(Q [(0,.ref 1 0),(1,.fn 83 [] [.ref 3 0]),(4,i64 b),(6,i64 e),(16,.is 22 (I YM.g c.aE)),(17,i64 (c.aE.length:Int)),(18,i64 b),(24,.is 2 (I YW.g a.aS)),(25,i64 (a.aS.length:Int)),(26,i64 e),(32,.is 2 (I YO.g f.aO)),(33,i64 (f.aO.length:Int)),(34,i64 j)] ((5,.box (YW.g f))::(4,.box (YM.g a))::(3,.box [.ref 1 0])::cL u c i))) (encE:=(fun(p:aA YV)=>(xq 4 [(0,.ref 1 0),(1,.fn 83 [] [.ref 3 0]),(4,i64 b),(16,.is 22 (I YM.g c.aE)),(17,i64 (c.aE.length:Int)),(18,i64 b),(24,.is 2 (I YW.g a.aS)),(25,i64 (a.aS.length:Int)),(26,i64 e)] ((5,.box (YW.g f))::(4,.box (YM.g a))::(3,.box [.ref 1 0])::cL p c i)))) (fun⟨j,u⟩=>?_) bK (0,t)) fun p=>?_;refine ig fun m=>?_;refine bz lm ?_;refine bo (aL (S:=Int×(aA YV)) (enc:=fun⟨l,h⟩=>(Q [(0,.ref 1 0),(1,.fn 83 [] [.ref 3 0]),(4,i64 b),(6,i64 e),(8,i64 j),(16,.is 22 (I YM.g c.aE)),(17,i64 (c.aE.length:Int)),(18,i64 b),(24,.is 2 (I YW.g a.aS)),(25,i64 (a.aS.length:Int)),(26,i64 e),(32,.is 2 (I YO.g f.aO)),(33,i64 (f.aO.length:Int)),(34,i64 j),(40,.is 13 (I YE.g m.aU)),(41,i64 (m.aU.length:Int)),(42,i64 l)] ((6,.box (YO.g m))::(5,.box (YW.g f))::(4,.box (YM.g a))::(3,.box [.ref 1 0])::cL h c i))) (encE:=(fun(o:aA YV)=>(xq 6 [(0,.ref 1 0),(1,.fn 83 [] [.ref 3 0]),(4,i64 b),(6,i64 e),(16,.is 22 (I YM.g c.aE)),(17,i64 (c.aE.length:Int)),(18,i64 b),(24,.is 2 (I YW.g a.aS)),(25,i64 (a.aS.length:Int)),(26,i64 e),(32,.is 2 (I YO.g f.aO)),(33,i64 (f.aO.length:Int)),(34,i64 j)] ((6,.box (YO.g m))::(5,.box (YW.g f))::(4,.box (YM.g a))::(3,.box [.ref 1 0])::cL o c i)))) (fun⟨l,h⟩=>?_) bK (0,u)) fun o=>?_;refine ig fun n=>?_;refine bo (cR2 d (YP.mk 4 0 e b j l 0) n (YK.mk c i h)) fun v=>?_;refine bo (iF (d+4) v n.ID h c i) fun x=>?_;rfl;rfl;rfl;rfl;rfl
def Yv (x1:aA YV) (a:Y0) (b:Int):aB (aA YV):=
 (Fw x1 a b).bind fun c=>some c
theorem sD1 {k} (d) (x1:aA YV) (a:Y0) (b:Int):fU (XD k (d+7)) 40 [.ref 1 0] (cL x1 a b) 3 false=(Yv x1 a b).map (fun(c:aA YV)=>((.tup [],(cL c a b),0))):=by
 rw[xd (fn:=p40) rfl];refine bo (fZ1 d x1 a b) fun e=>?_;rfl
def gA1 (x1:YE) (a:Int):aB Bool:=
 ((if decide (a>=(x1.dA.length:Int))then some true else(aV x1.dA a).bind fun b=>some (((b.mR==(⟨#[]⟩:ByteArray))&&((b.xH==0)&&true))!=false):aB (Bool))).bind fun c=>some c
theorem sE1 {k} (d) (x1:YE) (a:Int):OD k (d+1) 141 [.agg (YE.g x1),i64 a]=(gA1 x1 a).map bv:=by
 refine oe rfl ?_;refine bz lm ?_;refine bo (e:=id) ?_ fun c=>?_;refine io rfl ?_;refine bo rg fun b=>?_;rfl;rfl
def gB1 (x1 O T:Int) (V:aA (YP×Bool)) (W:aA YV) (U:Y0) (X:Int):aB (aA (YP×Bool)):=
 (aX (E:=Int×Int×Int×Int×Int×YY×(aA (YP×Bool))) (fun(⟨e,n,o,p,q,r,s,t⟩:Int×Int×Int×Int×Int×Int×YY×(aA (YP×Bool)))=>if decide (e<(U.aE.length:Int))then(aV U.aE e).bind fun u=>((if decide (x1>=(u.aS.length:Int))then some true else(aV u.aS x1).bind fun P=>some (decide (O>=(P.aO.length:Int))):aB (Bool))).bind fun R=>if R then some (.inl ((bD (e+1)),n,o,p,q,r,s,t))else(aV u.aS x1).bind fun S=>(aV S.aO O).bind fun N=>(aX (E:=Int×Int×Int×Int×Int×YY×(aA (YP×Bool))) (fun(⟨a,f,g,h,i,j,b,c⟩:Int×Int×Int×Int×Int×Int×YY×(aA (YP×Bool)))=>if decide (a<(N.aU.length:Int))then(aV N.aU a).bind fun k=>(gA1 k T).bind fun v=>if v then some (.inl ((bD (a+1)),f,g,h,i,j,b,c))else(aV k.dA T).bind fun d=>((if(b.xH==1)&&(d.mR.toList==(⟨#[]⟩:ByteArray).toList)then some (Sg c (YP.mk f 0 g h i j 0) true)else some c:aB (aA (YP×Bool)))).bind fun l=>((if((d.mR.toList==(⟨#[]⟩:ByteArray).toList)&&(d.xH==2))&&(b.xH !=2)then some (Sg l (YP.mk 4 0 x1 e O a 0) true)else some l:aB (aA (YP×Bool)))).bind fun w=>some (.inl ((bD (a+1)),4,x1,e,O,a,d,w))else some (.inr (f,g,h,i,j,b,c))) bK (0,n,o,p,q,r,s,t)).bind fun⟨x,y,z,A,B,C,D⟩=>some (.inl ((bD (e+1)),x,y,z,A,B,C,D))else some (.inr (n,o,p,q,r,s,t))) bK (0,0,0,0,0,0,(YY.mk (⟨#[]⟩:ByteArray) 0),V)).bind fun⟨F,G,H,J,K,L,m⟩=>((if L.xH==1 then some (Sg m (YP.mk F 0 G H J K 0) true)else some m:aB (aA (YP×Bool)))).bind fun M=>some M
theorem sF1 {k} (d) (x1 y N:Int) (Y:aA (YP×Bool)) (z:aA YV) (c:Y0) (A:Int):fU (XD k (d+2)) 88 [.ref 1 0,i64 x1,i64 y,i64 N,.map 3] ((3,.mp (I (gY (eA YP.g) bv) Y))::cL z c A) 4 false=(gB1 x1 y N Y z c A).map (fun(X:aA (YP×Bool))=>((.tup [],((3,.mp (I (gY (eA YP.g) bv) X))::cL z c A),0))):=by
 rw[xd (fn:=p88) rfl];refine bz lm ?_;refine bo (aL (S:=Int×Int×Int×Int×Int×Int×YY×(aA (YP×Bool))) (enc:=fun⟨a,O,P,R,T,U,V,W⟩=>(Q [(1,i64 x1),(2,i64 y),(3,i64 N),(4,.map 3),(10,.ref 4 0),(11,.ref 5 0),(22,.is 22 (I YM.g c.aE)),(23,i64 (c.aE.length:Int)),(24,i64 a)] ((5,.box [i64 O,i64 0,i64 P,i64 R,i64 T,i64 U,i64 0])::(4,.box (YY.g V))::(3,.mp (I (gY (eA YP.g) bv) W))::cL z c A))) (encE:=(fun(⟨n,o,p,q,r,w,x⟩:Int×Int×Int×Int×Int×YY×(aA (YP×Bool)))=>(xq 0 [(4,.map 3),(10,.ref 4 0),(11,.ref 5 0)] ((5,.box [i64 n,i64 0,i64 o,i64 p,i64 q,i64 r,i64 0])::(4,.box (YY.g w))::(3,.mp (I (gY (eA YP.g) bv) x))::cL z c A)))) (fun⟨a,O,P,R,T,U,V,W⟩=>?_) bK (0,0,0,0,0,0,(YY.mk (⟨#[]⟩:ByteArray) 0),Y)) fun⟨n,o,p,q,r,w,x⟩=>?_;refine ig fun B=>?_;refine bz lm ?_;refine bo (e:=id) ?_ fun b0=>?_;refine io rfl ?_;refine bo rg fun a0=>?_;refine bz lm ?_;rfl;refine io rfl ?_;refine bo rg fun b4=>?_;refine bo rg fun s=>?_;refine bz lm ?_;refine bo (aL (S:=Int×Int×Int×Int×Int×Int×YY×(aA (YP×Bool))) (enc:=fun⟨b,f,h,i,j,l,m,t⟩=>(Q [(1,i64 x1),(2,i64 y),(3,i64 N),(4,.map 3),(10,.ref 4 0),(11,.ref 5 0),(12,i64 a),(22,.is 22 (I YM.g c.aE)),(23,i64 (c.aE.length:Int)),(24,i64 a),(54,.is 13 (I YE.g s.aU)),(55,i64 (s.aU.length:Int)),(56,i64 b)] ((6,.box (YM.g B))::(5,.box [i64 f,i64 0,i64 h,i64 i,i64 j,i64 l,i64 0])::(4,.box (YY.g m))::(3,.mp (I (gY (eA YP.g) bv) t))::cL z c A))) (encE:=(fun(⟨E,F,G,H,J,K,L⟩:Int×Int×Int×Int×Int×YY×(aA (YP×Bool)))=>(xq 2 [(1,i64 x1),(2,i64 y),(3,i64 N),(4,.map 3),(10,.ref 4 0),(11,.ref 5 0),(22,.is 22 (I YM.g c.aE)),(23,i64 (c.aE.length:Int)),(24,i64 a)] ((6,.box (YM.g B))::(5,.box [i64 E,i64 0,i64 F,i64 G,i64 H,i64 J,i64 0])::(4,.box (YY.g K))::(3,.mp (I (gY (eA YP.g) bv) L))::cL z c A)))) (fun⟨b,f,h,i,j,l,m,t⟩=>?_) bK (0,O,P,R,T,U,V,W)) fun⟨E,F,G,H,J,K,L⟩=>?_;refine ig fun u=>?_;refine bo (sE1 d u N) fun Z=>?_;refine io rfl ?_;refine bo rg fun C=>?_;refine bz (gE rfl) ?_;refine bo (e:=(fun(v:aA (YP×Bool))=>(nq [(1,i64 x1),(2,i64 y),(3,i64 N),(4,.map 3),(10,.ref 4 0),(11,.ref 5 0),(12,i64 a),(16,.ref 8 0),(17,.ref 9 0),(22,.is 22 (I YM.g c.aE)),(23,i64 (c.aE.length:Int)),(24,i64 a),(54,.is 13 (I YE.g s.aU)),(55,i64 (s.aU.length:Int)),(56,i64 b)] ((9,.box (YY.g C))::(8,.box [i64 4,i64 0,i64 x1,i64 a,i64 y,i64 b,i64 0])::(7,.box (YE.g u))::(6,.box (YM.g B))::(5,.box [i64 f,i64 0,i64 h,i64 i,i64 j,i64 l,i64 0])::(4,.box (YY.g m))::(3,.mp (I (gY (eA YP.g) bv) v))::cL z c A)))) ?_ fun v=>?_;refine io ?_ rfl;refine bz (oE iW bv t (YP.mk f 0 h i j l 0) true) ?_;rfl;refine bz (gE rfl) ?_;refine bz (gE rfl) ?_;refine bo (e:=(fun(D:aA (YP×Bool))=>(nq [(1,i64 x1),(2,i64 y),(3,i64 N),(4,.map 3),(10,.ref 4 0),(11,.ref 5 0),(12,i64 a),(16,.ref 8 0),(17,.ref 9 0),(22,.is 22 (I YM.g c.aE)),(23,i64 (c.aE.length:Int)),(24,i64 a),(54,.is 13 (I YE.g s.aU)),(55,i64 (s.aU.length:Int)),(56,i64 b)] ((9,.box (YY.g C))::(8,.box [i64 4,i64 0,i64 x1,i64 a,i64 y,i64 b,i64 0])::(7,.box (YE.g u))::(6,.box (YM.g B))::(5,.box [i64 f,i64 0,i64 h,i64 i,i64 j,i64 l,i64 0])::(4,.box (YY.g m))::(3,.mp (I (gY (eA YP.g) bv) D))::cL z c A)))) ?_ fun D=>?_;refine io ?_ rfl;refine bz (oE iW bv v (YP.mk 4 0 x1 a y b 0) true) ?_;rfl;rfl;rfl;refine bo (e:=(fun(M:aA (YP×Bool))=>(nq [] ((5,.box [i64 n,i64 0,i64 o,i64 p,i64 q,i64 r,i64 0])::(4,.box (YY.g w))::(3,.mp (I (gY (eA YP.g) bv) M))::cL z c A)))) ?_ fun M=>?_;refine io ?_ rfl;refine bz (oE iW bv x (YP.mk n 0 o p q r 0) true) ?_;rfl;rfl
def F89 (x1:YP) (b:YE) (a:aA (YP×Bool)):aB Bool:=
 some (Xr a x1 false)
theorem cS2 {k} (d) (x1:YP) (b:YE) (a:aA (YP×Bool)):OD k (d+1) 89 [.agg (YP.g x1),.agg (YE.g b),.ip [.im (I (gY (eA YP.g) bv) a)]]=(F89 x1 b a).map bv:=by
 refine oe rfl ?_;refine bz (Az iW bv a x1 false) ?_;rfl
def Fx (x1:aA (YP×Bool)) (t:aA YV) (s:Y0) (u:Int):aB (aA YV):=
 (aX (E:=aA YV) (fun(⟨b,m⟩:Int×(aA YV))=>if decide (b<(s.aE.length:Int))then(aV s.aE b).bind fun n=>(aX (E:=aA YV) (fun(⟨c,o⟩:Int×(aA YV))=>if decide (c<(n.aS.length:Int))then(aV n.aS c).bind fun p=>(aX (E:=aA YV) (fun(⟨d,q⟩:Int×(aA YV))=>if decide (d<(p.aO.length:Int))then(aV p.aO d).bind fun r=>(aX (E:=aA YV) (fun(⟨a,e⟩:Int×(aA YV))=>if decide (a<(r.aU.length:Int))then(aV r.aU a).bind fun f=>(F89 (YP.mk 4 0 c b d a 0) f x1).bind fun g=>(jS g f.ID e s u).bind fun h=>some (.inl ((bD (a+1)),h))else some (.inr e)) bK (0,q)).bind fun i=>some (.inl ((bD (d+1)),i))else some (.inr q)) bK (0,o)).bind fun j=>some (.inl ((bD (c+1)),j))else some (.inr o)) bK (0,m)).bind fun k=>some (.inl ((bD (b+1)),k))else some (.inr m)) bK (0,t)).bind fun l=>some l
theorem gC1 {k} (d) (x1:aA (YP×Bool)) (x:aA YV) (c:Y0) (i:Int):fU (XD k (d+2)) 73 [.ref 1 0,.fn 89 [] [.ref 4 0]] ((4,.box [.map 3])::(3,.mp (I (gY (eA YP.g) bv) x1))::cL x c i) 5 false=(Fx x1 x c i).map (fun(w:aA YV)=>((.tup [],((4,.box [.map 3])::(3,.mp (I (gY (eA YP.g) bv) x1))::cL w c i),0))):=by
 rw[xd (fn:=p73) rfl];refine bz lm ?_;refine bo (aL (S:=Int×(aA YV)) (enc:=fun⟨b,s⟩=>(Q [(0,.ref 1 0),(1,.fn 89 [] [.ref 4 0]),(16,.is 22 (I YM.g c.aE)),(17,i64 (c.aE.length:Int)),(18,i64 b)] ((4,.box [.map 3])::(3,.mp (I (gY (eA YP.g) bv) x1))::cL s c i))) (encE:=(fun(r:aA YV)=>(xq 0 [] ((4,.box [.map 3])::(3,.mp (I (gY (eA YP.g) bv) x1))::cL r c i)))) (fun⟨b,s⟩=>?_) bK (0,x)) fun r=>?_;refine ig fun a=>?_;refine bz lm ?_;refine bo (aL (S:=Int×(aA YV)) (enc:=fun⟨e,t⟩=>(Q [(0,.ref 1 0),(1,.fn 89 [] [.ref 4 0]),(4,i64 b),(16,.is 22 (I YM.g c.aE)),(17,i64 (c.aE.length:Int)),(18,i64 b),(24,.is 2 (I YW.g a.aS)),(25,i64 (a.aS.length:Int)),(26,i64 e)] ((5,.box (YM.g a))::(4,.box [.map 3])::(3,.mp (I (gY (eA YP.g) bv) x1))::cL t c i))) (encE:=(fun(q:aA YV)=>(xq 2 [(0,.ref 1 0),(1,.fn 89 [] [.ref 4 0]),(16,.is 22 (I YM.g c.aE)),(17,i64 (c.aE.length:Int)),(18,i64 b)] ((5,.box (YM.g a))::(4,.box [.map 3])::(3,.mp (I (gY (eA YP.g) bv) x1))::cL q c i)))) (fun⟨e,t⟩=>?_) bK (0,s)) fun q=>?_;refine ig fun f=>?_;refine bz lm ?_;refine bo (aL (S:=Int×(aA YV)) (enc:=fun⟨h,u⟩=>(Q [(0,.ref 1 0),(1,.fn 89 [] [.ref 4 0]),(4,i64 b),(6,i64 e),(16,.is 22 (I YM.g c.aE)),(17,i64 (c.aE.length:Int)),(18,i64 b),(24,.is 2 (I YW.g a.aS)),(25,i64 (a.aS.length:Int)),(26,i64 e),(32,.is 2 (I YO.g f.aO)),(33,i64 (f.aO.length:Int)),(34,i64 h)] ((6,.box (YW.g f))::(5,.box (YM.g a))::(4,.box [.map 3])::(3,.mp (I (gY (eA YP.g) bv) x1))::cL u c i))) (encE:=(fun(p:aA YV)=>(xq 4 [(0,.ref 1 0),(1,.fn 89 [] [.ref 4 0]),(4,i64 b),(16,.is 22 (I YM.g c.aE)),(17,i64 (c.aE.length:Int)),(18,i64 b),(24,.is 2 (I YW.g a.aS)),(25,i64 (a.aS.length:Int)),(26,i64 e)] ((6,.box (YW.g f))::(5,.box (YM.g a))::(4,.box [.map 3])::(3,.mp (I (gY (eA YP.g) bv) x1))::cL p c i)))) (fun⟨h,u⟩=>?_) bK (0,t)) fun p=>?_;refine ig fun m=>?_;refine bz lm ?_;refine bo (aL (S:=Int×(aA YV)) (enc:=fun⟨j,l⟩=>(Q [(0,.ref 1 0),(1,.fn 89 [] [.ref 4 0]),(4,i64 b),(6,i64 e),(8,i64 h),(16,.is 22 (I YM.g c.aE)),(17,i64 (c.aE.length:Int)),(18,i64 b),(24,.is 2 (I YW.g a.aS)),(25,i64 (a.aS.length:Int)),(26,i64 e),(32,.is 2 (I YO.g f.aO)),(33,i64 (f.aO.length:Int)),(34,i64 h),(40,.is 13 (I YE.g m.aU)),(41,i64 (m.aU.length:Int)),(42,i64 j)] ((7,.box (YO.g m))::(6,.box (YW.g f))::(5,.box (YM.g a))::(4,.box [.map 3])::(3,.mp (I (gY (eA YP.g) bv) x1))::cL l c i))) (encE:=(fun(o:aA YV)=>(xq 6 [(0,.ref 1 0),(1,.fn 89 [] [.ref 4 0]),(4,i64 b),(6,i64 e),(16,.is 22 (I YM.g c.aE)),(17,i64 (c.aE.length:Int)),(18,i64 b),(24,.is 2 (I YW.g a.aS)),(25,i64 (a.aS.length:Int)),(26,i64 e),(32,.is 2 (I YO.g f.aO)),(33,i64 (f.aO.length:Int)),(34,i64 h)] ((7,.box (YO.g m))::(6,.box (YW.g f))::(5,.box (YM.g a))::(4,.box [.map 3])::(3,.mp (I (gY (eA YP.g) bv) x1))::cL o c i)))) (fun⟨j,l⟩=>?_) bK (0,u)) fun o=>?_;refine ig fun n=>?_;refine bo (cS2 d (YP.mk 4 0 e b h j 0) n x1) fun v=>?_;refine bo (iF d v n.ID l c i) fun y=>?_;rfl;rfl;rfl;rfl;rfl
def Yw (x1:aA YV) (g:Y0) (m:Int):aB (aA YV):=
 (F49 g).bind fun n=>(aX (E:=aA (YP×Bool)) (fun(⟨a,d⟩:Int×(aA (YP×Bool)))=>if decide (a<n)then(aX (E:=aA (YP×Bool)) (fun(⟨b,e⟩:Int×(aA (YP×Bool)))=>if decide (b<2)then(aX (E:=aA (YP×Bool)) (fun(⟨c,f⟩:Int×(aA (YP×Bool)))=>if decide (c<4)then(gB1 a b c f x1 g m).bind fun h=>some (.inl ((bD (c+1)),h))else some (.inr f)) bK (0,e)).bind fun i=>some (.inl ((bD (b+1)),i))else some (.inr e)) bK (0,d)).bind fun j=>some (.inl ((bD (a+1)),j))else some (.inr d)) bK (0,[])).bind fun k=>(Fx k x1 g m).bind fun l=>some l
theorem sG1 {k} (d) (x1:aA YV) (c:Y0) (e:Int):fU (XD k (d+3)) 41 [.ref 1 0] (cL x1 c e) 3 false=(Yw x1 c e).map (fun(p:aA YV)=>((.tup [],(cL p c e),0))):=by
 rw[xd (fn:=p41) rfl];refine bo (pG1 (d+1) c) fun o=>?_;refine bo (aL (S:=Int×(aA (YP×Bool))) (enc:=fun⟨a,f⟩=>(Q [(0,.ref 1 0),(2,.ref 4 0),(13,i64 o),(14,i64 a)] ((4,.box [.map 3])::(3,.mp (I (gY (eA YP.g) bv) f))::cL x1 c e))) (encE:=(fun(l:aA (YP×Bool))=>(xq 0 [(0,.ref 1 0),(2,.ref 4 0)] ((4,.box [.map 3])::(3,.mp (I (gY (eA YP.g) bv) l))::cL x1 c e)))) (fun⟨a,f⟩=>?_) bK (0,[])) fun l=>?_;refine io ?_ rfl;refine bo (aL (S:=Int×(aA (YP×Bool))) (enc:=fun⟨b,h⟩=>(Q [(0,.ref 1 0),(2,.ref 4 0),(4,i64 a),(13,i64 o),(14,i64 a),(17,i64 b)] ((4,.box [.map 3])::(3,.mp (I (gY (eA YP.g) bv) h))::cL x1 c e))) (encE:=(fun(n:aA (YP×Bool))=>(xq 2 [(0,.ref 1 0),(2,.ref 4 0),(13,i64 o),(14,i64 a)] ((4,.box [.map 3])::(3,.mp (I (gY (eA YP.g) bv) n))::cL x1 c e)))) (fun⟨b,h⟩=>?_) bK (0,f)) fun n=>?_;refine io ?_ rfl;refine bo (aL (S:=Int×(aA (YP×Bool))) (enc:=fun⟨i,j⟩=>(Q [(0,.ref 1 0),(2,.ref 4 0),(4,i64 a),(5,i64 b),(13,i64 o),(14,i64 a),(17,i64 b),(20,i64 i)] ((4,.box [.map 3])::(3,.mp (I (gY (eA YP.g) bv) j))::cL x1 c e))) (encE:=(fun(m:aA (YP×Bool))=>(xq 4 [(0,.ref 1 0),(2,.ref 4 0),(4,i64 a),(13,i64 o),(14,i64 a),(17,i64 b)] ((4,.box [.map 3])::(3,.mp (I (gY (eA YP.g) bv) m))::cL x1 c e)))) (fun⟨i,j⟩=>?_) bK (0,h)) fun m=>?_;refine io ?_ rfl;refine bo (sF1 d a b i j x1 c e) fun q=>?_;rfl;rfl;rfl;refine bo (gC1 d l x1 c e) fun r=>?_;rfl
def yB (x1:Y0):aB Unit:=
 some ()
theorem Yx {k} (d) (x1:Y0):fU (XD k (d+1)) 113 [.ref 0 0] [(0,.box (Y0.g x1))] 4 true=(yB x1).map (fun(_:Unit)=>((.fn 164 [] [.ref 4 0],[(4,.box [.ref 0 0]),(0,.box (Y0.g x1))],5))):=by
 rw[xd (fn:=lB1) rfl];rfl
def uG (x1 d:Int) (e f:Int) (g h i:Int) (b:YJ) (j:Bool) (c:YP) (a:YZ):aB (Unit⊕Unit):=
 if((b.ID.iZ==a.iZ)&&((b.ID.dW==a.dW)&&true))!=false then some (.inl ())else some (.inr ())
theorem Su {k} (d) (x1 c:Int) (e f:Int) (h i j:Int) (m:YJ) (l:Bool) (b:YP) (a:YZ):zT (XD k (d+1)) 5 [.agg [i64 x1,i64 c,i64 e,i64 f,i64 h,i64 i,i64 j],.ip (YJ.g m)] [kN,(3,.box [bv l]),(2,.box (YP.g b)),(1,.box (YZ.g a))] 6=(uG x1 c e f h i j m l b a).map (fun|.inl _=>((bv false,[vX,(3,.box [bv true]),(2,.box [i64 x1,i64 c,i64 e,i64 f,i64 h,i64 i,i64 j]),(1,.box (YZ.g a))],0))|.inr _=>((bv true,[kN,(3,.box [bv l]),(2,.box (YP.g b)),(1,.box (YZ.g a))],0))):=by
 rw[yd];refine bz (okg lX) ?_;refine io rfl rfl
def oF (x1 d:Int) (e f:Int) (g h i:Int) (b:YF) (j:Bool) (c:YP) (a:YZ):aB (Unit⊕Unit):=
 if((b.ID.iZ==a.iZ)&&((b.ID.dW==a.dW)&&true))!=false then some (.inl ())else some (.inr ())
theorem Kf {k} (d) (x1 c:Int) (e f:Int) (h i j:Int) (m:YF) (l:Bool) (b:YP) (a:YZ):zT (XD k (d+1)) 5 [.agg [i64 x1,i64 c,i64 e,i64 f,i64 h,i64 i,i64 j],.ip (YF.g m)] [kN,(3,.box [bv l]),(2,.box (YP.g b)),(1,.box (YZ.g a))] 6=(oF x1 c e f h i j m l b a).map (fun|.inl _=>((bv false,[vX,(3,.box [bv true]),(2,.box [i64 x1,i64 c,i64 e,i64 f,i64 h,i64 i,i64 j]),(1,.box (YZ.g a))],0))|.inr _=>((bv true,[kN,(3,.box [bv l]),(2,.box (YP.g b)),(1,.box (YZ.g a))],0))):=by
 rw[yd];refine bz (okg lX) ?_;refine io rfl rfl
def oG (x1 d:Int) (e f:Int) (g h i:Int) (b:YM) (j:Bool) (c:YP) (a:YZ):aB (Unit⊕Unit):=
 if((b.ID.iZ==a.iZ)&&((b.ID.dW==a.dW)&&true))!=false then some (.inl ())else some (.inr ())
theorem Kg {k} (d) (x1 c:Int) (e f:Int) (h i j:Int) (m:YM) (l:Bool) (b:YP) (a:YZ):zT (XD k (d+1)) 5 [.agg [i64 x1,i64 c,i64 e,i64 f,i64 h,i64 i,i64 j],.ip (YM.g m)] [kN,(3,.box [bv l]),(2,.box (YP.g b)),(1,.box (YZ.g a))] 6=(oG x1 c e f h i j m l b a).map (fun|.inl _=>((bv false,[vX,(3,.box [bv true]),(2,.box [i64 x1,i64 c,i64 e,i64 f,i64 h,i64 i,i64 j]),(1,.box (YZ.g a))],0))|.inr _=>((bv true,[kN,(3,.box [bv l]),(2,.box (YP.g b)),(1,.box (YZ.g a))],0))):=by
 rw[yd];refine bz (okg lX) ?_;refine io rfl rfl
def oH (x1 d:Int) (e f:Int) (g h i:Int) (b:YE) (j:Bool) (c:YP) (a:YZ):aB (Unit⊕Unit):=
 if((b.ID.iZ==a.iZ)&&((b.ID.dW==a.dW)&&true))!=false then some (.inl ())else some (.inr ())
theorem Kh {k} (d) (x1 c:Int) (e f:Int) (h i j:Int) (m:YE) (l:Bool) (b:YP) (a:YZ):zT (XD k (d+1)) 5 [.agg [i64 x1,i64 c,i64 e,i64 f,i64 h,i64 i,i64 j],.ip (YE.g m)] [kN,(3,.box [bv l]),(2,.box (YP.g b)),(1,.box (YZ.g a))] 6=(oH x1 c e f h i j m l b a).map (fun|.inl _=>((bv false,[vX,(3,.box [bv true]),(2,.box [i64 x1,i64 c,i64 e,i64 f,i64 h,i64 i,i64 j]),(1,.box (YZ.g a))],0))|.inr _=>((bv true,[kN,(3,.box [bv l]),(2,.box (YP.g b)),(1,.box (YZ.g a))],0))):=by
 rw[yd];refine bz (okg lX) ?_;refine io rfl rfl
def oI (x1 d:Int) (e f:Int) (g h i:Int) (b:YN) (j:Bool) (c:YP) (a:YZ):aB (Unit⊕Unit):=
 if((b.ID.iZ==a.iZ)&&((b.ID.dW==a.dW)&&true))!=false then some (.inl ())else some (.inr ())
theorem Ki {k} (d) (x1 c:Int) (e f:Int) (h i j:Int) (m:YN) (l:Bool) (b:YP) (a:YZ):zT (XD k (d+1)) 5 [.agg [i64 x1,i64 c,i64 e,i64 f,i64 h,i64 i,i64 j],.ip (YN.g m)] [kN,(3,.box [bv l]),(2,.box (YP.g b)),(1,.box (YZ.g a))] 6=(oI x1 c e f h i j m l b a).map (fun|.inl _=>((bv false,[vX,(3,.box [bv true]),(2,.box [i64 x1,i64 c,i64 e,i64 f,i64 h,i64 i,i64 j]),(1,.box (YZ.g a))],0))|.inr _=>((bv true,[kN,(3,.box [bv l]),(2,.box (YP.g b)),(1,.box (YZ.g a))],0))):=by
 rw[yd];refine bz (okg lX) ?_;refine io rfl rfl
def yC (x1:Y0) (u:Bool) (D:YP) (F:YZ):aB (YP⊕Unit):=
 (aX (E:=(Int×Int×Int)⊕Unit) (fun(⟨G,f⟩:Int×Int)=>if decide (f<(x1.bE.length:Int))then(aV x1.bE f).bind fun H=>(uG 1 f 0 0 0 0 0 H u D F).bind fun J=>(match J with|.inl _=>some (.inr (.inl (1,f,0)))|.inr _=>(aV x1.bE f).bind fun K=>(aX (E:=(Int×Int)⊕Int) (fun(⟨g,h⟩:Int×Int)=>if decide (h<(K.dR.length:Int))then(aV x1.bE f).bind fun L=>(aV L.dR h).bind fun M=>(oF 2 0 g 0 0 0 0 M u D F).bind fun N=>(match N with|.inl _=>some (.inr (.inl (g,g)))|.inr _=>some (.inl ((bD (g+1)),(bD (h+1)))))else some (.inr (.inr g))) bK (G,0)).bind fun O=>(match O with|.inl ⟨x33,x34⟩=>some (.inr (.inl (2,0,x34)))|.inr x35=>some (.inl (x35,(bD (f+1))))))else some (.inr (.inr ()))) bK (0,0)).bind fun P=>(match P with|.inl ⟨x37,x38,x39⟩=>some (.inl (YP.mk x37 x38 x39 0 0 0 0))|.inr _=>(aX (E:=(Int×Int×Int×Int×Int)⊕Unit) (fun(a:Int)=>if decide (a<(x1.aE.length:Int))then(aV x1.aE a).bind fun i=>(oG 3 0 0 a 0 0 0 i u D F).bind fun j=>(match j with|.inl _=>some (.inr (.inl (3,0,a,0,0)))|.inr _=>(aV x1.aE a).bind fun k=>(aX (E:=(Int×Int×Int)⊕Unit) (fun(b:Int)=>if decide (b<(k.aS.length:Int))then(aV x1.aE a).bind fun l=>(aV l.aS b).bind fun m=>(aX (E:=(Int×Int)⊕Unit) (fun(c:Int)=>if decide (c<(m.aO.length:Int))then(aV x1.aE a).bind fun n=>(aV n.aS b).bind fun o=>(aV o.aO c).bind fun p=>(aX (E:=Int⊕Unit) (fun(d:Int)=>if decide (d<(p.aU.length:Int))then(aV x1.aE a).bind fun q=>(aV q.aS b).bind fun r=>(aV r.aO c).bind fun s=>(aV s.aU d).bind fun t=>(oH 4 0 b a c d 0 t u D F).bind fun v=>(match v with|.inl _=>some (.inr (.inl d))|.inr _=>some (.inl (bD (d+1))))else some (.inr (.inr ()))) bK 0).bind fun w=>(match w with|.inl x201=>some (.inr (.inl (c,x201)))|.inr _=>some (.inl (bD (c+1))))else some (.inr (.inr ()))) bK 0).bind fun x=>(match x with|.inl ⟨x203,x204⟩=>some (.inr (.inl (b,x203,x204)))|.inr _=>some (.inl (bD (b+1))))else some (.inr (.inr ()))) bK 0).bind fun y=>(match y with|.inl ⟨x206,x207,x208⟩=>some (.inr (.inl (4,x206,a,x207,x208)))|.inr _=>some (.inl (bD (a+1)))))else some (.inr (.inr ()))) bK 0).bind fun z=>(match z with|.inl ⟨x210,x211,x212,x213,x214⟩=>some (.inl (YP.mk x210 0 x211 x212 x213 x214 0))|.inr _=>(aX (E:=Int⊕Unit) (fun(e:Int)=>if decide (e<(x1.bF.length:Int))then(aV x1.bF e).bind fun A=>(oI 5 0 0 0 0 0 e A u D F).bind fun B=>(match B with|.inl _=>some (.inr (.inl e))|.inr _=>some (.inl (bD (e+1))))else some (.inr (.inr ()))) bK 0).bind fun C=>(match C with|.inl x221=>some (.inl (YP.mk 5 0 0 0 0 0 x221))|.inr _=>some (.inr ()))))
theorem Yy {k} (d) (x1:Y0) (h:Bool) (i:YP) (c:YZ):fU (XD k (d+2)) 164 [.yld 5,.ref 4 0] [kN,(4,.box [.ref 0 0]),(0,.box (Y0.g x1)),(3,.box [bv h]),(2,.box (YP.g i)),(1,.box (YZ.g c))] 6 false=(yC x1 h i c).map (fun|.inl x223=>((.tup [],[vX,(4,.box [.ref 0 0]),(0,.box (Y0.g x1)),(3,.box [bv true]),(2,.box (YP.g x223)),(1,.box (YZ.g c))],0))|.inr _=>((.tup [],[kN,(4,.box [.ref 0 0]),(0,.box (Y0.g x1)),(3,.box [bv h]),(2,.box (YP.g i)),(1,.box (YZ.g c))],0))):=by
 rw[xd (fn:=lC1) rfl];refine bz lm ?_;refine bo (aL (S:=Int×Int) (enc:=fun⟨A,j⟩=>(Q [(0,.yld 5),(1,.ref 4 0),(3,i64 A),(15,i64 (x1.bE.length:Int)),(16,i64 j)] [kN,(4,.box [.ref 0 0]),(0,.box (Y0.g x1)),(3,.box [bv h]),(2,.box (YP.g i)),(1,.box (YZ.g c))])) (encE:=(fun|.inl ⟨U,V,W⟩=>(rq [(0,.yld 5),(1,.ref 4 0)] [vX,(4,.box [.ref 0 0]),(0,.box (Y0.g x1)),(3,.box [bv true]),(2,.box [i64 U,i64 V,i64 W,i64 0,i64 0,i64 0,i64 0]),(1,.box (YZ.g c))])|.inr _=>(xq 0 [(0,.yld 5),(1,.ref 4 0)] [kN,(4,.box [.ref 0 0]),(0,.box (Y0.g x1)),(3,.box [bv h]),(2,.box (YP.g i)),(1,.box (YZ.g c))]))) (fun⟨A,j⟩=>?_) bK (0,0)) fun b5=>?_;refine ig fun X=>?_;refine bo (Su d 1 j 0 0 0 0 0 X h i c) fun Y=>?_;rcases Y with _|_;rfl;refine bo rg fun Z=>?_;refine bz lm ?_;refine bo (aL (S:=Int×Int) (enc:=fun⟨B,P⟩=>(Q [(0,.yld 5),(1,.ref 4 0),(3,i64 B),(4,i64 j),(15,i64 (x1.bE.length:Int)),(16,i64 j),(39,i64 (Z.dR.length:Int)),(40,i64 P)] [kN,(3,.box [bv h]),(2,.box (YP.g i)),(1,.box (YZ.g c)),(4,.box [.ref 0 0]),(0,.box (Y0.g x1))])) (encE:=(fun|.inl ⟨R,T⟩=>(rq [(0,.yld 5),(1,.ref 4 0),(3,i64 R),(15,i64 (x1.bE.length:Int)),(16,i64 j)] [vX,(3,.box [bv true]),(2,.box [i64 2,i64 0,i64 T,i64 0,i64 0,i64 0,i64 0]),(1,.box (YZ.g c)),(4,.box [.ref 0 0]),(0,.box (Y0.g x1))])|.inr x35=>(xq 2 [(0,.yld 5),(1,.ref 4 0),(3,i64 x35),(15,i64 (x1.bE.length:Int)),(16,i64 j)] [kN,(3,.box [bv h]),(2,.box (YP.g i)),(1,.box (YZ.g c)),(4,.box [.ref 0 0]),(0,.box (Y0.g x1))]))) (fun⟨B,P⟩=>?_) bK (A,0)) fun b4=>?_;refine ig fun d3=>?_;refine bo rg fun a0=>?_;refine bo (Kf d 2 0 B 0 0 0 0 a0 h i c) fun b0=>?_;rcases b0 with _|_;rfl;rfl;rcases b4 with⟨R,T⟩|x35;rfl;rfl;rcases b5 with⟨U,V,W⟩|_;rfl;refine bz lm ?_;refine bo (aL (S:=Int) (enc:=fun a=>(Q [(0,.yld 5),(1,.ref 4 0),(67,i64 (x1.aE.length:Int)),(68,i64 a)] [kN,(4,.box [.ref 0 0]),(0,.box (Y0.g x1)),(3,.box [bv h]),(2,.box (YP.g i)),(1,.box (YZ.g c))])) (encE:=(fun|.inl ⟨u,v,w,x,y⟩=>(rq [(0,.yld 5),(1,.ref 4 0)] [vX,(4,.box [.ref 0 0]),(0,.box (Y0.g x1)),(3,.box [bv true]),(2,.box [i64 u,i64 0,i64 v,i64 w,i64 x,i64 y,i64 0]),(1,.box (YZ.g c))])|.inr _=>(xq 4 [(0,.yld 5),(1,.ref 4 0)] [kN,(4,.box [.ref 0 0]),(0,.box (Y0.g x1)),(3,.box [bv h]),(2,.box (YP.g i)),(1,.box (YZ.g c))]))) (fun a=>?_) bK 0) fun L=>?_;refine ig fun C=>?_;refine bo (Kg d 3 0 0 a 0 0 0 C h i c) fun D=>?_;rcases D with _|_;rfl;refine bo rg fun f=>?_;refine bz lm ?_;refine bo (aL (S:=Int) (enc:=fun b=>(Q [(0,.yld 5),(1,.ref 4 0),(6,i64 a),(67,i64 (x1.aE.length:Int)),(68,i64 a),(91,i64 (f.aS.length:Int)),(92,i64 b)] [kN,(3,.box [bv h]),(2,.box (YP.g i)),(1,.box (YZ.g c)),(4,.box [.ref 0 0]),(0,.box (Y0.g x1))])) (encE:=(fun|.inl ⟨r,s,t⟩=>(rq [(0,.yld 5),(1,.ref 4 0),(67,i64 (x1.aE.length:Int)),(68,i64 a)] [vX,(3,.box [bv true]),(2,.box [i64 4,i64 0,i64 r,i64 a,i64 s,i64 t,i64 0]),(1,.box (YZ.g c)),(4,.box [.ref 0 0]),(0,.box (Y0.g x1))])|.inr _=>(xq 6 [(0,.yld 5),(1,.ref 4 0),(67,i64 (x1.aE.length:Int)),(68,i64 a)] [kN,(3,.box [bv h]),(2,.box (YP.g i)),(1,.box (YZ.g c)),(4,.box [.ref 0 0]),(0,.box (Y0.g x1))]))) (fun b=>?_) bK 0) fun K=>?_;refine ig fun b6=>?_;refine bo rg fun l=>?_;refine bz lm ?_;refine bo (aL (S:=Int) (enc:=fun e=>(Q [(0,.yld 5),(1,.ref 4 0),(6,i64 a),(7,i64 b),(67,i64 (x1.aE.length:Int)),(68,i64 a),(91,i64 (f.aS.length:Int)),(92,i64 b),(107,i64 (l.aO.length:Int)),(108,i64 e)] [kN,(3,.box [bv h]),(2,.box (YP.g i)),(1,.box (YZ.g c)),(4,.box [.ref 0 0]),(0,.box (Y0.g x1))])) (encE:=(fun|.inl ⟨p,q⟩=>(rq [(0,.yld 5),(1,.ref 4 0),(6,i64 a),(67,i64 (x1.aE.length:Int)),(68,i64 a),(91,i64 (f.aS.length:Int)),(92,i64 b)] [vX,(3,.box [bv true]),(2,.box [i64 4,i64 0,i64 b,i64 a,i64 p,i64 q,i64 0]),(1,.box (YZ.g c)),(4,.box [.ref 0 0]),(0,.box (Y0.g x1))])|.inr _=>(xq 8 [(0,.yld 5),(1,.ref 4 0),(6,i64 a),(67,i64 (x1.aE.length:Int)),(68,i64 a),(91,i64 (f.aS.length:Int)),(92,i64 b)] [kN,(3,.box [bv h]),(2,.box (YP.g i)),(1,.box (YZ.g c)),(4,.box [.ref 0 0]),(0,.box (Y0.g x1))]))) (fun e=>?_) bK 0) fun J=>?_;refine ig fun b7=>?_;refine bo rg fun b8=>?_;refine bo rg fun E=>?_;refine bz lm ?_;refine bo (aL (S:=Int) (enc:=fun m=>(Q [(0,.yld 5),(1,.ref 4 0),(6,i64 a),(7,i64 b),(8,i64 e),(67,i64 (x1.aE.length:Int)),(68,i64 a),(91,i64 (f.aS.length:Int)),(92,i64 b),(107,i64 (l.aO.length:Int)),(108,i64 e),(127,i64 (E.aU.length:Int)),(128,i64 m)] [kN,(3,.box [bv h]),(2,.box (YP.g i)),(1,.box (YZ.g c)),(4,.box [.ref 0 0]),(0,.box (Y0.g x1))])) (encE:=(fun|.inl o=>(rq [(0,.yld 5),(1,.ref 4 0),(6,i64 a),(7,i64 b),(67,i64 (x1.aE.length:Int)),(68,i64 a),(91,i64 (f.aS.length:Int)),(92,i64 b),(107,i64 (l.aO.length:Int)),(108,i64 e)] [vX,(3,.box [bv true]),(2,.box [i64 4,i64 0,i64 b,i64 a,i64 e,i64 o,i64 0]),(1,.box (YZ.g c)),(4,.box [.ref 0 0]),(0,.box (Y0.g x1))])|.inr _=>(xq 10 [(0,.yld 5),(1,.ref 4 0),(6,i64 a),(7,i64 b),(67,i64 (x1.aE.length:Int)),(68,i64 a),(91,i64 (f.aS.length:Int)),(92,i64 b),(107,i64 (l.aO.length:Int)),(108,i64 e)] [kN,(3,.box [bv h]),(2,.box (YP.g i)),(1,.box (YZ.g c)),(4,.box [.ref 0 0]),(0,.box (Y0.g x1))]))) (fun m=>?_) bK 0) fun H=>?_;refine ig fun b9=>?_;refine bo rg fun d0=>?_;refine bo rg fun d2=>?_;refine bo rg fun F=>?_;refine bo (Kh d 4 0 b a e m 0 F h i c) fun G=>?_;rcases G with _|_;rfl;rfl;rcases H with o|_;rfl;rfl;rcases J with⟨p,q⟩|_;rfl;rfl;rcases K with⟨r,s,t⟩|_;rfl;rfl;rcases L with⟨u,v,w,x,y⟩|_;rfl;refine bz lm ?_;refine bo (aL (S:=Int) (enc:=fun n=>(Q [(0,.yld 5),(1,.ref 4 0),(166,i64 (x1.bF.length:Int)),(167,i64 n)] [kN,(4,.box [.ref 0 0]),(0,.box (Y0.g x1)),(3,.box [bv h]),(2,.box (YP.g i)),(1,.box (YZ.g c))])) (encE:=(fun|.inl z=>(rq [] [vX,(4,.box [.ref 0 0]),(0,.box (Y0.g x1)),(3,.box [bv true]),(2,.box [i64 5,i64 0,i64 0,i64 0,i64 0,i64 0,i64 z]),(1,.box (YZ.g c))])|.inr _=>(xq 12 [] [kN,(4,.box [.ref 0 0]),(0,.box (Y0.g x1)),(3,.box [bv h]),(2,.box (YP.g i)),(1,.box (YZ.g c))]))) (fun n=>?_) bK 0) fun O=>?_;refine ig fun M=>?_;refine bo (Ki d 5 0 0 0 0 0 n M h i c) fun N=>?_;rcases N with _|_;rfl;rfl;rcases O with z|_;rfl;rfl
end Go.P
namespace Go.P
open Go.Sim (Ex eE CK)
open K (I Q rq nq xq ck)
def gD1 (x1:Y0) (a:YZ):aB (YP×Bool):=
 if((a.iZ==0)&&((a.dW==0)&&true))!=false then some ((YP.mk 0 0 0 0 0 0 0),false)else(yB x1).bind fun _=>(yC x1 false (YP.mk 0 0 0 0 0 0 0) a).bind fun b=>(match b with|.inl x3=>some (x3,true)|.inr _=>some ((YP.mk 0 0 0 0 0 0 0),false))
theorem sH1 {k} (d) (x1:Y0) (a:YZ):OD k (d+3) 183 [.agg (Y0.g x1),.agg (YZ.g a)]=(gD1 x1 a).map (fun⟨c,e⟩=>.tup [.agg (YP.g c),bv e]):=by
 refine oe rfl ?_;refine io rfl ?_;refine bo (Yx (d+1) x1) fun _=>?_;refine bo (Yy d x1 false (YP.mk 0 0 0 0 0 0 0) a) fun b=>?_;rcases b with f|_;rfl;rfl
def gE1 (x1:aA Int):aB (aA Int):=
 (rB (x1.length:Int) (x1.length:Int) 0).bind fun j=>(aX (E:=aA Int) (fun(⟨b,a⟩:Int×(aA Int))=>if decide (b<(x1.length:Int))then(fK a (bD (b-1))).bind fun c=>(gQ a c).bind fun d=>(aV x1 (bD (b-1))).bind fun e=>(fK a b).bind fun f=>(Fc a f (fun i=>(bD (d+e)))).bind fun g=>some (.inl ((bD (b+1)),g))else some (.inr a)) bK (1,j)).bind fun h=>some h
theorem sI1 {k} (d) (x1:aA Int):OD k (d+1) 202 [.is 1 (I cI x1)]=(gE1 x1).map (fun q=>.is 1 (I cI q)):=by
 refine oe rfl ?_;refine bz lm ?_;refine bo (jQ cI _ _ 0) fun p=>?_;refine bo (aL (S:=Int×(aA Int)) (enc:=fun⟨i,a⟩=>(Q [(0,.is 1 (I cI x1)),(3,.own 0),(4,i64 i)] [(0,.lst 3 1 true (I cI a))])) (encE:=(fun(e:aA Int)=>(xq 0 [(3,.own 0)] [(0,.lst 3 1 true (I cI e))]))) (fun⟨i,a⟩=>?_) bK (1,p)) fun e=>?_;refine bz lm ?_;refine io ?_ rfl;refine bo (bU cI a _) fun j=>?_;refine bo (cP (A:=Int) (c:=cI) (g:=fun b=>i64 b) (fun _=>rfl) a _) fun b=>?_;refine bo rg fun h=>?_;refine bo (bU cI a _) fun l=>?_;refine bo (vU (A:=Int) (c:=cI) (m:=1) (f:=fun n=>(bD (b+h))) (fun _=>⟨rfl,rfl⟩) (oO2 rfl) a _) fun o=>?_;rfl;rfl
def gF1 (x1:YO) (b:Int):aB ((aA Int)×Int):=
 (Ym x1 b).bind fun⟨c,a⟩=>if a !=0 then some ([],a)else(gE1 c).bind fun d=>some (d,0)
theorem sJ1 {k} (d) (x1:YO) (a:Int):OD k (d+14) 184 [.agg (YO.g x1),i64 a]=(gF1 x1 a).map (fun⟨c,e⟩=>.tup [.is 1 (I cI c),i64 e]):=by
 refine oe rfl ?_;refine bo (iQ1 d x1 a) fun⟨b,f⟩=>?_;refine io rfl ?_;refine bo (sI1 (d+12) b) fun h=>?_;rfl
def Yz (x1:YK) (f:YZ):aB (YQ×Bool):=
 (gD1 x1.s' f).bind fun⟨a,g⟩=>if(!g)||(a.cU !=4)then some ((YQ.mk 0 0 0 0),false)else(aV x1.s'.aE a.bS).bind fun d=>(F68 d).bind fun⟨h,k⟩=>(aV d.aS a.dZ).bind fun i=>(aV i.aO a.eW).bind fun j=>(gF1 j h).bind fun⟨b,e⟩=>if decide (a.lY>=(b.length:Int))then some ((YQ.mk 0 0 0 0),false)else(aV b a.lY).bind fun c=>some ((YQ.mk a.bS c a.dZ a.eW),true)
theorem iU1 {k} (d) (x1:YK) (a:YZ):OD k (d+15) 142 [.ip (YK.g x1),.agg (YZ.g a)]=(Yz x1 a).map (fun⟨j,l⟩=>.tup [.agg (YQ.g j),bv l]):=by
 refine oe rfl ?_;refine bo (sH1 (d+11) x1.s' a) fun⟨m,n⟩=>?_;refine bz (fW rfl) ?_;refine io rfl ?_;refine bo rg fun f=>?_;refine bo (Sq (d+10) f) fun⟨h,o⟩=>?_;refine bo rg fun p=>?_;refine bo rg fun i=>?_;refine bo (sJ1 d i h) fun⟨b,c⟩=>?_;refine bz lm ?_;refine io rfl ?_;refine bo rg fun e=>?_;rfl
def Mw (x1 a:Int):aB Bool:=
 some ((decide (x1>=0))&&(decide (x1<=a)))
theorem Qf {k} (d) (x1 a:Int):OD k (d+1) 203 [i64 x1,i64 a]=(Mw x1 a).map bv:=by
 refine oe rfl ?_;refine bz (gE rfl) ?_;rfl
def Za (x1:YQ):aB Bool:=
 (Mw x1.bS 1023).bind fun a=>((if a then(Mw x1.At 4398046511104).bind fun b=>some b else some false:aB (Bool))).bind fun c=>((if c then(Mw x1.dZ 127).bind fun d=>some d else some false:aB (Bool))).bind fun e=>((if e then(Mw x1.eW 1).bind fun f=>some f else some false:aB (Bool))).bind fun g=>some g
theorem iV1 {k} (d) (x1:YQ):OD k (d+2) 185 [.agg (YQ.g x1)]=(Za x1).map bv:=by
 refine oe rfl ?_;refine bo (Qf d x1.bS 1023) fun a=>?_;refine bo (e:=id) ?_ fun c=>?_;refine io ?_ rfl;refine bo (Qf d x1.At 4398046511104) fun b=>?_;rfl;refine bo (e:=id) ?_ fun h=>?_;refine io ?_ rfl;refine bo (Qf d x1.dZ 127) fun f=>?_;rfl;refine bo (e:=id) ?_ fun j=>?_;refine io ?_ rfl;refine bo (Qf d x1.eW 1) fun i=>?_;rfl;rfl
def Zb (x1:Int):aB Bool:=
 some ((x1==1)||(x1==7))
theorem iW1 {k} (d) (x1:Int):OD k (d+1) 186 [i64 x1]=(Zb x1).map bv:=by
 refine oe rfl ?_;refine bz (fW rfl) ?_;rfl
def Zc (x1:Int):aB Bool:=
 some (x1 !=x1)
theorem iX1 {k} (d) (x1:Int):OD k (d+1) 213 [i64 x1]=(Zc x1).map bv:=by
 refine oe rfl ?_;rfl
def Zd (x1 a:Int):aB Int:=
 (Zc x1).bind fun c=>(Zc a).bind fun b=>if c then if b then some 0 else some (-1)else if b then some 1 else if decide (x1<a)then some (-1)else if decide (x1>a)then some 1 else some 0
theorem iY1 {k} (d) (x1 a:Int):OD k (d+2) 205 [i64 x1,i64 a]=(Zd x1 a).map i64:=by
 refine oe rfl ?_;refine bo (iX1 d x1) fun b=>?_;refine bo (iX1 d a) fun c=>?_;refine io ?_ ?_;refine io rfl rfl;refine io rfl ?_;refine io rfl ?_;refine io rfl rfl
def gG1 (x1:aA Int):aB Int:=
 (aX (E:=Int⊕Unit) (fun(a:Int)=>if decide (a<(x1.length:Int))then(aV x1 a).bind fun b=>if b !=0 then some (.inr (.inl b))else some (.inl (bD (a+1)))else some (.inr (.inr ()))) bK 0).bind fun c=>(match c with|.inl x5=>some x5|.inr _=>some 0)
theorem sK1 {k} (d) (x1:aA Int):OD k (d+1) 204 [.is 1 (I cI x1)]=(gG1 x1).map i64:=by
 refine oe rfl ?_;refine bz lm ?_;refine bo (aL (S:=Int) (enc:=fun a=>(Q [(3,i64 0),(6,.is 1 (I cI x1)),(7,i64 (x1.length:Int)),(8,i64 a)] [])) (encE:=(fun|.inl b=>(rq [(2,i64 b),(3,i64 0)] [])|.inr _=>(xq 0 [(3,i64 0)] []))) (fun a=>?_) bK 0) fun c=>?_;refine ig fun e=>?_;refine io rfl rfl;rcases c with b|_;rfl;rfl
def Bq (x1 a:YQ):aB Int:=
 (Zd x1.bS a.bS).bind fun b=>(Zd x1.At a.At).bind fun c=>(gG1 [b,c]).bind fun d=>some d
theorem Bd {k} (d) (x1 a:YQ):OD k (d+3) 187 [.agg (YQ.g x1),.agg (YQ.g a)]=(Bq x1 a).map i64:=by
 refine oe rfl ?_;refine bo (iY1 d x1.bS a.bS) fun b=>?_;refine bo (iY1 d x1.At a.At) fun c=>?_;refine bo (sK1 (d+1) [b,c]) fun e=>?_;rfl
def gH1 (x1:YS):aB Int:=
 if(decide (x1.cU<1))||(decide (x1.cU>7))then some 11 else(Za x1.gF).bind fun a=>((if !a then some true else(Za x1.To).bind fun b=>some (!b):aB (Bool))).bind fun c=>if c then some 2 else((if x1.gF.dZ !=x1.To.dZ then some true else(Zb x1.cU).bind fun d=>some (d&&(x1.gF.eW !=x1.To.eW)):aB (Bool))).bind fun e=>if e then some 23 else(Bq x1.gF x1.To).bind fun f=>if decide (f>=0)then some 25 else some 0
theorem sL1 {k} (d) (x1:YS):OD k (d+4) 143 [.agg (YS.g x1)]=(gH1 x1).map i64:=by
 refine oe rfl ?_;refine bz (fW rfl) ?_;refine io rfl ?_;refine bo (iV1 (d+1) x1.gF) fun a=>?_;refine bo (e:=id) ?_ fun c=>?_;refine io rfl ?_;refine bo (iV1 (d+1) x1.To) fun b=>?_;rfl;refine io rfl ?_;refine bo (e:=id) ?_ fun h=>?_;refine io rfl ?_;refine bo (iW1 (d+2) x1.cU) fun f=>?_;refine bz (gE rfl) ?_;rfl;refine io rfl ?_;refine bo (Bd d x1.gF x1.To) fun i=>?_;refine io rfl rfl
def Ze (x1:aA YV) (g:Y0) (p:Int):aB ((aA Bool)×(aA YS)):=
 (aX (E:=(aA Bool)×(aA YS)) (fun(⟨b,c,d⟩:Int×(aA Bool)×(aA YS))=>if decide (b<(g.bF.length:Int))then(aV g.bF b).bind fun a=>(Yz (YK.mk g p x1) a.gF).bind fun⟨e,h⟩=>(Yz (YK.mk g p x1) a.To).bind fun⟨f,i⟩=>(qQ false d [(YS.mk a.cU e f)]).bind fun j=>((if(!h)||(!i)then some true else(gH1 (YS.mk a.cU e f)).bind fun k=>some (k !=0):aB (Bool))).bind fun l=>(qQ false c [l]).bind fun m=>some (.inl ((bD (b+1)),m,j))else some (.inr (c,d))) bK (0,[],[])).bind fun⟨n,o⟩=>some (n,o)
theorem iZ1 {k} (d) (x1:aA YV) (b:Y0) (h:Int):fU (XD k (d+16)) 90 [.ref 1 0] (cL x1 b h) 3 true=(Ze x1 b h).map (fun(⟨p,q⟩:(aA Bool)×(aA YS))=>((.tup [.own 3,.own 4],((4,.lst 4 1 false (I cB p))::(3,.lst 161 9 false (I YS.g q))::cL x1 b h),5))):=by
 rw[xd (fn:=p90) rfl];refine bz lm ?_;refine bo (aL (S:=Int×(aA Bool)×(aA YS)) (enc:=fun⟨i,c,f⟩=>(Q [(0,.ref 1 0),(4,.own 3),(5,.own 4),(17,.is 7 (I YN.g b.bF)),(18,i64 (b.bF.length:Int)),(19,i64 i)] ((4,.lst 4 1 false (I cB c))::(3,.lst 161 9 false (I YS.g f))::cL x1 b h))) (encE:=(fun(⟨m,n⟩:(aA Bool)×(aA YS))=>(xq 0 [(4,.own 3),(5,.own 4)] ((4,.lst 4 1 false (I cB m))::(3,.lst 161 9 false (I YS.g n))::cL x1 b h)))) (fun⟨i,c,f⟩=>?_) bK (0,[],[])) fun⟨m,n⟩=>?_;refine ig fun a=>?_;refine bo (iU1 d (YK.mk b h x1) a.gF) fun⟨j,r⟩=>?_;refine bo (iU1 d (YK.mk b h x1) a.To) fun⟨l,s⟩=>?_;refine bo (dT false YS.g f [(YS.mk a.cU j l)]) fun t=>?_;refine bz (fW rfl) ?_;refine bo (e:=id) ?_ fun o=>?_;refine io rfl ?_;refine bo (sL1 (d+11) (YS.mk a.cU j l)) fun u=>?_;rfl;refine bo (dT false cB c [o]) fun v=>?_;rfl;rfl
def Zf (x1:aA YV) (c:Y0) (i:Int):aB (aA YV):=
 (Ze x1 c i).bind fun⟨j,k⟩=>(aX (E:=aA YV) (fun(⟨a,b⟩:Int×(aA YV))=>if decide (a<(c.bF.length:Int))then(aV c.bF a).bind fun d=>(fK j a).bind fun e=>(gQ j e).bind fun f=>(jS f d.ID b c i).bind fun g=>some (.inl ((bD (a+1)),g))else some (.inr b)) bK (0,x1)).bind fun h=>some h
theorem sM1 {k} (d) (x1:aA YV) (a:Y0) (f:Int):fU (XD k (d+17)) 42 [.ref 1 0] (cL x1 a f) 3 false=(Zf x1 a f).map (fun(m:aA YV)=>((.tup [],(cL m a f),0))):=by
 rw[xd (fn:=p42) rfl];refine bo (iZ1 d x1 a f) fun⟨j,n⟩=>?_;refine bz lm ?_;refine bo (aL (S:=Int×(aA YV)) (enc:=fun⟨h,b⟩=>(Q [(0,.ref 1 0),(3,.own 4),(15,.is 7 (I YN.g a.bF)),(16,i64 (a.bF.length:Int)),(17,i64 h)] ((4,.lst 4 1 false (I cB j))::(3,.lst 161 9 false (I YS.g n))::cL b a f))) (encE:=(fun(i:aA YV)=>(xq 0 [] ((4,.lst 4 1 false (I cB j))::(3,.lst 161 9 false (I YS.g n))::cL i a f)))) (fun⟨h,b⟩=>?_) bK (0,x1)) fun i=>?_;refine ig fun l=>?_;refine bo (bU cB j _) fun o=>?_;refine bo (cP (A:=Bool) (c:=cB) (g:=fun e=>bv e) (fun _=>rfl) j _) fun e=>?_;refine bo (iF (d+15) e l.ID b a f) fun p=>?_;rfl;rfl
def Sv (x1:Int):aB Int:=
 if(decide (x1<1))||(decide (x1>7))then some 0 else(aV [1,2,2,4,4,6,7] (bD (x1-1))).bind fun a=>some a
theorem Zg {k} (d) (x1:Int):OD k (d+1) 188 [i64 x1]=(Sv x1).map i64:=by
 refine oe rfl ?_;refine bz (fW rfl) ?_;refine io rfl ?_;refine bo (rY .i64 [1,2,2,4,4,6,7] (bD (x1-1)) rfl) fun a=>?_;rfl
def gI1 (x1 a:YS):aB Bool:=
 (Sv x1.cU).bind fun b=>((if decide (b>0)then(Sv x1.cU).bind fun c=>(Sv a.cU).bind fun d=>some (c==d)else some false:aB (Bool))).bind fun e=>((if e&&(x1.gF.dZ==a.gF.dZ)then(Zb x1.cU).bind fun f=>some ((!f)||(x1.gF.eW==a.gF.eW))else some false:aB (Bool))).bind fun g=>some g
theorem sN1 {k} (d) (x1 a:YS):OD k (d+2) 144 [.agg (YS.g x1),.agg (YS.g a)]=(gI1 x1 a).map bv:=by
 refine oe rfl ?_;refine bo (Zg d x1.cU) fun b=>?_;refine bo (e:=id) ?_ fun h=>?_;refine io ?_ rfl;refine bo (Zg d x1.cU) fun c=>?_;refine bo (Zg d a.cU) fun f=>?_;rfl;refine bz (gE rfl) ?_;refine bo (e:=id) ?_ fun j=>?_;refine io ?_ rfl;refine bo (iW1 d x1.cU) fun i=>?_;refine bz (fW rfl) ?_;rfl;rfl
def gJ1 (x1 a:YS):aB Bool:=
 (Bq x1.To a.gF).bind fun b=>((if decide (b<0)then some true else(Bq a.To x1.gF).bind fun c=>some (decide (c<0)):aB (Bool))).bind fun d=>some d
theorem sO1 {k} (d) (x1 a:YS):OD k (d+4) 148 [.agg (YS.g x1),.agg (YS.g a)]=(gJ1 x1 a).map bv:=by
 refine oe rfl ?_;refine bo (Bd d x1.To a.gF) fun b=>?_;refine bo (e:=id) ?_ fun f=>?_;refine io rfl ?_;refine bo (Bd d a.To x1.gF) fun c=>?_;rfl;rfl
def Sw (x1 a:YS):aB Bool:=
 (gJ1 x1 a).bind fun b=>some (!b)
theorem Zh {k} (d) (x1 a:YS):OD k (d+5) 147 [.agg (YS.g x1),.agg (YS.g a)]=(Sw x1 a).map bv:=by
 refine oe rfl ?_;refine bo (sO1 d x1 a) fun b=>?_;rfl
def Zi (x1 a:YS):aB Bool:=
 (Bq x1.To a.gF).bind fun b=>((if decide (b<=0)then some true else(Bq a.To x1.gF).bind fun c=>some (decide (c<=0)):aB (Bool))).bind fun d=>some d
theorem jA1 {k} (d) (x1 a:YS):OD k (d+4) 146 [.agg (YS.g x1),.agg (YS.g a)]=(Zi x1 a).map bv:=by
 refine oe rfl ?_;refine bo (Bd d x1.To a.gF) fun b=>?_;refine bo (e:=id) ?_ fun f=>?_;refine io rfl ?_;refine bo (Bd d a.To x1.gF) fun c=>?_;rfl;rfl
def Sx (x1 a:YS):aB Bool:=
 (Zi x1 a).bind fun b=>some (!b)
theorem Zj {k} (d) (x1 a:YS):OD k (d+5) 145 [.agg (YS.g x1),.agg (YS.g a)]=(Sx x1 a).map bv:=by
 refine oe rfl ?_;refine bo (jA1 d x1 a) fun b=>?_;rfl
def Zk (x1 a:YS):aB Bool:=
 (Bq x1.gF a.gF).bind fun b=>((if decide (b>=0)then(Bq x1.To a.To).bind fun c=>some (decide (c<=0))else some false:aB (Bool))).bind fun d=>some d
theorem jB1 {k} (d) (x1 a:YS):OD k (d+4) 189 [.agg (YS.g x1),.agg (YS.g a)]=(Zk x1 a).map bv:=by
 refine oe rfl ?_;refine bo (Bd d x1.gF a.gF) fun b=>?_;refine bo (e:=id) ?_ fun f=>?_;refine io ?_ rfl;refine bo (Bd d x1.To a.To) fun c=>?_;rfl;rfl
def gK1 (x1 a:YS):aB Bool:=
 (Zi x1 a).bind fun b=>((if !b then(Zk x1 a).bind fun c=>(Zk a x1).bind fun d=>some ((c==d)!=false)else some false:aB (Bool))).bind fun e=>some e
theorem sP1 {k} (d) (x1 a:YS):OD k (d+5) 149 [.agg (YS.g x1),.agg (YS.g a)]=(gK1 x1 a).map bv:=by
 refine oe rfl ?_;refine bo (jA1 d x1 a) fun b=>?_;refine bo (e:=id) ?_ fun h=>?_;refine io ?_ rfl;refine bo (jB1 d x1 a) fun c=>?_;refine bo (jB1 d a x1) fun f=>?_;rfl;rfl
def F91 (x1 a:YS):aB Bool:=
 (gI1 x1 a).bind fun c=>if !c then some false else if(bD (x1.cU-1))==6 then(Sw x1 a).bind fun d=>some d else if(bD (x1.cU-1))==5 then(Sx x1 a).bind fun e=>some e else if(bD (x1.cU-1))==4 then(Sw x1 a).bind fun f=>some f else if(bD (x1.cU-1))==3 then(Sw x1 a).bind fun g=>some g else if(bD (x1.cU-1))==2 then(Sx x1 a).bind fun h=>some h else if(bD (x1.cU-1))==1 then(Sx x1 a).bind fun i=>some i else if(bD (x1.cU-1))==0 then(gK1 x1 a).bind fun b=>some b else none
theorem cT2 {k} (d) (x1 a:YS):OD k (d+6) 91 [.agg (YS.g x1),.agg (YS.g a)]=(F91 x1 a).map bv:=by
 refine oe rfl ?_;refine bo (sN1 (d+3) x1 a) fun c=>?_;refine io rfl ?_;refine io ?_ ?_;refine bo (Zh d x1 a) fun e=>?_;rfl;refine io ?_ ?_;refine bo (Zj d x1 a) fun f=>?_;rfl;refine io ?_ ?_;refine bo (Zh d x1 a) fun h=>?_;rfl;refine io ?_ ?_;refine bo (Zh d x1 a) fun i=>?_;rfl;refine io ?_ ?_;refine bo (Zj d x1 a) fun j=>?_;rfl;refine io ?_ ?_;refine bo (Zj d x1 a) fun l=>?_;rfl;refine io ?_ ?_;refine bo (sP1 d x1 a) fun b=>?_;rfl;rfl
def Zl (x1:aA YV) (e:Y0) (w:Int):aB (aA YV):=
 (Ze x1 e w).bind fun⟨f,g⟩=>(aX (E:=aA YV) (fun(⟨a,c⟩:Int×(aA YV))=>if decide (a<(e.bF.length:Int))then(aV e.bF a).bind fun h=>(aX (E:=Bool) (fun(⟨d,b⟩:Bool×Int)=>((if decide (b<a)then(fK f a).bind fun i=>(gQ f i).bind fun j=>some (!j)else some false:aB (Bool))).bind fun k=>if k&&(!d)then(fK f b).bind fun l=>(gQ f l).bind fun m=>((if !m then(fK g b).bind fun n=>(gQ g n).bind fun o=>(fK g a).bind fun p=>(gQ g p).bind fun q=>(F91 o q).bind fun r=>some r else some false:aB (Bool))).bind fun s=>some (.inl (s,(bD (b+1))))else some (.inr d)) bK (false,0)).bind fun t=>(jS t h.ID c e w).bind fun u=>some (.inl ((bD (a+1)),u))else some (.inr c)) bK (0,x1)).bind fun v=>some v
theorem sQ1 {k} (d) (x1:aA YV) (f:Y0) (j:Int):fU (XD k (d+17)) 43 [.ref 1 0] (cL x1 f j) 3 false=(Zl x1 f j).map (fun(v:aA YV)=>((.tup [],(cL v f j),0))):=by
 rw[xd (fn:=p43) rfl];refine bo (iZ1 d x1 f j) fun⟨l,n⟩=>?_;refine bz lm ?_;refine bo (aL (S:=Int×(aA YV)) (enc:=fun⟨h,i⟩=>(Q [(0,.ref 1 0),(2,.own 3),(3,.own 4),(17,.is 7 (I YN.g f.bF)),(18,i64 (f.bF.length:Int)),(19,i64 h)] ((4,.lst 4 1 false (I cB l))::(3,.lst 161 9 false (I YS.g n))::cL i f j))) (encE:=(fun(u:aA YV)=>(xq 0 [] ((4,.lst 4 1 false (I cB l))::(3,.lst 161 9 false (I YS.g n))::cL u f j)))) (fun⟨h,i⟩=>?_) bK (0,x1)) fun u=>?_;refine ig fun o=>?_;refine bo (aL (S:=Bool×Int) (enc:=fun⟨q,r⟩=>(Q [(0,.ref 1 0),(2,.own 3),(3,.own 4),(4,i64 h),(5,.ref 5 0),(6,bv q),(7,i64 r),(17,.is 7 (I YN.g f.bF)),(18,i64 (f.bF.length:Int)),(19,i64 h)] ((5,.box (YN.g o))::(4,.lst 4 1 false (I cB l))::(3,.lst 161 9 false (I YS.g n))::cL i f j))) (encE:=(fun(p:Bool)=>(xq 2 [(0,.ref 1 0),(2,.own 3),(3,.own 4),(5,.ref 5 0),(6,bv p),(17,.is 7 (I YN.g f.bF)),(18,i64 (f.bF.length:Int)),(19,i64 h)] ((5,.box (YN.g o))::(4,.lst 4 1 false (I cB l))::(3,.lst 161 9 false (I YS.g n))::cL i f j)))) (fun⟨q,r⟩=>?_) bK (false,0)) fun p=>?_;refine bo (e:=id) ?_ fun x=>?_;refine io ?_ rfl;refine bo (bU cB l _) fun w=>?_;refine bo (cP (A:=Bool) (c:=cB) (g:=fun s=>bv s) (fun _=>rfl) l _) fun s=>?_;rfl;refine bz (gE rfl) ?_;refine io ?_ rfl;refine bo (bU cB l _) fun y=>?_;refine bo (cP (A:=Bool) (c:=cB) (g:=fun t=>bv t) (fun _=>rfl) l _) fun t=>?_;refine bo (e:=id) ?_ fun D=>?_;refine io ?_ rfl;refine bo (bU YS.g n _) fun z=>?_;refine bo (lW (A:=YS) (c:=YS.g) (m:=9) (g:=fun a=>[i64 a.cU,i64 a.gF.bS,i64 a.gF.At,i64 a.gF.dZ,i64 a.gF.eW,i64 a.To.bS,i64 a.To.At,i64 a.To.dZ,i64 a.To.eW]) (fun _=>⟨rfl,rfl⟩) (oO2 rfl) n _) fun a=>?_;refine bo (bU YS.g n _) fun B=>?_;refine bo (lW (A:=YS) (c:=YS.g) (m:=9) (g:=fun b=>[i64 b.cU,i64 b.gF.bS,i64 b.gF.At,i64 b.gF.dZ,i64 b.gF.eW,i64 b.To.bS,i64 b.To.At,i64 b.To.dZ,i64 b.To.eW]) (fun _=>⟨rfl,rfl⟩) (oO2 rfl) n _) fun b=>?_;refine bo (cT2 (d+10) a b) fun C=>?_;rfl;rfl;refine bo (iF (d+15) p o.ID i f j) fun E=>?_;rfl;rfl
def F92 (x1:Int) (a:YM):aB Bool:=
 ((if a.bO !=0 then(Bp a.bO 2 8).bind fun b=>some (!b)else some false:aB (Bool))).bind fun c=>((if c then some true else(Bp a.bQ 0 255).bind fun d=>some (!d):aB (Bool))).bind fun e=>some e
theorem cU2 {k} (d) (x1:Int) (a:YM):OD k (d+2) 92 [i64 x1,.agg (YM.g a)]=(F92 x1 a).map bv:=by
 refine oe rfl ?_;refine bo (e:=id) ?_ fun c=>?_;refine io ?_ rfl;refine bo (pW d a.bO 2 8) fun b=>?_;rfl;refine bo (e:=id) ?_ fun h=>?_;refine io rfl ?_;refine bo (pW d a.bQ 0 255) fun f=>?_;rfl;rfl
def Fy (x1:aA YV) (e:Y0) (h:Int):aB (aA YV):=
 (aX (E:=aA YV) (fun(⟨a,f⟩:Int×(aA YV))=>if decide (a<(e.aE.length:Int))then(aV e.aE a).bind fun g=>(F92 a g).bind fun b=>(jS b g.ID f e h).bind fun c=>some (.inl ((bD (a+1)),c))else some (.inr f)) bK (0,x1)).bind fun d=>some d
theorem gL1 {k} (d) (x1:aA YV) (a:Y0) (b:Int):fU (XD k (d+3)) 64 [.ref 1 0,.fn 92 [] []] (cL x1 a b) 3 false=(Fy x1 a b).map (fun(f:aA YV)=>((.tup [],(cL f a b),0))):=by
 rw[xd (fn:=p64) rfl];refine bz lm ?_;refine bo (aL (S:=Int×(aA YV)) (enc:=fun⟨h,i⟩=>(Q [(0,.ref 1 0),(1,.fn 92 [] []),(10,.is 22 (I YM.g a.aE)),(11,i64 (a.aE.length:Int)),(12,i64 h)] (cL i a b))) (encE:=(fun(c:aA YV)=>(xq 0 [] (cL c a b)))) (fun⟨h,i⟩=>?_) bK (0,x1)) fun c=>?_;refine ig fun j=>?_;refine bo (cU2 d h j) fun e=>?_;refine bo (iF (d+1) e j.ID i a b) fun l=>?_;rfl;rfl
def gM1 (x1:Int):aB Int:=
 ((if decide (x1>=4294967296)then(Mo .u64 x1 32).bind fun g=>some (g,32)else some (x1,0):aB (Int×Int))).bind fun⟨c,e⟩=>((if decide (c>=65536)then(Mo .u64 c 16).bind fun h=>some (h,(bD (e+16)))else some (c,e):aB (Int×Int))).bind fun⟨d,f⟩=>((if decide (d>=256)then(Mo .u64 d 8).bind fun i=>some (i,(bD (f+8)))else some (d,f):aB (Int×Int))).bind fun⟨j,a⟩=>(pI (⟨#[0,1,2,2,3,3,3,3,4,4,4,4,4,4,4,4,5,5,5,5,5,5,5,5,5,5,5,5,5,5,5,5,6,6,6,6,6,6,6,6,6,6,6,6,6,6,6,6,6,6,6,6,6,6,6,6,6,6,6,6,6,6,6,6,7,7,7,7,7,7,7,7,7,7,7,7,7,7,7,7,7,7,7,7,7,7,7,7,7,7,7,7,7,7,7,7,7,7,7,7,7,7,7,7,7,7,7,7,7,7,7,7,7,7,7,7,7,7,7,7,7,7,7,7,7,7,7,7,8,8,8,8,8,8,8,8,8,8,8,8,8,8,8,8,8,8,8,8,8,8,8,8,8,8,8,8,8,8,8,8,8,8,8,8,8,8,8,8,8,8,8,8,8,8,8,8,8,8,8,8,8,8,8,8,8,8,8,8,8,8,8,8,8,8,8,8,8,8,8,8,8,8,8,8,8,8,8,8,8,8,8,8,8,8,8,8,8,8,8,8,8,8,8,8,8,8,8,8,8,8,8,8,8,8,8,8,8,8,8,8,8,8,8,8,8,8,8,8,8,8,8,8,8,8,8,8]⟩:ByteArray) (IntKind.wrap .u8 (j))).bind fun b=>some (bD (a+(bD (b))))
theorem sR1 {k} (d) (x1:Int):OD k (d+1) 207 [.v (.int .u64 x1)]=(gM1 x1).map i64:=by
 refine oe rfl ?_;refine bo (e:=(fun(⟨b,c⟩:Int×Int)=>(nq [(0,.v (.int .u64 b)),(2,i64 c)] []))) ?_ fun⟨b,c⟩=>?_;refine io ?_ rfl;refine bo oi fun j=>?_;rfl;refine bo (e:=(fun(⟨f,g⟩:Int×Int)=>(nq [(0,.v (.int .u64 f)),(2,i64 g)] []))) ?_ fun⟨f,g⟩=>?_;refine io ?_ rfl;refine bo oi fun l=>?_;rfl;refine bo (e:=(fun(⟨h,a⟩:Int×Int)=>(nq [(0,.v (.int .u64 h)),(2,i64 a)] []))) ?_ fun⟨h,a⟩=>?_;refine io ?_ rfl;refine bo oi fun m=>?_;rfl;refine bo oi fun i=>?_;rfl
def My (x1:Int):aB Int:=
 (gM1 x1).bind fun a=>some a
theorem Qg {k} (d) (x1:Int):OD k (d+2) 190 [.v (.int .u64 x1)]=(My x1).map i64:=by
 refine oe rfl ?_;refine bo (sR1 d x1) fun a=>?_;rfl
def F94 (x1:YG):aB Bool:=
 ((if decide (x1.passes>0)then(cX1 .i64 1 (bD (x1.passes-1))).bind fun a=>some (x1.ending==a)else some false:aB (Bool))).bind fun b=>some b
theorem Sy {k} (d) (x1:YG):OD k (d+1) 94 [.agg (YG.g x1)]=(F94 x1).map bv:=by
 refine oe rfl ?_;refine bo (e:=id) ?_ fun b=>?_;refine io ?_ rfl;refine bo oi fun a=>?_;rfl;rfl
def gO1 (x1:YG) (a:YM):aB (YG×Bool):=
 if a.kP||(x1.body==0)then some (x1,false)else if a.bQ !=x1.ending then if((x1.ending !=0)&&(!x1.ended))||((Jv .i64 a.bQ x1.used)!=0)then some (x1,false)else(My (IntKind.wrap .u64 (a.bQ))).bind fun j=>if x1.passes==0 then if((Jv .i64 a.bQ 1)==0)||(decide ((bD (j-1))>6))then some ((YG.mk x1.started x1.body (Mq .i64 x1.used a.bQ) a.bQ false x1.passes),false)else if a.bO !=0 then(F94 (YG.mk x1.started x1.body (Mq .i64 x1.used a.bQ) a.bQ false x1.passes)).bind fun k=>((if k||((x1.passes !=0)&&(a.bO !=x1.passes))then some true else(My (IntKind.wrap .u64 (a.bQ))).bind fun l=>some (decide (l>=a.bO)):aB (Bool))).bind fun m=>if m then some ((YG.mk x1.started x1.body (Mq .i64 x1.used a.bQ) a.bQ false x1.passes),false)else some ((YG.mk x1.started x1.body (Mq .i64 x1.used a.bQ) a.bQ true a.bO),true)else some ((YG.mk x1.started x1.body (Mq .i64 x1.used a.bQ) a.bQ false x1.passes),true)else((if decide ((bD (j-1))>=x1.passes)then some true else((if(bD (j-1))==(bD (x1.passes-1))then(F94 (YG.mk x1.started x1.body (Mq .i64 x1.used a.bQ) a.bQ false x1.passes)).bind fun n=>((if !n then some true else(cX1 .i64 1 x1.passes).bind fun o=>some ((Mq .i64 x1.used a.bQ)!=(bD (o-1))):aB (Bool))).bind fun p=>some p else some false:aB (Bool))).bind fun b=>some b:aB (Bool))).bind fun c=>if c then some ((YG.mk x1.started x1.body (Mq .i64 x1.used a.bQ) a.bQ false x1.passes),false)else if a.bO !=0 then(F94 (YG.mk x1.started x1.body (Mq .i64 x1.used a.bQ) a.bQ false x1.passes)).bind fun d=>((if d||((x1.passes !=0)&&(a.bO !=x1.passes))then some true else(My (IntKind.wrap .u64 (a.bQ))).bind fun e=>some (decide (e>=a.bO)):aB (Bool))).bind fun f=>if f then some ((YG.mk x1.started x1.body (Mq .i64 x1.used a.bQ) a.bQ false x1.passes),false)else some ((YG.mk x1.started x1.body (Mq .i64 x1.used a.bQ) a.bQ true a.bO),true)else some ((YG.mk x1.started x1.body (Mq .i64 x1.used a.bQ) a.bQ false x1.passes),true)else if x1.ended then some (x1,false)else if a.bO !=0 then(F94 x1).bind fun g=>((if g||((x1.passes !=0)&&(a.bO !=x1.passes))then some true else(My (IntKind.wrap .u64 (x1.ending))).bind fun h=>some (decide (h>=a.bO)):aB (Bool))).bind fun i=>if i then some (x1,false)else some ((YG.mk x1.started x1.body x1.used x1.ending true a.bO),true)else some (x1,true)
theorem sS1 {k} (d) (x1:YG) (a:YM):OD k (d+3) 150 [.agg (YG.g x1),.agg (YM.g a)]=(gO1 x1 a).map (fun⟨n,o⟩=>.tup [.agg (YG.g n),bv o]):=by
 refine oe rfl ?_;refine bz (fW rfl) ?_;refine io rfl ?_;refine io ?_ ?_;refine bz (gE rfl) ?_;refine bz (fW rfl) ?_;refine io rfl ?_;refine bo (Qg d (IntKind.wrap .u64 (a.bQ))) fun p=>?_;refine io ?_ ?_;refine bz (fW rfl) ?_;refine io rfl ?_;refine io ?_ rfl;refine bo (Sy (d+1) (YG.mk x1.started x1.body (Mq .i64 x1.used a.bQ) a.bQ false x1.passes)) fun q=>?_;refine bz (fW (bz (gE rfl) rfl)) ?_;refine bo (e:=id) ?_ fun s=>?_;refine io rfl ?_;refine bo (Qg d (IntKind.wrap .u64 (a.bQ))) fun r=>?_;rfl;refine io rfl rfl;refine bo (e:=id) ?_ fun c=>?_;refine io rfl ?_;refine bo (e:=id) ?_ fun b=>?_;refine io ?_ rfl;refine bo (Sy (d+1) (YG.mk x1.started x1.body (Mq .i64 x1.used a.bQ) a.bQ false x1.passes)) fun t=>?_;refine bo (e:=id) ?_ fun v=>?_;refine io rfl ?_;refine bo oi fun u=>?_;rfl;rfl;rfl;refine io rfl ?_;refine io ?_ rfl;refine bo (Sy (d+1) (YG.mk x1.started x1.body (Mq .i64 x1.used a.bQ) a.bQ false x1.passes)) fun f=>?_;refine bz (fW (bz (gE rfl) rfl)) ?_;refine bo (e:=id) ?_ fun i=>?_;refine io rfl ?_;refine bo (Qg d (IntKind.wrap .u64 (a.bQ))) fun h=>?_;rfl;refine io rfl rfl;refine io rfl ?_;refine io ?_ rfl;refine bo (Sy (d+1) x1) fun j=>?_;refine bz (fW (bz (gE rfl) rfl)) ?_;refine bo (e:=id) ?_ fun m=>?_;refine io rfl ?_;refine bo (Qg d (IntKind.wrap .u64 (x1.ending))) fun l=>?_;rfl;refine io rfl rfl
def F93 (x1:YG) (a:YM):aB (YG×Bool):=
 if a.bQ !=0 then(gO1 x1 a).bind fun⟨d,e⟩=>some (d,e)else if x1.ending !=0 then(F94 x1).bind fun f=>if !f then some (x1,false)else if a.kP then if false then some ((YG.mk false 0 0 0 false 0),false)else((if a.bO !=0 then some (false,0)else some (true,1):aB (Bool×Int))).bind fun⟨g,h⟩=>some ((YG.mk g h 0 0 false 0),true)else((if a.bO !=0 then some 0 else some 1:aB (Int))).bind fun i=>some ((YG.mk false i 0 0 false 0),true)else if a.kP then if x1.started then some (x1,false)else((if a.bO !=0 then some (false,0)else some (true,1):aB (Bool×Int))).bind fun⟨j,b⟩=>some ((YG.mk j b 0 0 false 0),true)else((if a.bO !=0 then some (YG.mk false 0 0 0 false 0)else some (YG.mk x1.started (bD (x1.body+1)) x1.used x1.ending x1.ended x1.passes):aB (YG))).bind fun c=>some (c,true)
theorem cV2 {k} (d) (x1:YG) (a:YM):OD k (d+4) 93 [.agg (YG.g x1),.agg (YM.g a)]=(F93 x1 a).map (fun⟨l,m⟩=>.tup [.agg (YG.g l),bv m]):=by
 refine oe rfl ?_;refine io ?_ ?_;refine bo (sS1 d x1 a) fun⟨n,o⟩=>?_;rfl;refine io ?_ ?_;refine bo (Sy (d+2) x1) fun p=>?_;refine io rfl ?_;refine io ?_ ?_;refine io rfl ?_;refine bo (e:=(fun(⟨f,h⟩:Bool×Int)=>(nq dF1 [dE1,(1,.box (YM.g a)),(0,.box [bv f,i64 h,i64 0,i64 0,bv false,i64 0])]))) ?_ fun⟨f,h⟩=>?_;refine io rfl rfl;rfl;refine bo (e:=(fun(i:Int)=>(nq dF1 [dE1,(1,.box (YM.g a)),(0,.box [bv false,i64 i,i64 0,i64 0,bv false,i64 0])]))) ?_ fun i=>?_;refine io rfl rfl;rfl;refine io ?_ ?_;refine io rfl ?_;refine bo (e:=(fun(⟨j,b⟩:Bool×Int)=>(nq dF1 [dE1,(1,.box (YM.g a)),(0,.box [bv j,i64 b,i64 0,i64 0,bv false,i64 0])]))) ?_ fun⟨j,b⟩=>?_;refine io rfl rfl;rfl;refine bo (e:=(fun(c:YG)=>(nq dF1 [dE1,(1,.box (YM.g a)),(0,.box (YG.g c))]))) ?_ fun c=>?_;refine io rfl rfl;rfl
def Zm (x1:aA YV) (a:Y0) (n:Int):aB (aA YV):=
 (Fy x1 a n).bind fun e=>if decide ((e.length:Int)>(x1.length:Int))then some e else(aX (E:=(YG×(aA YV))⊕YG) (fun(⟨o,b⟩:Int×YG)=>if decide (o<(a.aE.length:Int))then(aV a.aE o).bind fun c=>(F93 b c).bind fun⟨d,f⟩=>if !f then(jS true c.ID e a n).bind fun g=>some (.inr (.inl (d,g)))else some (.inl ((bD (o+1)),d))else some (.inr (.inr b))) bK (0,(YG.mk false 0 0 0 false 0))).bind fun h=>(match h with|.inl ⟨x15,x16⟩=>some x16|.inr x17=>((if x17.started&&(x17.ending==0)then some true else((if x17.ending !=0 then(F94 x17).bind fun i=>some (!i)else some false:aB (Bool))).bind fun j=>some j:aB (Bool))).bind fun k=>(aV a.aE (bD ((a.aE.length:Int)-1))).bind fun l=>(jS k l.ID e a n).bind fun m=>some m)
theorem sT1 {k} (d) (x1:aA YV) (a:Y0) (b:Int):fU (XD k (d+5)) 44 [.ref 1 0] (cL x1 a b) 3 false=(Zm x1 a b).map (fun(o:aA YV)=>((.tup [],(cL o a b),0))):=by
 rw[xd (fn:=p44) rfl];refine bz (dD YV.g x1) ?_;refine bo (gL1 (d+1) x1 a b) fun j=>?_;refine bz (dD YV.g j) ?_;refine io rfl ?_;refine bz lm ?_;refine bo (aL (S:=Int×YG) (enc:=fun⟨p,c⟩=>(Q [(0,.ref 1 0),(3,.ref 3 0),(26,.is 22 (I YM.g a.aE)),(27,i64 (a.aE.length:Int)),(28,i64 p)] ((3,.box (YG.g c))::cL j a b))) (encE:=(fun|.inl ⟨h,i⟩=>(rq [(3,.ref 3 0)] ((3,.box (YG.g h))::cL i a b))|.inr x17=>(xq 0 [(0,.ref 1 0),(3,.ref 3 0)] ((3,.box (YG.g x17))::cL j a b)))) (fun⟨p,c⟩=>?_) bK (0,(YG.mk false 0 0 0 false 0))) fun l=>?_;refine ig fun f=>?_;refine bo (cV2 d c f) fun⟨q,r⟩=>?_;refine io ?_ rfl;refine bo (iF (d+3) true f.ID j a b) fun s=>?_;rfl;rcases l with⟨h,i⟩|x17;rfl;refine bz (gE rfl) ?_;refine bo (e:=id) ?_ fun m=>?_;refine io rfl ?_;refine bo (e:=id) ?_ fun u=>?_;refine io ?_ rfl;refine bo (Sy (d+3) x17) fun t=>?_;rfl;rfl;refine bz lm ?_;refine bo rg fun n=>?_;refine bo (iF (d+3) m n.ID j a b) fun v=>?_;rfl
def F96 (x1 a:YM):aB Bool:=
 some (((a.Gi !=0)&&(x1.Gi !=0))||((Jv .i64 a.oL x1.oL)!=0))
theorem cW2 {k} (d) (x1 a:YM):OD k (d+1) 96 [.agg (YM.g x1),.ip (YM.g a)]=(F96 x1 a).map bv:=by
 refine oe rfl ?_;refine bz (gE rfl) ?_;refine bz (fW rfl) ?_;rfl
def gP1 (x1:aA YM) (b:YM):aB Int:=
 (aX (E:=Int⊕Unit) (fun(a:Int)=>if decide (a<(x1.length:Int))then(aV x1 a).bind fun c=>(F96 c b).bind fun d=>if d then some (.inr (.inl a))else some (.inl (bD (a+1)))else some (.inr (.inr ()))) bK 0).bind fun e=>(match e with|.inl x8=>some x8|.inr _=>some (-1))
theorem sU1 {k} (d) (x1:aA YM) (a:YM):OD k (d+2) 110 [.is 22 (I YM.g x1),.fn 96 [] [.ip (YM.g a)]]=(gP1 x1 a).map i64:=by
 refine oe rfl ?_;refine bz lm ?_;refine bo (aL (S:=Int) (enc:=fun b=>(Q [(0,.is 22 (I YM.g x1)),(1,.fn 96 [] [.ip (YM.g a)]),(7,i64 (x1.length:Int)),(8,i64 b)] [])) (encE:=(fun|.inl c=>(rq [(4,i64 c)] [])|.inr _=>(xq 0 [] []))) (fun b=>?_) bK 0) fun f=>?_;refine ig fun e=>?_;refine bo (cW2 d e a) fun h=>?_;refine io rfl rfl;rcases f with c|_;rfl;rfl
def F56 (x1:aA YM) (a:YM):aB Bool:=
 (gP1 x1 a).bind fun b=>some (decide (b>=0))
theorem cX2 {k} (d) (x1:aA YM) (a:YM):OD k (d+3) 56 [.is 22 (I YM.g x1),.fn 96 [] [.ip (YM.g a)]]=(F56 x1 a).map bv:=by
 refine oe rfl ?_;refine bo (sU1 d x1 a) fun b=>?_;rfl
def gQ1 (x1:YM) (a:Int):aB Bool:=
 some ((Jv .i64 x1.oL a)!=0)
theorem sV1 {k} (d) (x1:YM) (a:Int):OD k (d+1) 191 [.agg (YM.g x1),.ip [i64 a]]=(gQ1 x1 a).map bv:=by
 refine oe rfl ?_;rfl
def Fz (x1:aA YM) (b:Int):aB Int:=
 (aX (E:=Int⊕Unit) (fun(a:Int)=>if decide (a<(x1.length:Int))then(aV x1 a).bind fun c=>(gQ1 c b).bind fun d=>if d then some (.inr (.inl a))else some (.inl (bD (a+1)))else some (.inr (.inr ()))) bK 0).bind fun e=>(match e with|.inl x8=>some x8|.inr _=>some (-1))
theorem gR1 {k} (d) (x1:aA YM) (a:Int):OD k (d+2) 110 [.is 22 (I YM.g x1),.fn 191 [] [.ip [i64 a]]]=(Fz x1 a).map i64:=by
 refine oe rfl ?_;refine bz lm ?_;refine bo (aL (S:=Int) (enc:=fun b=>(Q [(0,.is 22 (I YM.g x1)),(1,.fn 191 [] [.ip [i64 a]]),(7,i64 (x1.length:Int)),(8,i64 b)] [])) (encE:=(fun|.inl c=>(rq [(4,i64 c)] [])|.inr _=>(xq 0 [] []))) (fun b=>?_) bK 0) fun f=>?_;refine ig fun e=>?_;refine bo (sV1 d e a) fun h=>?_;refine io rfl rfl;rcases f with c|_;rfl;rfl
def Sz (x1:YK) (a:Int):aB Int:=
 (Fz x1.s'.aE a).bind fun b=>some b
theorem Zn {k} (d) (x1:YK) (a:Int):OD k (d+3) 152 [.ip (YK.g x1),i64 a]=(Sz x1 a).map i64:=by
 refine oe rfl ?_;refine bo (gR1 d x1.s'.aE a) fun b=>?_;rfl
def Ta (x1:Int) (a:YK) (b:Int):aB Bool:=
 (Sz a x1).bind fun c=>(Bp c 0 b).bind fun d=>some d
theorem Zo {k} (d) (x1:Int) (a:YK) (b:Int):OD k (d+4) 151 [i64 x1,.ip [.ip (YK.g a)],.ip [i64 b]]=(Ta x1 a b).map bv:=by
 refine oe rfl ?_;refine bo (Zn d a x1) fun c=>?_;refine bo (pW (d+2) c 0 b) fun e=>?_;rfl
def F97 (x1:YK) (a e:Int):aB Bool:=
 ((if decide (a>=4)then(Ta 1 x1 e).bind fun f=>some (!f)else some false:aB (Bool))).bind fun g=>if g then some false else((if a==2 then some (a==2)else some (a==5):aB (Bool))).bind fun h=>if h then(Ta 4 x1 e).bind fun i=>some i else((if a==3 then some (a==3)else some (a==6):aB (Bool))).bind fun j=>if j then(Ta 8 x1 e).bind fun k=>((if k then(Sz x1 2).bind fun b=>(Sz x1 8).bind fun c=>some (decide (b>c))else some false:aB (Bool))).bind fun d=>some d else some true
theorem cY2 {k} (d) (x1:YK) (b a:Int):OD k (d+5) 97 [.ip (YK.g x1),i64 b,i64 a]=(F97 x1 b a).map bv:=by
 refine oe rfl ?_;refine bo (e:=id) ?_ fun m=>?_;refine io ?_ rfl;refine bo (Zo d 1 x1 a) fun l=>?_;rfl;refine io rfl ?_;refine bo (e:=(fun(c:Bool)=>(nq [(3,.ref 0 0),(7,.fn 151 [] [.ref 0 0,.ref 1 0]),(16,i64 b),(17,bv c)] [(1,.box [i64 a]),(0,.box [.ip (YK.g x1)])]))) ?_ fun c=>?_;refine io rfl rfl;refine io ?_ ?_;refine bo (Zo d 4 x1 a) fun n=>?_;rfl;refine bo (e:=(fun(f:Bool)=>(nq [(3,.ref 0 0),(7,.fn 151 [] [.ref 0 0,.ref 1 0]),(22,bv f)] [(1,.box [i64 a]),(0,.box [.ip (YK.g x1)])]))) ?_ fun f=>?_;refine io rfl rfl;refine io ?_ rfl;refine bo (Zo d 8 x1 a) fun o=>?_;refine bo (e:=id) ?_ fun j=>?_;refine io ?_ rfl;refine bo (Zn (d+1) x1 2) fun h=>?_;refine bo (Zn (d+1) x1 8) fun i=>?_;rfl;rfl
def F95 (x1:Int) (a:YM) (c:YK):aB Bool:=
 (Bp a.Gi 0 6).bind fun d=>((if !d then some true else(Bp a.oL 0 15).bind fun e=>some (!e):aB (Bool))).bind fun f=>if f||(((a.Gi !=0)||(a.oL !=0))&&((a.bO !=0)||(a.bQ !=0)))then some true else(rX c.s'.aE 0 x1).bind fun g=>(F56 g a).bind fun h=>((if h then some true else(F97 c a.Gi x1).bind fun i=>some (!i):aB (Bool))).bind fun b=>some b
theorem cZ2 {k} (d) (x1:Int) (a:YM) (b:YK):OD k (d+6) 95 [i64 x1,.agg (YM.g a),.ip [.ip (YK.g b)]]=(F95 x1 a b).map bv:=by
 refine oe rfl ?_;refine bo (pW (d+4) a.Gi 0 6) fun h=>?_;refine bo (e:=id) ?_ fun j=>?_;refine io rfl ?_;refine bo (pW (d+4) a.oL 0 15) fun i=>?_;rfl;refine bz (fW (bz (fW rfl) (bz (gE (bz (fW rfl) rfl)) rfl))) ?_;refine io rfl ?_;refine bo (tY _ _ _ _) fun f=>?_;refine bo (cX2 (d+2) f a) fun l=>?_;refine bo (e:=id) ?_ fun c=>?_;refine io rfl ?_;refine bo (cY2 d b a.Gi x1) fun m=>?_;rfl;rfl
def Ga (x1:aA YV) (a:Y0) (g:Int):aB (aA YV):=
 (aX (E:=aA YV) (fun(⟨b,f⟩:Int×(aA YV))=>if decide (b<(a.aE.length:Int))then(aV a.aE b).bind fun h=>(F95 b h (YK.mk a g f)).bind fun c=>(jS c h.ID f a g).bind fun d=>some (.inl ((bD (b+1)),d))else some (.inr f)) bK (0,x1)).bind fun e=>some e
theorem gS1 {k} (d) (x1:aA YV) (a:Y0) (b:Int):fU (XD k (d+7)) 64 [.ref 1 0,.fn 95 [] [.ref 3 0]] ((3,.box [.ref 1 0])::cL x1 a b) 4 false=(Ga x1 a b).map (fun(h:aA YV)=>((.tup [],((3,.box [.ref 1 0])::cL h a b),0))):=by
 rw[xd (fn:=p64) rfl];refine bz lm ?_;refine bo (aL (S:=Int×(aA YV)) (enc:=fun⟨i,e⟩=>(Q [(0,.ref 1 0),(1,.fn 95 [] [.ref 3 0]),(10,.is 22 (I YM.g a.aE)),(11,i64 (a.aE.length:Int)),(12,i64 i)] ((3,.box [.ref 1 0])::cL e a b))) (encE:=(fun(c:aA YV)=>(xq 0 [] ((3,.box [.ref 1 0])::cL c a b)))) (fun⟨i,e⟩=>?_) bK (0,x1)) fun c=>?_;refine ig fun j=>?_;refine bo (cZ2 d i j (YK.mk a b e)) fun f=>?_;refine bo (iF (d+5) f j.ID e a b) fun l=>?_;rfl;rfl
def Zp (x1:aA YV) (a:Y0) (b:Int):aB (aA YV):=
 (Ga x1 a b).bind fun c=>some c
theorem sW1 {k} (d) (x1:aA YV) (a:Y0) (b:Int):fU (XD k (d+8)) 45 [.ref 1 0] (cL x1 a b) 3 false=(Zp x1 a b).map (fun(c:aA YV)=>((.tup [],(cL c a b),0))):=by
 rw[xd (fn:=p45) rfl];refine bo (gS1 d x1 a b) fun e=>?_;rfl
def F98 (x1:Int) (c:YM):aB Bool:=
 (F68 c).bind fun⟨m,r⟩=>((if c.Kn !=0 then(Bp c.Kn 50 75).bind fun n=>some (!n)else some false:aB (Bool))).bind fun o=>((if o then some true else(Bp c.aM1 0 3).bind fun p=>some (!p):aB (Bool))).bind fun q=>(aX (E:=Bool) (fun(⟨d,a⟩:Bool×Int)=>if decide (a<(c.jW.length:Int))then(aV c.jW a).bind fun b=>((if d then some true else(Bp b.At 0 (bD (m-1))).bind fun e=>some (!e):aB (Bool))).bind fun f=>((if f then some true else(Bp b.Np 1 60000000).bind fun g=>some (!g):aB (Bool))).bind fun h=>((if h then some true else((if decide (a>0)then(aV c.jW (bD (a-1))).bind fun i=>some (decide (b.At<=i.At))else some false:aB (Bool))).bind fun j=>some j:aB (Bool))).bind fun k=>some (.inl (k,(bD (a+1))))else some (.inr d)) bK (q,0)).bind fun l=>some l
theorem dA2 {k} (d) (x1:Int) (a:YM):OD k (d+5) 98 [i64 x1,.agg (YM.g a)]=(F98 x1 a).map bv:=by
 refine oe rfl ?_;refine bo (Sq d a) fun⟨i,s⟩=>?_;refine bo (e:=id) ?_ fun u=>?_;refine io ?_ rfl;refine bo (pW (d+3) a.Kn 50 75) fun t=>?_;rfl;refine bo (e:=id) ?_ fun r=>?_;refine io rfl ?_;refine bo (pW (d+3) a.aM1 0 3) fun v=>?_;rfl;refine bz lm ?_;refine bo (aL (S:=Bool×Int) (enc:=fun⟨b,c⟩=>(Q [(3,.ref 0 0),(5,i64 i),(7,bv b),(31,.is 3 (I YT.g a.jW)),(32,i64 (a.jW.length:Int)),(33,i64 c)] [(0,.box (YM.g a))])) (encE:=(fun(h:Bool)=>(xq 0 [(7,bv h)] [(0,.box (YM.g a))]))) (fun⟨b,c⟩=>?_) bK (r,0)) fun h=>?_;refine ig fun f=>?_;refine bo (e:=id) ?_ fun l=>?_;refine io rfl ?_;refine bo (pW (d+3) f.At 0 (bD (i-1))) fun j=>?_;rfl;refine bo (e:=id) ?_ fun n=>?_;refine io rfl ?_;refine bo (pW (d+3) f.Np 1 60000000) fun m=>?_;rfl;refine bo (e:=id) ?_ fun q=>?_;refine io rfl ?_;refine bo (e:=id) ?_ fun p=>?_;refine ig fun o=>?_;rfl;rfl;rfl;rfl
def Gb (x1:aA YV) (e:Y0) (h:Int):aB (aA YV):=
 (aX (E:=aA YV) (fun(⟨a,f⟩:Int×(aA YV))=>if decide (a<(e.aE.length:Int))then(aV e.aE a).bind fun g=>(F98 a g).bind fun b=>(jS b g.ID f e h).bind fun c=>some (.inl ((bD (a+1)),c))else some (.inr f)) bK (0,x1)).bind fun d=>some d
theorem gT1 {k} (d) (x1:aA YV) (a:Y0) (b:Int):fU (XD k (d+6)) 64 [.ref 1 0,.fn 98 [] []] (cL x1 a b) 3 false=(Gb x1 a b).map (fun(f:aA YV)=>((.tup [],(cL f a b),0))):=by
 rw[xd (fn:=p64) rfl];refine bz lm ?_;refine bo (aL (S:=Int×(aA YV)) (enc:=fun⟨h,i⟩=>(Q [(0,.ref 1 0),(1,.fn 98 [] []),(10,.is 22 (I YM.g a.aE)),(11,i64 (a.aE.length:Int)),(12,i64 h)] (cL i a b))) (encE:=(fun(c:aA YV)=>(xq 0 [] (cL c a b)))) (fun⟨h,i⟩=>?_) bK (0,x1)) fun c=>?_;refine ig fun j=>?_;refine bo (dA2 d h j) fun e=>?_;refine bo (iF (d+4) e j.ID i a b) fun l=>?_;rfl;rfl
def Zq (x1:aA YV) (a:Y0) (b:Int):aB (aA YV):=
 (Gb x1 a b).bind fun c=>some c
theorem sX1 {k} (d) (x1:aA YV) (a:Y0) (b:Int):fU (XD k (d+7)) 46 [.ref 1 0] (cL x1 a b) 3 false=(Zq x1 a b).map (fun(c:aA YV)=>((.tup [],(cL c a b),0))):=by
 rw[xd (fn:=p46) rfl];refine bo (gT1 d x1 a b) fun e=>?_;rfl
def F99 (x1:YP) (e:YE) (b:YK):aB Bool:=
 (F85 b.s' x1).bind fun⟨d,f⟩=>((if !f then some true else(F84 e).bind fun g=>some (!g):aB (Bool))).bind fun h=>if h||(d.bS==x1.bS)then some false else(aV b.s'.aE x1.bS).bind fun a=>(aV b.s'.aE d.bS).bind fun c=>some ((((((a.bO !=0)||(a.Gi !=0))||((Jv .i64 a.oL 12)!=0))||(a.bQ !=c.bQ))||c.kP)||((Jv .i64 c.oL 3)!=0))
theorem dB2 {k} (d) (x1:YP) (a:YE) (b:YK):OD k (d+5) 99 [.agg (YP.g x1),.agg (YE.g a),.ip [.ip (YK.g b)]]=(F99 x1 a b).map bv:=by
 refine oe rfl ?_;refine bo (sA1 (d+1) b.s' x1) fun⟨c,f⟩=>?_;refine bo (e:=id) ?_ fun i=>?_;refine io rfl ?_;refine bo (rY1 d a) fun h=>?_;rfl;refine bz (fW rfl) ?_;refine io rfl ?_;refine bo rg fun j=>?_;refine bo rg fun l=>?_;refine bz (fW rfl) ?_;refine bz (fW rfl) ?_;refine bz (fW rfl) ?_;refine bz (fW rfl) ?_;refine bz (fW rfl) ?_;rfl
def Gc (x1:aA YV) (s:Y0) (t:Int):aB (aA YV):=
 (aX (E:=aA YV) (fun(⟨c,m⟩:Int×(aA YV))=>if decide (c<(s.aE.length:Int))then(aV s.aE c).bind fun n=>(aX (E:=aA YV) (fun(⟨d,o⟩:Int×(aA YV))=>if decide (d<(n.aS.length:Int))then(aV n.aS d).bind fun p=>(aX (E:=aA YV) (fun(⟨e,q⟩:Int×(aA YV))=>if decide (e<(p.aO.length:Int))then(aV p.aO e).bind fun r=>(aX (E:=aA YV) (fun(⟨a,b⟩:Int×(aA YV))=>if decide (a<(r.aU.length:Int))then(aV r.aU a).bind fun f=>(F99 (YP.mk 4 0 d c e a 0) f (YK.mk s t b)).bind fun g=>(jS g f.ID b s t).bind fun h=>some (.inl ((bD (a+1)),h))else some (.inr b)) bK (0,q)).bind fun i=>some (.inl ((bD (e+1)),i))else some (.inr q)) bK (0,o)).bind fun j=>some (.inl ((bD (d+1)),j))else some (.inr o)) bK (0,m)).bind fun k=>some (.inl ((bD (c+1)),k))else some (.inr m)) bK (0,x1)).bind fun l=>some l
theorem gU1 {k} (d) (x1:aA YV) (c:Y0) (i:Int):fU (XD k (d+6)) 73 [.ref 1 0,.fn 99 [] [.ref 3 0]] ((3,.box [.ref 1 0])::cL x1 c i) 4 false=(Gc x1 c i).map (fun(w:aA YV)=>((.tup [],((3,.box [.ref 1 0])::cL w c i),0))):=by
 rw[xd (fn:=p73) rfl];refine bz lm ?_;refine bo (aL (S:=Int×(aA YV)) (enc:=fun⟨b,s⟩=>(Q [(0,.ref 1 0),(1,.fn 99 [] [.ref 3 0]),(16,.is 22 (I YM.g c.aE)),(17,i64 (c.aE.length:Int)),(18,i64 b)] ((3,.box [.ref 1 0])::cL s c i))) (encE:=(fun(r:aA YV)=>(xq 0 [] ((3,.box [.ref 1 0])::cL r c i)))) (fun⟨b,s⟩=>?_) bK (0,x1)) fun r=>?_;refine ig fun a=>?_;refine bz lm ?_;refine bo (aL (S:=Int×(aA YV)) (enc:=fun⟨e,t⟩=>(Q [(0,.ref 1 0),(1,.fn 99 [] [.ref 3 0]),(4,i64 b),(16,.is 22 (I YM.g c.aE)),(17,i64 (c.aE.length:Int)),(18,i64 b),(24,.is 2 (I YW.g a.aS)),(25,i64 (a.aS.length:Int)),(26,i64 e)] ((4,.box (YM.g a))::(3,.box [.ref 1 0])::cL t c i))) (encE:=(fun(q:aA YV)=>(xq 2 [(0,.ref 1 0),(1,.fn 99 [] [.ref 3 0]),(16,.is 22 (I YM.g c.aE)),(17,i64 (c.aE.length:Int)),(18,i64 b)] ((4,.box (YM.g a))::(3,.box [.ref 1 0])::cL q c i)))) (fun⟨e,t⟩=>?_) bK (0,s)) fun q=>?_;refine ig fun f=>?_;refine bz lm ?_;refine bo (aL (S:=Int×(aA YV)) (enc:=fun⟨j,u⟩=>(Q [(0,.ref 1 0),(1,.fn 99 [] [.ref 3 0]),(4,i64 b),(6,i64 e),(16,.is 22 (I YM.g c.aE)),(17,i64 (c.aE.length:Int)),(18,i64 b),(24,.is 2 (I YW.g a.aS)),(25,i64 (a.aS.length:Int)),(26,i64 e),(32,.is 2 (I YO.g f.aO)),(33,i64 (f.aO.length:Int)),(34,i64 j)] ((5,.box (YW.g f))::(4,.box (YM.g a))::(3,.box [.ref 1 0])::cL u c i))) (encE:=(fun(p:aA YV)=>(xq 4 [(0,.ref 1 0),(1,.fn 99 [] [.ref 3 0]),(4,i64 b),(16,.is 22 (I YM.g c.aE)),(17,i64 (c.aE.length:Int)),(18,i64 b),(24,.is 2 (I YW.g a.aS)),(25,i64 (a.aS.length:Int)),(26,i64 e)] ((5,.box (YW.g f))::(4,.box (YM.g a))::(3,.box [.ref 1 0])::cL p c i)))) (fun⟨j,u⟩=>?_) bK (0,t)) fun p=>?_;refine ig fun m=>?_;refine bz lm ?_;refine bo (aL (S:=Int×(aA YV)) (enc:=fun⟨l,h⟩=>(Q [(0,.ref 1 0),(1,.fn 99 [] [.ref 3 0]),(4,i64 b),(6,i64 e),(8,i64 j),(16,.is 22 (I YM.g c.aE)),(17,i64 (c.aE.length:Int)),(18,i64 b),(24,.is 2 (I YW.g a.aS)),(25,i64 (a.aS.length:Int)),(26,i64 e),(32,.is 2 (I YO.g f.aO)),(33,i64 (f.aO.length:Int)),(34,i64 j),(40,.is 13 (I YE.g m.aU)),(41,i64 (m.aU.length:Int)),(42,i64 l)] ((6,.box (YO.g m))::(5,.box (YW.g f))::(4,.box (YM.g a))::(3,.box [.ref 1 0])::cL h c i))) (encE:=(fun(o:aA YV)=>(xq 6 [(0,.ref 1 0),(1,.fn 99 [] [.ref 3 0]),(4,i64 b),(6,i64 e),(16,.is 22 (I YM.g c.aE)),(17,i64 (c.aE.length:Int)),(18,i64 b),(24,.is 2 (I YW.g a.aS)),(25,i64 (a.aS.length:Int)),(26,i64 e),(32,.is 2 (I YO.g f.aO)),(33,i64 (f.aO.length:Int)),(34,i64 j)] ((6,.box (YO.g m))::(5,.box (YW.g f))::(4,.box (YM.g a))::(3,.box [.ref 1 0])::cL o c i)))) (fun⟨l,h⟩=>?_) bK (0,u)) fun o=>?_;refine ig fun n=>?_;refine bo (dB2 d (YP.mk 4 0 e b j l 0) n (YK.mk c i h)) fun v=>?_;refine bo (iF (d+4) v n.ID h c i) fun x=>?_;rfl;rfl;rfl;rfl;rfl
def Zr (x1:aA YV) (a:Y0) (b:Int):aB (aA YV):=
 (Gc x1 a b).bind fun c=>some c
theorem sY1 {k} (d) (x1:aA YV) (a:Y0) (b:Int):fU (XD k (d+7)) 47 [.ref 1 0] (cL x1 a b) 3 false=(Zr x1 a b).map (fun(c:aA YV)=>((.tup [],(cL c a b),0))):=by
 rw[xd (fn:=p47) rfl];refine bo (gU1 d x1 a b) fun e=>?_;rfl
def F24 (x1:Y0):aB (aA YV):=
 ((if decide ((([]:aA YV).length:Int)>0)then((if false then some true else((if false then(fK ([]:aA YV) 0).bind fun x2=>(gQ ([]:aA YV) x2).bind fun x3=>some (decide (x3.hJ<10))else some false:aB (Bool))).bind fun x4=>some x4:aB (Bool))).bind fun x5=>some x5 else some false:aB (Bool))).bind fun x6=>if x6 then some []else(Kc [] x1 1).bind fun t=>((if decide ((t.length:Int)>0)then((if true then some true else((if false then(fK t 0).bind fun x8=>(gQ t x8).bind fun x9=>some (decide (x9.hJ<10))else some false:aB (Bool))).bind fun u=>some u:aB (Bool))).bind fun v=>some v else some false:aB (Bool))).bind fun w=>if w then some t else(Yb t x1 2).bind fun a=>((if decide ((a.length:Int)>0)then((if false then some true else((if false then(fK a 0).bind fun x=>(gQ a x).bind fun y=>some (decide (y.hJ<10))else some false:aB (Bool))).bind fun z=>some z:aB (Bool))).bind fun A=>some A else some false:aB (Bool))).bind fun B=>if B then some a else(Yc a x1 3).bind fun b=>((if decide ((b.length:Int)>0)then((if false then some true else((if false then(fK b 0).bind fun C=>(gQ b C).bind fun D=>some (decide (D.hJ<10))else some false:aB (Bool))).bind fun E=>some E:aB (Bool))).bind fun F=>some F else some false:aB (Bool))).bind fun G=>if G then some b else(Yd b x1 4).bind fun c=>((if decide ((c.length:Int)>0)then((if false then some true else((if false then(fK c 0).bind fun H=>(gQ c H).bind fun J=>some (decide (J.hJ<10))else some false:aB (Bool))).bind fun K=>some K:aB (Bool))).bind fun L=>some L else some false:aB (Bool))).bind fun M=>if M then some c else(Ye c x1 5).bind fun d=>((if decide ((d.length:Int)>0)then((if false then some true else((if false then(fK d 0).bind fun N=>(gQ d N).bind fun O=>some (decide (O.hJ<10))else some false:aB (Bool))).bind fun P=>some P:aB (Bool))).bind fun R=>some R else some false:aB (Bool))).bind fun S=>if S then some d else(Yo d x1 6).bind fun e=>((if decide ((e.length:Int)>0)then((if false then some true else((if false then(fK e 0).bind fun T=>(gQ e T).bind fun U=>some (decide (U.hJ<10))else some false:aB (Bool))).bind fun V=>some V:aB (Bool))).bind fun W=>some W else some false:aB (Bool))).bind fun X=>if X then some e else(Yp e x1 7).bind fun f=>((if decide ((f.length:Int)>0)then((if false then some true else((if false then(fK f 0).bind fun Y=>(gQ f Y).bind fun Z=>some (decide (Z.hJ<10))else some false:aB (Bool))).bind fun a0=>some a0:aB (Bool))).bind fun b0=>some b0 else some false:aB (Bool))).bind fun b4=>if b4 then some f else(Yq f x1 8).bind fun g=>((if decide ((g.length:Int)>0)then((if false then some true else((if false then(fK g 0).bind fun b5=>(gQ g b5).bind fun b6=>some (decide (b6.hJ<10))else some false:aB (Bool))).bind fun b7=>some b7:aB (Bool))).bind fun b8=>some b8 else some false:aB (Bool))).bind fun b9=>if b9 then some g else(Yr g x1 9).bind fun h=>((if decide ((h.length:Int)>0)then((if false then some true else((if true then(fK h 0).bind fun d0=>(gQ h d0).bind fun d2=>some (decide (d2.hJ<10))else some false:aB (Bool))).bind fun d3=>some d3:aB (Bool))).bind fun d4=>some d4 else some false:aB (Bool))).bind fun d5=>if d5 then some h else(Yv h x1 10).bind fun i=>((if decide ((i.length:Int)>0)then((if false then some true else((if true then(fK i 0).bind fun d6=>(gQ i d6).bind fun d7=>some (decide (d7.hJ<10))else some false:aB (Bool))).bind fun d8=>some d8:aB (Bool))).bind fun d9=>some d9 else some false:aB (Bool))).bind fun e0=>if e0 then some i else(Yw i x1 11).bind fun j=>((if decide ((j.length:Int)>0)then((if false then some true else((if true then(fK j 0).bind fun e1=>(gQ j e1).bind fun e3=>some (decide (e3.hJ<10))else some false:aB (Bool))).bind fun e4=>some e4:aB (Bool))).bind fun e5=>some e5 else some false:aB (Bool))).bind fun e6=>if e6 then some j else(Zf j x1 12).bind fun k=>((if decide ((k.length:Int)>0)then((if false then some true else((if true then(fK k 0).bind fun e7=>(gQ k e7).bind fun e8=>some (decide (e8.hJ<10))else some false:aB (Bool))).bind fun e9=>some e9:aB (Bool))).bind fun f0=>some f0 else some false:aB (Bool))).bind fun f1=>if f1 then some k else(Zl k x1 13).bind fun l=>((if decide ((l.length:Int)>0)then((if false then some true else((if true then(fK l 0).bind fun f2=>(gQ l f2).bind fun f4=>some (decide (f4.hJ<10))else some false:aB (Bool))).bind fun f5=>some f5:aB (Bool))).bind fun f6=>some f6 else some false:aB (Bool))).bind fun f7=>if f7 then some l else(Zm l x1 14).bind fun m=>((if decide ((m.length:Int)>0)then((if false then some true else((if true then(fK m 0).bind fun f8=>(gQ m f8).bind fun f9=>some (decide (f9.hJ<10))else some false:aB (Bool))).bind fun g1=>some g1:aB (Bool))).bind fun g3=>some g3 else some false:aB (Bool))).bind fun g4=>if g4 then some m else(Zp m x1 15).bind fun n=>((if decide ((n.length:Int)>0)then((if false then some true else((if true then(fK n 0).bind fun g5=>(gQ n g5).bind fun g6=>some (decide (g6.hJ<10))else some false:aB (Bool))).bind fun g7=>some g7:aB (Bool))).bind fun g8=>some g8 else some false:aB (Bool))).bind fun g9=>if g9 then some n else(Zq n x1 16).bind fun o=>((if decide ((o.length:Int)>0)then((if false then some true else((if true then(fK o 0).bind fun h0=>(gQ o h0).bind fun h2=>some (decide (h2.hJ<10))else some false:aB (Bool))).bind fun p=>some p:aB (Bool))).bind fun q=>some q else some false:aB (Bool))).bind fun r=>if r then some o else(Zr o x1 17).bind fun s=>some s
theorem dC2 {k} (d) (x1:Y0):OD k (d+25) 24 [.agg (Y0.g x1)]=(F24 x1).map (fun y0=>.is 3 (I YV.g y0)):=by
 refine oe rfl ?_;refine bz (dD YV.g ([]:aA YV)) ?_;refine bo (e:=id) ?_ fun x6=>?_;refine io ?_ rfl;refine bo (e:=id) ?_ fun x5=>?_;refine io rfl ?_;refine bo (e:=id) ?_ fun x4=>?_;refine io ?_ rfl;refine bo (bU YV.g ([]:aA YV) _) fun x2=>?_;refine bo (cP (A:=YV) (c:=YV.g) (g:=fun R=>i64 R.hJ) (fun _=>rfl) ([]:aA YV) _) fun R=>?_;rfl;rfl;rfl;refine io rfl ?_;refine bo (pB1 (d+19) [] x1 1) fun L=>?_;refine bz (dD YV.g L) ?_;refine bo (e:=id) ?_ fun V=>?_;refine io ?_ rfl;refine bo (e:=id) ?_ fun U=>?_;refine io rfl ?_;refine bo (e:=id) ?_ fun T=>?_;refine io ?_ rfl;refine bo (bU YV.g L _) fun x8=>?_;refine bo (cP (A:=YV) (c:=YV.g) (g:=fun S=>i64 S.hJ) (fun _=>rfl) L _) fun S=>?_;rfl;rfl;rfl;refine io rfl ?_;refine bo (pE1 (d+20) L x1 2) fun a=>?_;refine bz (dD YV.g a) ?_;refine bo (e:=id) ?_ fun Z=>?_;refine io ?_ rfl;refine bo (e:=id) ?_ fun Y=>?_;refine io rfl ?_;refine bo (e:=id) ?_ fun X=>?_;refine io ?_ rfl;refine bo (bU YV.g a _) fun W=>?_;refine bo (cP (A:=YV) (c:=YV.g) (g:=fun u=>i64 u.hJ) (fun _=>rfl) a _) fun u=>?_;rfl;rfl;rfl;refine io rfl ?_;refine bo (pI1 (d+21) a x1 3) fun b=>?_;refine bz (dD YV.g b) ?_;refine bo (e:=id) ?_ fun b5=>?_;refine io ?_ rfl;refine bo (e:=id) ?_ fun b4=>?_;refine io rfl ?_;refine bo (e:=id) ?_ fun b0=>?_;refine io ?_ rfl;refine bo (bU YV.g b _) fun a0=>?_;refine bo (cP (A:=YV) (c:=YV.g) (g:=fun v=>i64 v.hJ) (fun _=>rfl) b _) fun v=>?_;rfl;rfl;rfl;refine io rfl ?_;refine bo (pS1 (d+17) b x1 4) fun f=>?_;refine bz (dD YV.g f) ?_;refine bo (e:=id) ?_ fun b9=>?_;refine io ?_ rfl;refine bo (e:=id) ?_ fun b8=>?_;refine io rfl ?_;refine bo (e:=id) ?_ fun b7=>?_;refine io ?_ rfl;refine bo (bU YV.g f _) fun b6=>?_;refine bo (cP (A:=YV) (c:=YV.g) (g:=fun w=>i64 w.hJ) (fun _=>rfl) f _) fun w=>?_;rfl;rfl;rfl;refine io rfl ?_;refine bo (pU1 (d+17) f x1 5) fun h=>?_;refine bz (dD YV.g h) ?_;refine bo (e:=id) ?_ fun d4=>?_;refine io ?_ rfl;refine bo (e:=id) ?_ fun d3=>?_;refine io rfl ?_;refine bo (e:=id) ?_ fun d2=>?_;refine io ?_ rfl;refine bo (bU YV.g h _) fun d0=>?_;refine bo (cP (A:=YV) (c:=YV.g) (g:=fun x=>i64 x.hJ) (fun _=>rfl) h _) fun x=>?_;rfl;rfl;rfl;refine io rfl ?_;refine bo (rN1 d h x1 6) fun i=>?_;refine bz (dD YV.g i) ?_;refine bo (e:=id) ?_ fun d8=>?_;refine io ?_ rfl;refine bo (e:=id) ?_ fun d7=>?_;refine io rfl ?_;refine bo (e:=id) ?_ fun d6=>?_;refine io ?_ rfl;refine bo (bU YV.g i _) fun d5=>?_;refine bo (cP (A:=YV) (c:=YV.g) (g:=fun y=>i64 y.hJ) (fun _=>rfl) i _) fun y=>?_;rfl;rfl;rfl;refine io rfl ?_;refine bo (rO1 d i x1 7) fun j=>?_;refine bz (dD YV.g j) ?_;refine bo (e:=id) ?_ fun e3=>?_;refine io ?_ rfl;refine bo (e:=id) ?_ fun e1=>?_;refine io rfl ?_;refine bo (e:=id) ?_ fun e0=>?_;refine io ?_ rfl;refine bo (bU YV.g j _) fun d9=>?_;refine bo (cP (A:=YV) (c:=YV.g) (g:=fun z=>i64 z.hJ) (fun _=>rfl) j _) fun z=>?_;rfl;rfl;rfl;refine io rfl ?_;refine bo (rQ1 (d+13) j x1 8) fun l=>?_;refine bz (dD YV.g l) ?_;refine bo (e:=id) ?_ fun e7=>?_;refine io ?_ rfl;refine bo (e:=id) ?_ fun e6=>?_;refine io rfl ?_;refine bo (e:=id) ?_ fun e5=>?_;refine io ?_ rfl;refine bo (bU YV.g l _) fun e4=>?_;refine bo (cP (A:=YV) (c:=YV.g) (g:=fun B=>i64 B.hJ) (fun _=>rfl) l _) fun B=>?_;rfl;rfl;rfl;refine io rfl ?_;refine bo (rV1 (d+13) l x1 9) fun m=>?_;refine bz (dD YV.g m) ?_;refine bo (e:=id) ?_ fun f1=>?_;refine io ?_ rfl;refine bo (e:=id) ?_ fun f0=>?_;refine io rfl ?_;refine bo (e:=id) ?_ fun e9=>?_;refine io ?_ rfl;refine bo (bU YV.g m _) fun e8=>?_;refine bo (cP (A:=YV) (c:=YV.g) (g:=fun C=>i64 C.hJ) (fun _=>rfl) m _) fun C=>?_;rfl;rfl;rfl;refine io rfl ?_;refine bo (sD1 (d+17) m x1 10) fun n=>?_;refine bz (dD YV.g n) ?_;refine bo (e:=id) ?_ fun f6=>?_;refine io ?_ rfl;refine bo (e:=id) ?_ fun f5=>?_;refine io rfl ?_;refine bo (e:=id) ?_ fun f4=>?_;refine io ?_ rfl;refine bo (bU YV.g n _) fun f2=>?_;refine bo (cP (A:=YV) (c:=YV.g) (g:=fun D=>i64 D.hJ) (fun _=>rfl) n _) fun D=>?_;rfl;rfl;rfl;refine io rfl ?_;refine bo (sG1 (d+21) n x1 11) fun o=>?_;refine bz (dD YV.g o) ?_;refine bo (e:=id) ?_ fun g1=>?_;refine io ?_ rfl;refine bo (e:=id) ?_ fun f9=>?_;refine io rfl ?_;refine bo (e:=id) ?_ fun f8=>?_;refine io ?_ rfl;refine bo (bU YV.g o _) fun f7=>?_;refine bo (cP (A:=YV) (c:=YV.g) (g:=fun E=>i64 E.hJ) (fun _=>rfl) o _) fun E=>?_;rfl;rfl;rfl;refine io rfl ?_;refine bo (sM1 (d+7) o x1 12) fun p=>?_;refine bz (dD YV.g p) ?_;refine bo (e:=id) ?_ fun g6=>?_;refine io ?_ rfl;refine bo (e:=id) ?_ fun g5=>?_;refine io rfl ?_;refine bo (e:=id) ?_ fun g4=>?_;refine io ?_ rfl;refine bo (bU YV.g p _) fun g3=>?_;refine bo (cP (A:=YV) (c:=YV.g) (g:=fun F=>i64 F.hJ) (fun _=>rfl) p _) fun F=>?_;rfl;rfl;rfl;refine io rfl ?_;refine bo (sQ1 (d+7) p x1 13) fun q=>?_;refine bz (dD YV.g q) ?_;refine bo (e:=id) ?_ fun h0=>?_;refine io ?_ rfl;refine bo (e:=id) ?_ fun g9=>?_;refine io rfl ?_;refine bo (e:=id) ?_ fun g8=>?_;refine io ?_ rfl;refine bo (bU YV.g q _) fun g7=>?_;refine bo (cP (A:=YV) (c:=YV.g) (g:=fun G=>i64 G.hJ) (fun _=>rfl) q _) fun G=>?_;rfl;rfl;rfl;refine io rfl ?_;refine bo (sT1 (d+19) q x1 14) fun r=>?_;refine bz (dD YV.g r) ?_;refine bo (e:=id) ?_ fun h5=>?_;refine io ?_ rfl;refine bo (e:=id) ?_ fun h4=>?_;refine io rfl ?_;refine bo (e:=id) ?_ fun h3=>?_;refine io ?_ rfl;refine bo (bU YV.g r _) fun h2=>?_;refine bo (cP (A:=YV) (c:=YV.g) (g:=fun H=>i64 H.hJ) (fun _=>rfl) r _) fun H=>?_;rfl;rfl;rfl;refine io rfl ?_;refine bo (sW1 (d+16) r x1 15) fun s=>?_;refine bz (dD YV.g s) ?_;refine bo (e:=id) ?_ fun h9=>?_;refine io ?_ rfl;refine bo (e:=id) ?_ fun h8=>?_;refine io rfl ?_;refine bo (e:=id) ?_ fun h7=>?_;refine io ?_ rfl;refine bo (bU YV.g s _) fun h6=>?_;refine bo (cP (A:=YV) (c:=YV.g) (g:=fun J=>i64 J.hJ) (fun _=>rfl) s _) fun J=>?_;rfl;rfl;rfl;refine io rfl ?_;refine bo (sX1 (d+17) s x1 16) fun t=>?_;refine bz (dD YV.g t) ?_;refine bo (e:=id) ?_ fun O=>?_;refine io ?_ rfl;refine bo (e:=id) ?_ fun N=>?_;refine io rfl ?_;refine bo (e:=id) ?_ fun M=>?_;refine io ?_ rfl;refine bo (bU YV.g t _) fun i0=>?_;refine bo (cP (A:=YV) (c:=YV.g) (g:=fun K=>i64 K.hJ) (fun _=>rfl) t _) fun K=>?_;rfl;rfl;rfl;refine io rfl ?_;refine bo (sY1 (d+17) t x1 17) fun P=>?_;rfl
end Go.P
namespace Go.P
open Go.Sim (Ex eE CK)
open K (I Q rq nq xq ck)
def F9 (x1:Y0):aB Bool:=
 (F24 x1).bind fun a=>some ((a.length:Int)==0)
theorem ok9 {k} (d) (x1:Y0):OD k (d+26) 9 [.agg (Y0.g x1)]=(F9 x1).map bv:=by
 refine oe rfl ?_;refine bo (dC2 d x1) fun a=>?_;refine bz lm ?_;rfl
def F17 (x1:YO):aB Bool:=
 (aX (E:=Unit⊕Unit) (fun(f:Int)=>if decide (f<(x1.aU.length:Int))then(aV x1.aU f).bind fun b=>if((decide ((b.eR.length:Int)>12))||(decide ((b.fS.length:Int)>12)))||(decide ((b.dA.length:Int)>12))then some (.inr (.inl ()))else(aX (E:=Unit⊕Unit) (fun(a:Int)=>if decide (a<(b.dA.length:Int))then(aV b.dA a).bind fun c=>if decide ((c.mR.size:Int)>300)then some (.inr (.inl ()))else some (.inl (bD (a+1)))else some (.inr (.inr ()))) bK 0).bind fun d=>(match d with|.inl _=>some (.inr (.inl ()))|.inr _=>some (.inl (bD (f+1))))else some (.inr (.inr ()))) bK 0).bind fun e=>(match e with|.inl _=>some false|.inr _=>some ((decide ((x1.aU.length:Int)<=20))&&(decide ((x1.gN.length:Int)<=6))))
theorem dD2 {k} (d) (x1:YO):OD k (d+1) 17 [.agg (YO.g x1)]=(F17 x1).map bv:=by
 refine oe rfl ?_;refine bo (aL (S:=Int) (enc:=fun b=>(Q [(1,.ref 0 0),(3,i64 b)] [(0,.box (YO.g x1))])) (encE:=(fun|.inl _=>(rq [(1,.ref 0 0),(2,bv false)] [(0,.box (YO.g x1))])|.inr _=>(xq 0 [(1,.ref 0 0)] [(0,.box (YO.g x1))]))) (fun b=>?_) bK 0) fun e=>?_;refine bz lm ?_;refine ig fun f=>?_;refine bz lm ?_;refine bz (fW (bz lm rfl)) ?_;refine bz (fW (bz lm rfl)) ?_;refine io rfl ?_;refine bo (aL (S:=Int) (enc:=fun a=>(Q [(1,.ref 0 0),(3,i64 b),(4,.ref 1 0),(5,i64 a)] [(1,.box (YE.g f)),(0,.box (YO.g x1))])) (encE:=(fun|.inl _=>(rq [(1,.ref 0 0),(2,bv false),(3,i64 b)] [(1,.box (YE.g f)),(0,.box (YO.g x1))])|.inr _=>(xq 2 [(1,.ref 0 0),(3,i64 b)] [(1,.box (YE.g f)),(0,.box (YO.g x1))]))) (fun a=>?_) bK 0) fun c=>?_;refine bz lm ?_;refine ig fun h=>?_;refine io rfl rfl;rcases c with _|_;rfl;rfl;rcases e with _|_;rfl;refine bz lm ?_;refine bz (gE (bz lm rfl)) ?_;rfl
def F18 (x1:YO):aB Int:=
 (aX (E:=Int) (fun(⟨c,a⟩:Int×Int)=>if decide (a<(x1.aU.length:Int))then(aX (E:=Int) (fun(⟨d,b⟩:Int×Int)=>(aV x1.aU a).bind fun e=>if decide (b<(e.dA.length:Int))then(aV x1.aU a).bind fun f=>(aV f.dA b).bind fun g=>some (.inl ((bD (d+(g.mR.size:Int))),(bD (b+1))))else some (.inr d)) bK (c,0)).bind fun h=>some (.inl (h,(bD (a+1))))else some (.inr c)) bK (0,0)).bind fun i=>some i
theorem dE2 {k} (d) (x1:YO):OD k (d+1) 18 [.agg (YO.g x1)]=(F18 x1).map i64:=by
 refine oe rfl ?_;refine bo (aL (S:=Int×Int) (enc:=fun⟨b,a⟩=>(Q [(1,.ref 0 0),(3,i64 b),(4,i64 a)] [(0,.box (YO.g x1))])) (encE:=(fun(h:Int)=>(xq 0 [(3,i64 h)] [(0,.box (YO.g x1))]))) (fun⟨b,a⟩=>?_) bK (0,0)) fun h=>?_;refine bz lm ?_;refine io ?_ rfl;refine bo (aL (S:=Int×Int) (enc:=fun⟨c,e⟩=>(Q [(1,.ref 0 0),(3,i64 c),(4,i64 a),(5,i64 e)] [(0,.box (YO.g x1))])) (encE:=(fun(f:Int)=>(xq 2 [(1,.ref 0 0),(3,i64 f),(4,i64 a)] [(0,.box (YO.g x1))]))) (fun⟨c,e⟩=>?_) bK (b,0)) fun f=>?_;refine bo rg fun i=>?_;refine bz lm ?_;refine ig fun j=>?_;refine bo rg fun l=>?_;rfl;rfl;rfl
def F5 (x1:Y0):aB Bool:=
 (aX (E:=Unit⊕Unit) (fun(x:Int)=>if decide (x<(x1.bE.length:Int))then(aV x1.bE x).bind fun A=>((if decide ((A.dR.length:Int)>5)then some true else(aV x1.bE x).bind fun B=>some (decide ((B.xI.size:Int)>300)):aB (Bool))).bind fun C=>if C then some (.inr (.inl ()))else some (.inl (bD (x+1)))else some (.inr (.inr ()))) bK 0).bind fun D=>(match D with|.inl _=>some false|.inr _=>(aX (E:=Unit⊕Unit) (fun(⟨y,z,j⟩:Int×Int×Int)=>if decide (j<(x1.aE.length:Int))then(aV x1.aE j).bind fun b=>if((decide ((b.aS.length:Int)>5))||(decide ((b.jW.length:Int)>5)))||(decide ((b.gU.size:Int)>300))then some (.inr (.inl ()))else(aX (E:=(Int×Int)⊕(Int×Int)) (fun(⟨f,g,a⟩:Int×Int×Int)=>if decide (a<(b.aS.length:Int))then(aV b.aS a).bind fun k=>((if decide ((k.jT.length:Int)>5)then some true else(aV b.aS a).bind fun l=>some (decide ((l.aO.length:Int)>3)):aB (Bool))).bind fun m=>if m then some (.inr (.inl (f,g)))else(aX (E:=(Int×Int)⊕(Int×Int)) (fun(⟨c,d,e⟩:Int×Int×Int)=>(aV b.aS a).bind fun n=>if decide (e<(n.aO.length:Int))then(aV b.aS a).bind fun o=>(aV o.aO e).bind fun p=>(F17 p).bind fun q=>if !q then some (.inr (.inl (c,d)))else(aV b.aS a).bind fun r=>(aV r.aO e).bind fun h=>(aV b.aS a).bind fun s=>(aV s.aO e).bind fun t=>(F18 t).bind fun i=>if(decide ((bD (c+(h.aU.length:Int)))>400))||(decide ((bD (d+i))>20000))then some (.inr (.inl ((bD (c+(h.aU.length:Int))),(bD (d+i)))))else some (.inl ((bD (c+(h.aU.length:Int))),(bD (d+i)),(bD (e+1))))else some (.inr (.inr (c,d)))) bK (f,g,0)).bind fun u=>(match u with|.inl ⟨x137,x138⟩=>some (.inr (.inl (x137,x138)))|.inr ⟨x139,x140⟩=>some (.inl (x139,x140,(bD (a+1)))))else some (.inr (.inr (f,g)))) bK (y,z,0)).bind fun v=>(match v with|.inl ⟨x142,x143⟩=>some (.inr (.inl ()))|.inr ⟨x144,x145⟩=>some (.inl (x144,x145,(bD (j+1)))))else some (.inr (.inr ()))) bK (0,0,0)).bind fun w=>(match w with|.inl _=>some false|.inr _=>some (((((decide ((x1.bE.length:Int)<=4))&&(decide ((x1.aE.length:Int)<=10)))&&(decide ((x1.bF.length:Int)<=10)))&&(decide ((x1.jU.length:Int)<=5)))&&(decide ((x1.nI.size:Int)<=300)))))
theorem ok5 {k} (d) (x1:Y0):OD k (d+2) 5 [.agg (Y0.g x1)]=(F5 x1).map bv:=by
 refine oe rfl ?_;refine bo (aL (S:=Int) (enc:=fun H=>(Q [(1,.ref 0 0),(3,i64 0),(4,i64 0),(5,i64 H)] [(0,.box (Y0.g x1))])) (encE:=(fun|.inl _=>(rq [(1,.ref 0 0),(2,bv false),(3,i64 0),(4,i64 0)] [(0,.box (Y0.g x1))])|.inr _=>(xq 0 [(1,.ref 0 0),(3,i64 0),(4,i64 0)] [(0,.box (Y0.g x1))]))) (fun H=>?_) bK 0) fun J=>?_;refine bz lm ?_;refine ig fun K=>?_;refine bz lm ?_;refine bo (e:=id) ?_ fun M=>?_;refine io rfl ?_;refine bo rg fun L=>?_;rfl;refine io rfl rfl;rcases J with _|_;rfl;refine bo (aL (S:=Int×Int×Int) (enc:=fun⟨q,r,b⟩=>(Q [(1,.ref 0 0),(3,i64 q),(4,i64 r),(6,i64 b)] [(0,.box (Y0.g x1))])) (encE:=(fun|.inl _=>(rq [(1,.ref 0 0),(2,bv false)] [(0,.box (Y0.g x1))])|.inr _=>(xq 2 [(1,.ref 0 0)] [(0,.box (Y0.g x1))]))) (fun⟨q,r,b⟩=>?_) bK (0,0,0)) fun w=>?_;refine bz lm ?_;refine ig fun c=>?_;refine bz lm ?_;refine bz (fW (bz lm rfl)) ?_;refine bz (fW rfl) ?_;refine io rfl ?_;refine bo (aL (S:=Int×Int×Int) (enc:=fun⟨f,h,a⟩=>(Q [(1,.ref 0 0),(3,i64 f),(4,i64 h),(6,i64 b),(7,.ref 1 0),(8,i64 a)] [(1,.box (YM.g c)),(0,.box (Y0.g x1))])) (encE:=(fun|.inl ⟨o,p⟩=>(rq [(1,.ref 0 0),(2,bv false),(3,i64 o),(4,i64 p),(6,i64 b)] [(1,.box (YM.g c)),(0,.box (Y0.g x1))])|.inr ⟨x144,x145⟩=>(xq 4 [(1,.ref 0 0),(3,i64 x144),(4,i64 x145),(6,i64 b)] [(1,.box (YM.g c)),(0,.box (Y0.g x1))]))) (fun⟨f,h,a⟩=>?_) bK (q,r,0)) fun v=>?_;refine bz lm ?_;refine ig fun x=>?_;refine bz lm ?_;refine bo (e:=id) ?_ fun z=>?_;refine io rfl ?_;refine bo rg fun y=>?_;refine bz lm ?_;rfl;refine io rfl ?_;refine bo (aL (S:=Int×Int×Int) (enc:=fun⟨i,j,l⟩=>(Q [(1,.ref 0 0),(3,i64 i),(4,i64 j),(6,i64 b),(7,.ref 1 0),(8,i64 a),(9,i64 l)] [(1,.box (YM.g c)),(0,.box (Y0.g x1))])) (encE:=(fun|.inl ⟨m,n⟩=>(rq [(1,.ref 0 0),(2,bv false),(3,i64 m),(4,i64 n),(6,i64 b),(7,.ref 1 0),(8,i64 a)] [(1,.box (YM.g c)),(0,.box (Y0.g x1))])|.inr ⟨x139,x140⟩=>(xq 6 [(1,.ref 0 0),(3,i64 x139),(4,i64 x140),(6,i64 b),(7,.ref 1 0),(8,i64 a)] [(1,.box (YM.g c)),(0,.box (Y0.g x1))]))) (fun⟨i,j,l⟩=>?_) bK (f,h,0)) fun u=>?_;refine bo rg fun A=>?_;refine bz lm ?_;refine ig fun B=>?_;refine bo rg fun s=>?_;refine bo (dD2 d s) fun C=>?_;refine io rfl ?_;refine bo rg fun D=>?_;refine bo rg fun E=>?_;refine bz lm ?_;refine bo rg fun F=>?_;refine bo rg fun t=>?_;refine bo (dE2 d t) fun G=>?_;refine bz (fW rfl) ?_;refine io rfl rfl;rcases u with⟨m,n⟩|⟨x139,x140⟩
 rfl;rfl;rcases v with⟨o,p⟩|⟨x144,x145⟩
 rfl;rfl;rcases w with _|_;rfl;refine bz lm ?_;refine bz (gE (bz lm rfl)) ?_;refine bz (gE (bz lm rfl)) ?_;refine bz (gE (bz lm rfl)) ?_;refine bz (gE rfl) ?_;rfl
def F21 (x1:Y0) (a:Int):aB Int:=
 (F9 x1).bind fun b=>if !b then some 24 else if(decide (a<0))||(decide (a>=(x1.bE.length:Int)))then some 2 else some 0
theorem dF2 {k} (d) (x1:Y0) (a:Int):OD k (d+27) 21 [.agg (Y0.g x1),i64 a]=(F21 x1 a).map i64:=by
 refine oe rfl ?_;refine bo (ok9 d x1) fun b=>?_;refine io rfl ?_;refine bz (fW (bz lm rfl)) ?_;refine io rfl rfl
def Mz (x1:YL):aB Bool:=
 (Kq x1).bind fun a=>some (a !=0)
theorem jD1 {k} (d) (x1:YL):OD k (d+2) 109 [.agg (YL.g x1)]=(Mz x1).map bv:=by
 refine oe rfl ?_;refine bo (lE1 d x1) fun a=>?_;rfl
def sZ1 (x1:aA YL):aB Int:=
 (aX (E:=Int⊕Unit) (fun(a:Int)=>if decide (a<(x1.length:Int))then(aV x1 a).bind fun b=>(Mz b).bind fun c=>if c then some (.inr (.inl a))else some (.inl (bD (a+1)))else some (.inr (.inr ()))) bK 0).bind fun d=>(match d with|.inl x7=>some x7|.inr _=>some (-1))
theorem tA1 {k} (d) (x1:aA YL):OD k (d+3) 162 [.is 2 (I YL.g x1),.fn 109 [] []]=(sZ1 x1).map i64:=by
 refine oe rfl ?_;refine bz lm ?_;refine bo (aL (S:=Int) (enc:=fun a=>(Q [(0,.is 2 (I YL.g x1)),(1,.fn 109 [] []),(7,i64 (x1.length:Int)),(8,i64 a)] [])) (encE:=(fun|.inl b=>(rq [(4,i64 b)] [])|.inr _=>(xq 0 [] []))) (fun a=>?_) bK 0) fun e=>?_;refine ig fun c=>?_;refine bo (jD1 d c) fun f=>?_;refine io rfl rfl;rcases e with b|_;rfl;rfl
def Zs (x1:aA YL):aB (Unit⊕(aA YL)):=
 (sZ1 x1).bind fun j=>if j==(-1)then some (.inl ())else(aX (E:=Int×(aA YL)) (fun(⟨b,c,a⟩:Int×Int×(aA YL))=>if decide (c<(a.length:Int))then(fK a c).bind fun f=>(gQ a f).bind fun d=>(Mz d).bind fun g=>((if !g then(fK a b).bind fun h=>(Fc a h (fun p=>d)).bind fun i=>some ((bD (b+1)),i)else some (b,a):aB (Int×(aA YL)))).bind fun⟨k,l⟩=>some (.inl (k,(bD (c+1)),l))else some (.inr (b,a))) bK (j,(bD (j+1)),x1)).bind fun⟨e,m⟩=>(Xp m e (YL.mk 0 0)).bind fun n=>(pU n e).bind fun o=>some (.inr o)
theorem lM1 {k} (d) (x1:aA YL):fU (XD k (d+4)) 108 [.own 1,.fn 109 [] []] [(1,.lst 31 2 false (I YL.g x1))] 2 false=(Zs x1).map (fun|.inl _=>((.own 1,[(1,.lst 31 2 false (I YL.g x1))],0))|.inr x26=>((.own 1,[(1,.lst 31 2 true (I YL.g x26))],0))):=by
 rw[xd (fn:=lA1) rfl];refine bo (tA1 d x1) fun q=>?_;refine io rfl ?_;refine bo (aL (S:=Int×Int×(aA YL)) (enc:=fun⟨j,h,a⟩=>(Q [(0,.own 1),(1,.fn 109 [] []),(5,i64 j),(6,i64 h)] [(1,.lst 31 2 false (I YL.g a))])) (encE:=(fun(⟨i,o⟩:Int×(aA YL))=>(xq 0 [(0,.own 1),(5,i64 i)] [(1,.lst 31 2 false (I YL.g o))]))) (fun⟨j,h,a⟩=>?_) bK (q,(bD (q+1)),x1)) fun⟨i,o⟩=>?_;refine bz (dD YL.g a) ?_;refine io ?_ rfl;refine bo (bU YL.g a _) fun r=>?_;refine bo (lW (A:=YL) (c:=YL.g) (m:=2) (g:=fun b=>[i64 b.cW,i64 b.bB]) (fun _=>⟨rfl,rfl⟩) (oO2 rfl) a _) fun b=>?_;refine bo (jD1 (d+1) b) fun s=>?_;refine bo (e:=(fun(⟨l,n⟩:Int×(aA YL))=>(nq [(0,.own 1),(1,.fn 109 [] []),(5,i64 l),(6,i64 h)] [(2,.box (YL.g b)),(1,.lst 31 2 false (I YL.g n))]))) ?_ fun⟨l,n⟩=>?_;refine io ?_ rfl;refine bo (bU YL.g a _) fun t=>?_;refine bo (vU (A:=YL) (c:=YL.g) (m:=2) (f:=fun u=>b) (fun _=>⟨rfl,rfl⟩) (oO2 rfl) a _) fun v=>?_;rfl;rfl;refine bo (Js YL.g _ _ (YL.mk 0 0)) fun p=>?_;refine bo (rA YL.g p i) fun w=>?_;rfl
def F55 (x1:YL):aB (aA YL):=
 (Zs [x1,(YL.mk (bD (x1.cW+1)) x1.bB),(YL.mk (bD (x1.cW-1)) x1.bB)]).bind fun a=>(match a with|.inl _=>some [x1,(YL.mk (bD (x1.cW+1)) x1.bB),(YL.mk (bD (x1.cW-1)) x1.bB)]|.inr x2=>some x2)
theorem dG2 {k} (d) (x1:YL):OD k (d+5) 55 [.agg (YL.g x1)]=(F55 x1).map (fun b=>.is 2 (I YL.g b)):=by
 refine oe rfl ?_;refine bo (lM1 d [x1,(YL.mk (bD (x1.cW+1)) x1.bB),(YL.mk (bD (x1.cW-1)) x1.bB)]) fun a=>?_;rcases a with _|x2;rfl;rfl
def F23 (x1:Int) (a:YL):aB Int:=
 some (bD ((bD (x1+(bD (7*a.bB))))-(bD (12*a.cW))))
theorem tC1 {k} (d) (x1:Int) (a:YL):OD k (d+1) 23 [i64 x1,.agg (YL.g a)]=(F23 x1 a).map i64:=by
 refine oe rfl ?_;rfl
def F57 (x1:YM) (a:YL):aB Bool:=
 (F23 x1.dJ a).bind fun b=>(F26 b).bind fun c=>some (c !=0)
theorem dH2 {k} (d) (x1:YM) (a:YL):OD k (d+2) 57 [.agg (YM.g x1),.ip (YL.g a)]=(F57 x1 a).map bv:=by
 refine oe rfl ?_;refine bo (tC1 d x1.dJ a) fun b=>?_;refine bo (pT1 d b) fun c=>?_;rfl
def Zt (x1:aA YM) (b:YL):aB Int:=
 (aX (E:=Int⊕Unit) (fun(a:Int)=>if decide (a<(x1.length:Int))then(aV x1 a).bind fun c=>(F57 c b).bind fun d=>if d then some (.inr (.inl a))else some (.inl (bD (a+1)))else some (.inr (.inr ()))) bK 0).bind fun e=>(match e with|.inl x8=>some x8|.inr _=>some (-1))
theorem gV1 {k} (d) (x1:aA YM) (a:YL):OD k (d+3) 110 [.is 22 (I YM.g x1),.fn 57 [] [.ip (YL.g a)]]=(Zt x1 a).map i64:=by
 refine oe rfl ?_;refine bz lm ?_;refine bo (aL (S:=Int) (enc:=fun b=>(Q [(0,.is 22 (I YM.g x1)),(1,.fn 57 [] [.ip (YL.g a)]),(7,i64 (x1.length:Int)),(8,i64 b)] [])) (encE:=(fun|.inl c=>(rq [(4,i64 c)] [])|.inr _=>(xq 0 [] []))) (fun b=>?_) bK 0) fun f=>?_;refine ig fun e=>?_;refine bo (dH2 d e a) fun h=>?_;refine io rfl rfl;rcases f with c|_;rfl;rfl
def Kj (x1:aA YM) (a:YL):aB Bool:=
 (Zt x1 a).bind fun b=>some (decide (b>=0))
theorem lN1 {k} (d) (x1:aA YM) (a:YL):OD k (d+4) 56 [.is 22 (I YM.g x1),.fn 57 [] [.ip (YL.g a)]]=(Kj x1 a).map bv:=by
 refine oe rfl ?_;refine bo (gV1 d x1 a) fun b=>?_;rfl
def F30 (x1:Y0) (e:YL):aB (YL×Int):=
 (F55 e).bind fun c=>(aX (E:=YL⊕Unit) (fun(b:Int)=>if decide (b<(c.length:Int))then(aV c b).bind fun d=>(Kj x1.aE d).bind fun f=>if !f then some (.inr (.inl d))else some (.inl (bD (b+1)))else some (.inr (.inr ()))) bK 0).bind fun a=>(match a with|.inl x9=>some (x9,0)|.inr _=>some ((YL.mk 0 0),18))
theorem dI2 {k} (d) (x1:Y0) (a:YL):OD k (d+6) 30 [.agg (Y0.g x1),.agg (YL.g a)]=(F30 x1 a).map (fun⟨i,j⟩=>.tup [.agg (YL.g i),i64 j]):=by
 refine oe rfl ?_;refine bo (dG2 d a) fun c=>?_;refine bz lm ?_;refine bo (aL (S:=Int) (enc:=fun e=>(Q [(2,.ref 0 0),(4,.ref 2 0),(9,.is 2 (I YL.g c)),(10,i64 (c.length:Int)),(11,i64 e)] [Sj,(1,.box (YL.g a)),(0,.box (Y0.g x1))])) (encE:=(fun|.inl f=>(rq [(4,.ref 2 0),(5,i64 0)] [(2,.box (YL.g f)),(1,.box (YL.g a)),(0,.box (Y0.g x1))])|.inr _=>(xq 0 [(4,.ref 2 0)] [Sj,(1,.box (YL.g a)),(0,.box (Y0.g x1))]))) (fun e=>?_) bK 0) fun b=>?_;refine ig fun h=>?_;refine bo (lN1 (d+1) x1.aE h) fun l=>?_;refine io rfl rfl;rcases b with f|_;rfl;rfl
def F22 (x1:Y0) (b:Int):aB (YL×Int):=
 (aV x1.bE b).bind fun a=>if x1.gM then some (a.cG,0)else(F30 x1 a.cG).bind fun⟨c,d⟩=>some (c,d)
theorem dK2 {k} (d) (x1:Y0) (a:Int):OD k (d+7) 22 [.agg (Y0.g x1),i64 a]=(F22 x1 a).map (fun⟨c,e⟩=>.tup [.agg (YL.g c),i64 e]):=by
 refine oe rfl ?_;refine bo rg fun b=>?_;refine io rfl ?_;refine bo (dI2 d x1 b.cG) fun⟨f,h⟩=>?_;rfl
def F7 (x1:Y0) (a:Int):aB (YL×Int):=
 (F21 x1 a).bind fun b=>if b !=0 then some ((YL.mk 0 0),b)else(F22 x1 a).bind fun⟨c,d⟩=>some (c,d)
theorem ok7 {k} (d) (x1:Y0) (a:Int):OD k (d+28) 7 [.agg (Y0.g x1),i64 a]=(F7 x1 a).map (fun⟨b,c⟩=>.tup [.agg (YL.g b),i64 c]):=by
 refine oe rfl ?_;refine bo (dF2 d x1 a) fun e=>?_;refine io rfl ?_;refine bo (dK2 (d+20) x1 a) fun⟨f,h⟩=>?_;rfl
def F8 (x1:Y0) (l:Int):aB ((aA Int)×Int):=
 (F7 x1 l).bind fun⟨i,j⟩=>if j !=0 then some ([],j)else(rB 0 (x1.aE.length:Int) 0).bind fun m=>(aX (E:=aA Int) (fun(⟨a,b⟩:Int×(aA Int))=>if decide (a<(x1.aE.length:Int))then(aV x1.aE a).bind fun c=>(F23 c.dJ i).bind fun d=>((if x1.gM then(Tl c.dJ i).bind fun⟨e,k⟩=>some e else some d:aB (Int))).bind fun f=>(qQ true b [f]).bind fun g=>some (.inl ((bD (a+1)),g))else some (.inr b)) bK (0,m)).bind fun h=>some (h,0)
theorem ok8 {k} (d) (x1:Y0) (j:Int):OD k (d+29) 8 [.agg (Y0.g x1),i64 j]=(F8 x1 j).map (fun⟨q,r⟩=>.tup [.is 1 (I cI q),i64 r]):=by
 refine oe rfl ?_;refine bo (ok7 d x1 j) fun⟨i,s⟩=>?_;refine io rfl ?_;refine bz lm ?_;refine bo (jQ cI _ _ 0) fun p=>?_;refine bz lm ?_;refine bo (aL (S:=Int×(aA Int)) (enc:=fun⟨b,a⟩=>(Q [(2,.ref 0 0),(6,.ref 1 0),(8,.own 2),(26,.is 22 (I YM.g x1.aE)),(27,i64 (x1.aE.length:Int)),(28,i64 b)] [(2,.lst 3 1 true (I cI a)),(1,.box (YL.g i)),(0,.box (Y0.g x1))])) (encE:=(fun(h:aA Int)=>(xq 0 [(8,.own 2)] [(2,.lst 3 1 true (I cI h)),(1,.box (YL.g i)),(0,.box (Y0.g x1))]))) (fun⟨b,a⟩=>?_) bK (0,p)) fun h=>?_;refine ig fun c=>?_;refine bo (tC1 (d+27) c.dJ i) fun l=>?_;refine bo (e:=(fun(f:Int)=>(nq [(2,.ref 0 0),(6,.ref 1 0),(8,.own 2),(11,i64 f),(26,.is 22 (I YM.g x1.aE)),(27,i64 (x1.aE.length:Int)),(28,i64 b)] [(3,.box (YM.g c)),(2,.lst 3 1 true (I cI a)),(1,.box (YL.g i)),(0,.box (Y0.g x1))]))) ?_ fun f=>?_;refine io ?_ rfl;refine bo (lI1 (d+26) c.dJ i) fun⟨m,n⟩=>?_;rfl;refine bo (dT true cI a [f]) fun o=>?_;rfl;rfl
def F11 (x1:YL):aB Int:=
 some (bD ((bD (7*x1.bB))-(bD (12*x1.cW))))
theorem tF1 {k} (d) (x1:YL):OD k (d+1) 11 [.agg (YL.g x1)]=(F11 x1).map i64:=by
 refine oe rfl ?_;rfl
def F25 (x1:Y0) (d:YL):aB (YL×Bool):=
 (aX (E:=Int⊕Unit) (fun(a:Int)=>if decide (a<([0,1,(-1)].length:Int))then(fK [0,1,(-1)] a).bind fun h=>(gQ [0,1,(-1)] h).bind fun b=>(Kq (YL.mk (bD (d.cW+b)) d.bB)).bind fun i=>(aX (E:=Bool) (fun(⟨e,c⟩:Bool×Int)=>if(decide (c<(x1.aE.length:Int)))&&e then(aV x1.aE c).bind fun f=>(F11 (YL.mk (bD (d.cW+b)) d.bB)).bind fun g=>some (.inl (((decide ((bD (f.dJ+g))>=(-7)))&&(decide ((bD (f.dJ+g))<=7))),(bD (c+1))))else some (.inr e)) bK ((i==0),0)).bind fun j=>if j then some (.inr (.inl (bD (d.cW+b))))else some (.inl (bD (a+1)))else some (.inr (.inr ()))) bK 0).bind fun k=>(match k with|.inl x24=>some ((YL.mk x24 d.bB),true)|.inr _=>some ((YL.mk 0 0),false))
theorem dL2 {k} (d) (x1:Y0) (a:YL):OD k (d+2) 25 [.agg (Y0.g x1),.agg (YL.g a)]=(F25 x1 a).map (fun⟨q,r⟩=>.tup [.agg (YL.g q),bv r]):=by
 refine oe rfl ?_;refine bz (dD cI [0,1,(-1)]) ?_;refine bo (aL (S:=Int) (enc:=fun e=>(Q [(2,.ref 0 0),(3,.ref 1 0),(4,.ref 2 0),(12,.own 3),(13,i64 ([0,1,(-1)].length:Int)),(14,i64 e)] [(3,.lst 3 1 false (I cI [0,1,(-1)])),Sj,(1,.box (YL.g a)),(0,.box (Y0.g x1))])) (encE:=(fun|.inl j=>(rq [(4,.ref 2 0),(5,bv true)] [(3,.lst 3 1 false (I cI [0,1,(-1)])),(2,.box [i64 j,i64 a.bB]),(1,.box (YL.g a)),(0,.box (Y0.g x1))])|.inr _=>(xq 0 [(4,.ref 2 0)] [(3,.lst 3 1 false (I cI [0,1,(-1)])),Sj,(1,.box (YL.g a)),(0,.box (Y0.g x1))]))) (fun e=>?_) bK 0) fun m=>?_;refine io ?_ rfl;refine bo (bU cI [0,1,(-1)] _) fun n=>?_;refine bo (cP (A:=Int) (c:=cI) (g:=fun b=>i64 b) (fun _=>rfl) [0,1,(-1)] _) fun b=>?_;refine bo (lE1 d (YL.mk (bD (a.cW+b)) a.bB)) fun l=>?_;refine bo (aL (S:=Bool×Int) (enc:=fun⟨f,h⟩=>(Q [(2,.ref 0 0),(3,.ref 1 0),(4,.ref 2 0),(8,.ref 4 0),(9,bv f),(10,i64 h),(12,.own 3),(13,i64 ([0,1,(-1)].length:Int)),(14,i64 e)] [(4,.box [i64 (bD (a.cW+b)),i64 a.bB]),(3,.lst 3 1 false (I cI [0,1,(-1)])),Sj,(1,.box (YL.g a)),(0,.box (Y0.g x1))])) (encE:=(fun(i:Bool)=>(xq 2 [(2,.ref 0 0),(3,.ref 1 0),(4,.ref 2 0),(8,.ref 4 0),(9,bv i),(12,.own 3),(13,i64 ([0,1,(-1)].length:Int)),(14,i64 e)] [(4,.box [i64 (bD (a.cW+b)),i64 a.bB]),(3,.lst 3 1 false (I cI [0,1,(-1)])),Sj,(1,.box (YL.g a)),(0,.box (Y0.g x1))]))) (fun⟨f,h⟩=>?_) bK ((l==0),0)) fun i=>?_;refine bz lm ?_;refine bz (gE rfl) ?_;refine ig fun o=>?_;refine bo (tF1 d (YL.mk (bD (a.cW+b)) a.bB)) fun p=>?_;refine bz (gE rfl) ?_;rfl;refine io rfl rfl;rcases m with j|_;rfl;rfl
def F10 (x1:Y0) (a:Int):aB (YL×Bool):=
 if x1.gM then(aV x1.bE a).bind fun b=>some (b.cG,true)else(aV x1.bE a).bind fun c=>(F25 x1 c.cG).bind fun⟨d,e⟩=>some (d,e)
theorem dM2 {k} (d) (x1:Y0) (a:Int):OD k (d+3) 10 [.agg (Y0.g x1),i64 a]=(F10 x1 a).map (fun⟨c,e⟩=>.tup [.agg (YL.g c),bv e]):=by
 refine oe rfl ?_;refine io ?_ ?_;refine bo rg fun f=>?_;rfl;refine bo rg fun b=>?_;refine bo (dL2 d x1 b.cG) fun⟨h,i⟩=>?_;rfl
def F3 (x1:Y0) (e:Int):aB Bool:=
 (F5 x1).bind fun v=>((if !v then some true else(some true).bind fun x=>some (!x):aB (Bool))).bind fun y=>if y then(some true).bind fun z=>some z else(F7 x1 e).bind fun⟨u,A⟩=>(F8 x1 e).bind fun⟨f,g⟩=>(F9 x1).bind fun h=>((if !h then some (24,(YL.mk 0 0))else((if(decide (e<0))||(decide (e>=(x1.bE.length:Int)))then some (2,(YL.mk 0 0))else(F10 x1 e).bind fun⟨i,j⟩=>((if !j then some 18 else some 0:aB (Int))).bind fun k=>some (k,i):aB (Int×YL))).bind fun⟨l,m⟩=>some (l,m):aB (Int×YL))).bind fun⟨c,b⟩=>if((A !=c)||(g !=c))||(((u.cW==b.cW)&&((u.bB==b.bB)&&true))!=true)then some false else if c !=0 then some ((f.length:Int)==0)else(aX (E:=Unit⊕Unit) (fun(a:Int)=>if decide (a<(x1.aE.length:Int))then(aV x1.aE a).bind fun n=>(F11 b).bind fun o=>((if x1.gM then(aV x1.aE a).bind fun p=>(Tl p.dJ b).bind fun⟨q,w⟩=>some q else some (bD (n.dJ+o)):aB (Int))).bind fun d=>((if decide (a>=(f.length:Int))then some true else(aV f a).bind fun r=>some (r !=d):aB (Bool))).bind fun s=>if(s||(decide (d<(-7))))||(decide (d>7))then some (.inr (.inl ()))else some (.inl (bD (a+1)))else some (.inr (.inr ()))) bK 0).bind fun t=>(match t with|.inl _=>some false|.inr _=>some ((f.length:Int)==(x1.aE.length:Int)))
theorem ok3 (d) (x1:Y0) (n:Int):OD true (d+30) 3 [.agg (Y0.g x1),i64 n]=(F3 x1 n).map bv:=by
 refine oe rfl ?_;refine bo (ok5 (d+27) x1) fun A=>?_;refine bo (e:=id) ?_ fun C=>?_;refine io rfl ?_;refine bo (Xz (d+29)) fun B=>?_;rfl;refine io ?_ ?_;refine bo (Xz (d+29)) fun D=>?_;rfl;refine bo (ok7 (d+1) x1 n) fun⟨f,r⟩=>?_;refine bo (ok8 d x1 n) fun⟨h,b⟩=>?_;refine bo (ok9 (d+3) x1) fun s=>?_;refine bo (e:=(fun(⟨m,a⟩:Int×YL)=>(nq [(2,.ref 0 0),(5,.ref 1 0),(6,i64 r),(7,.is 1 (I cI h)),(8,i64 b),(9,i64 m),(10,.ref 2 0)] [(2,.box (YL.g a)),(1,.box (YL.g f)),(0,.box (Y0.g x1))]))) ?_ fun⟨m,a⟩=>?_;refine io rfl ?_;refine bz (fW (bz lm rfl)) ?_;refine bo (e:=(fun(⟨k,l⟩:Int×YL)=>(nq [(2,.ref 0 0),(5,.ref 1 0),(6,i64 r),(7,.is 1 (I cI h)),(8,i64 b),(9,i64 k),(10,.ref 2 0)] [(2,.box (YL.g l)),(1,.box (YL.g f)),(0,.box (Y0.g x1))]))) ?_ fun⟨k,l⟩=>?_;refine io rfl ?_;refine bo (dM2 (d+26) x1 n) fun⟨i,t⟩=>?_;refine bo (e:=(fun(j:Int)=>(nq [(2,.ref 0 0),(5,.ref 1 0),(6,i64 r),(7,.is 1 (I cI h)),(8,i64 b),(9,i64 j),(10,.ref 2 0)] [(3,.box (YL.g i)),(2,.box (YL.g i)),(1,.box (YL.g f)),(0,.box (Y0.g x1))]))) ?_ fun j=>?_;refine io rfl rfl;rfl;rfl;refine bz (fW rfl) ?_;refine bz (fW rfl) ?_;refine io rfl ?_;refine io ?_ ?_;refine bz lm ?_;rfl;refine bo (aL (S:=Int) (enc:=fun c=>(Q [(2,.ref 0 0),(7,.is 1 (I cI h)),(10,.ref 2 0),(13,i64 c)] [(2,.box (YL.g a)),(1,.box (YL.g f)),(0,.box (Y0.g x1))])) (encE:=(fun|.inl _=>(rq [(2,.ref 0 0),(4,bv false),(7,.is 1 (I cI h))] [(2,.box (YL.g a)),(1,.box (YL.g f)),(0,.box (Y0.g x1))])|.inr _=>(xq 1 [(2,.ref 0 0),(7,.is 1 (I cI h))] [(2,.box (YL.g a)),(1,.box (YL.g f)),(0,.box (Y0.g x1))]))) (fun c=>?_) bK 0) fun q=>?_;refine bz lm ?_;refine ig fun u=>?_;refine bo (tF1 (d+28) a) fun v=>?_;refine bo (e:=(fun(o:Int)=>(nq [(2,.ref 0 0),(7,.is 1 (I cI h)),(10,.ref 2 0),(13,i64 c),(14,i64 o)] [(2,.box (YL.g a)),(1,.box (YL.g f)),(0,.box (Y0.g x1))]))) ?_ fun o=>?_;refine ig fun p=>?_;refine bo (lI1 (d+27) p.dJ a) fun⟨w,x⟩=>?_;rfl;refine bz lm ?_;refine bo (e:=id) ?_ fun z=>?_;refine io rfl ?_;refine bo rg fun y=>?_;rfl;refine bz (fW rfl) ?_;refine bz (fW rfl) ?_;refine io rfl rfl;rcases q with _|_;rfl;refine bz lm ?_;refine bz lm ?_;rfl
end Go.P
