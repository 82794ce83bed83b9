import Derived.Test.YtlmhifhgadmigaaGreatLpB
import Derived.KernelRfl
import Derived.Test.YtlmhifhgadmigaaGreatChecked
/- A text of the proof. -/
set_option linter.all false
set_option maxRecDepth 100000
set_option maxHeartbeats 2000000
namespace Go.P
open Go.Sim (Ex dQ CK)
structure YZ where
 Site:Int
 Number:Int
 deriving DecidableEq,Inhabited
def YZ.g (x:YZ):aA PV:=[i64 x.Site,i64 x.Number]
structure YL where
 Steps:Int
 Semitones:Int
 deriving DecidableEq,Inhabited
def YL.g (x:YL):aA PV:=[i64 x.Steps,i64 x.Semitones]
structure YF where
 ID:YZ
 Clef:Int
 deriving DecidableEq,Inhabited
def YF.g (x:YF):aA PV:=[i64 x.ID.Site,i64 x.ID.Number,i64 x.Clef]
structure YJ where
 ID:YZ
 Name:ByteArray
 Transpose:YL
 Staves:List YF
 deriving Inhabited
def YJ.g (x:YJ):aA PV:=[i64 x.ID.Site,i64 x.ID.Number,.v (.string x.Name),i64 x.Transpose.Steps,i64 x.Transpose.Semitones,.is 3 (List.map YF.g x.Staves)]
structure Y6 where
 c0:Int
 c1:Int
 c2:Int
 c3:Int
 c4:Int
 c5:Int
 deriving DecidableEq,Inhabited
def Y6.g (x:Y6):aA PV:=[i64 x.c0,i64 x.c1,i64 x.c2,i64 x.c3,i64 x.c4,i64 x.c5]
structure YX where
 Count:Int
 Unit:Int
 Groups:Y6
 deriving DecidableEq,Inhabited
def YX.g (x:YX):aA PV:=[i64 x.Count,i64 x.Unit,i64 x.Groups.c0,i64 x.Groups.c1,i64 x.Groups.c2,i64 x.Groups.c3,i64 x.Groups.c4,i64 x.Groups.c5]
structure YT where
 At:Int
 Micros:Int
 Ramp:Bool
 deriving DecidableEq,Inhabited
def YT.g (x:YT):aA PV:=[i64 x.At,i64 x.Micros,bv x.Ramp]
structure YC where
 At:Int
 Clef:Int
 deriving DecidableEq,Inhabited
def YC.g (x:YC):aA PV:=[i64 x.At,i64 x.Clef]
structure YA where
 Log:Int
 Dots:Int
 deriving DecidableEq,Inhabited
def YA.g (x:YA):aA PV:=[i64 x.Log,i64 x.Dots]
structure YH where
 Step:Int
 Alter:Int
 Octave:Int
 deriving DecidableEq,Inhabited
def YH.g (x:YH):aA PV:=[i64 x.Step,i64 x.Alter,i64 x.Octave]
structure YB where
 Pitch:YH
 Tied:Bool
 Show:Int
 deriving DecidableEq,Inhabited
def YB.g (x:YB):aA PV:=[i64 x.Pitch.Step,i64 x.Pitch.Alter,i64 x.Pitch.Octave,bv x.Tied,i64 x.Show]
structure YD where
 Pitch:YH
 Log:Int
 Slash:Bool
 deriving DecidableEq,Inhabited
def YD.g (x:YD):aA PV:=[i64 x.Pitch.Step,i64 x.Pitch.Alter,i64 x.Pitch.Octave,i64 x.Log,bv x.Slash]
structure YY where
 Text:ByteArray
 Link:Int
 deriving DecidableEq,Inhabited
def YY.g (x:YY):aA PV:=[.v (.string x.Text),i64 x.Link]
structure YE where
 ID:YZ
 Kind:Int
 Value:YA
 Heads:List YB
 Graces:List YD
 Articulations:Int
 Ornament:Int
 Dynamic:Int
 Lyrics:List YY
 Stem:Int
 Beam:Int
 deriving Inhabited
def YE.g (x:YE):aA PV:=[i64 x.ID.Site,i64 x.ID.Number,i64 x.Kind,i64 x.Value.Log,i64 x.Value.Dots,.is 5 (List.map YB.g x.Heads),.is 5 (List.map YD.g x.Graces),i64 x.Articulations,i64 x.Ornament,i64 x.Dynamic,.is 2 (List.map YY.g x.Lyrics),i64 x.Stem,i64 x.Beam]
structure YU where
 First:Int
 Count:Int
 Actual:Int
 Normal:Int
 deriving DecidableEq,Inhabited
def YU.g (x:YU):aA PV:=[i64 x.First,i64 x.Count,i64 x.Actual,i64 x.Normal]
structure YO where
 Events:List YE
 Tuplets:List YU
 deriving Inhabited
def YO.g (x:YO):aA PV:=[.is 13 (List.map YE.g x.Events),.is 4 (List.map YU.g x.Tuplets)]
structure YW where
 Clefs:List YC
 Voices:List YO
 deriving Inhabited
def YW.g (x:YW):aA PV:=[.is 2 (List.map YC.g x.Clefs),.is 2 (List.map YO.g x.Voices)]
structure YM where
 ID:YZ
 Metre:YX
 Length:Int
 Fifths:Int
 RepeatStart:Bool
 RepeatEnd:Int
 Endings:Int
 Jump:Int
 Labels:Int
 Swing:Int
 Break:Int
 Rehearsal:ByteArray
 Tempi:List YT
 Cells:List YW
 deriving Inhabited
def YM.g (x:YM):aA PV:=[i64 x.ID.Site,i64 x.ID.Number,i64 x.Metre.Count,i64 x.Metre.Unit,i64 x.Metre.Groups.c0,i64 x.Metre.Groups.c1,i64 x.Metre.Groups.c2,i64 x.Metre.Groups.c3,i64 x.Metre.Groups.c4,i64 x.Metre.Groups.c5,i64 x.Length,i64 x.Fifths,bv x.RepeatStart,i64 x.RepeatEnd,i64 x.Endings,i64 x.Jump,i64 x.Labels,i64 x.Swing,i64 x.Break,.v (.string x.Rehearsal),.is 3 (List.map YT.g x.Tempi),.is 2 (List.map YW.g x.Cells)]
structure YN where
 ID:YZ
 Kind:Int
 From:YZ
 To:YZ
 deriving DecidableEq,Inhabited
def YN.g (x:YN):aA PV:=[i64 x.ID.Site,i64 x.ID.Number,i64 x.Kind,i64 x.From.Site,i64 x.From.Number,i64 x.To.Site,i64 x.To.Number]
structure Y0 where
 Title:ByteArray
 Written:Bool
 Parts:List YJ
 Measures:List YM
 Spanners:List YN
 Last:List YZ
 deriving Inhabited
def Y0.g (x:Y0):aA PV:=[.v (.string x.Title),bv x.Written,.is 6 (List.map YJ.g x.Parts),.is 22 (List.map YM.g x.Measures),.is 7 (List.map YN.g x.Spanners),.is 2 (List.map YZ.g x.Last)]
structure YV where
 Rule:Int
 Object:YZ
 deriving DecidableEq,Inhabited
def YV.g (x:YV):aA PV:=[i64 x.Rule,i64 x.Object.Site,i64 x.Object.Number]
structure YI where
 name:ByteArray
 letter:Int
 line:Int
 octaves:Int
 middle:Int
 sharps:Int
 flats:Int
 deriving DecidableEq,Inhabited
def YI.g (x:YI):aA PV:=[.v (.string x.name),.v (.int .u8 x.letter),i64 x.line,i64 x.octaves,i64 x.middle,i64 x.sharps,i64 x.flats]
structure Y9 where
 c0:YI
 c1:YI
 c2:YI
 c3:YI
 c4:YI
 c5:YI
 c6:YI
 c7:YI
 c8:YI
 deriving DecidableEq,Inhabited
def Y9.g (x:Y9):aA PV:=[.v (.string x.c0.name),.v (.int .u8 x.c0.letter),i64 x.c0.line,i64 x.c0.octaves,i64 x.c0.middle,i64 x.c0.sharps,i64 x.c0.flats,.v (.string x.c1.name),.v (.int .u8 x.c1.letter),i64 x.c1.line,i64 x.c1.octaves,i64 x.c1.middle,i64 x.c1.sharps,i64 x.c1.flats,.v (.string x.c2.name),.v (.int .u8 x.c2.letter),i64 x.c2.line,i64 x.c2.octaves,i64 x.c2.middle,i64 x.c2.sharps,i64 x.c2.flats,.v (.string x.c3.name),.v (.int .u8 x.c3.letter),i64 x.c3.line,i64 x.c3.octaves,i64 x.c3.middle,i64 x.c3.sharps,i64 x.c3.flats,.v (.string x.c4.name),.v (.int .u8 x.c4.letter),i64 x.c4.line,i64 x.c4.octaves,i64 x.c4.middle,i64 x.c4.sharps,i64 x.c4.flats,.v (.string x.c5.name),.v (.int .u8 x.c5.letter),i64 x.c5.line,i64 x.c5.octaves,i64 x.c5.middle,i64 x.c5.sharps,i64 x.c5.flats,.v (.string x.c6.name),.v (.int .u8 x.c6.letter),i64 x.c6.line,i64 x.c6.octaves,i64 x.c6.middle,i64 x.c6.sharps,i64 x.c6.flats,.v (.string x.c7.name),.v (.int .u8 x.c7.letter),i64 x.c7.line,i64 x.c7.octaves,i64 x.c7.middle,i64 x.c7.sharps,i64 x.c7.flats,.v (.string x.c8.name),.v (.int .u8 x.c8.letter),i64 x.c8.line,i64 x.c8.octaves,i64 x.c8.middle,i64 x.c8.sharps,i64 x.c8.flats]
structure YK where
 s':Y0
 rule:Int
 list:List YV
 deriving Inhabited
def YK.g (x:YK):aA PV:=[.v (.string x.s'.Title),bv x.s'.Written,.is 6 (List.map YJ.g x.s'.Parts),.is 22 (List.map YM.g x.s'.Measures),.is 7 (List.map YN.g x.s'.Spanners),.is 2 (List.map YZ.g x.s'.Last),i64 x.rule,.is 3 (List.map YV.g x.list)]
structure xK where
 c0:Int
 c1:Int
 c2:Int
 c3:Int
 c4:Int
 c5:Int
 c6:Int
 deriving DecidableEq,Inhabited
def xK.g (x:xK):aA PV:=[i64 x.c0,i64 x.c1,i64 x.c2,i64 x.c3,i64 x.c4,i64 x.c5,i64 x.c6]
structure YP where
 Kind:Int
 Part:Int
 Staff:Int
 Measure:Int
 Voice:Int
 Event:Int
 Spanner:Int
 deriving DecidableEq,Inhabited
def YP.g (x:YP):aA PV:=[i64 x.Kind,i64 x.Part,i64 x.Staff,i64 x.Measure,i64 x.Voice,i64 x.Event,i64 x.Spanner]
structure YQ where
 Measure:Int
 At:Int
 Staff:Int
 Voice:Int
 deriving DecidableEq,Inhabited
def YQ.g (x:YQ):aA PV:=[i64 x.Measure,i64 x.At,i64 x.Staff,i64 x.Voice]
structure YS where
 Kind:Int
 From:YQ
 To:YQ
 deriving DecidableEq,Inhabited
def YS.g (x:YS):aA PV:=[i64 x.Kind,i64 x.From.Measure,i64 x.From.At,i64 x.From.Staff,i64 x.From.Voice,i64 x.To.Measure,i64 x.To.At,i64 x.To.Staff,i64 x.To.Voice]
structure YG where
 started:Bool
 body:Int
 used:Int
 ending:Int
 ended:Bool
 passes:Int
 deriving DecidableEq,Inhabited
def YG.g (x:YG):aA PV:=[bv x.started,i64 x.body,i64 x.used,i64 x.ending,bv x.ended,i64 x.passes]
structure aG where
 On:Int
 Off:Int
 Number:Int
 Part:Int
 Staff:Int
 Voice:Int
 Event:YZ
 Head:Int
 deriving DecidableEq,Inhabited
def aG.g (x:aG):aA PV:=[i64 x.On,i64 x.Off,i64 x.Number,i64 x.Part,i64 x.Staff,i64 x.Voice,i64 x.Event.Site,i64 x.Event.Number,i64 x.Head]
structure bB where
 Staff:Int
 Voice:Int
 Event:Int
 On:Int
 Off:Int
 deriving DecidableEq,Inhabited
def bB.g (x:bB):aA PV:=[i64 x.Staff,i64 x.Voice,i64 x.Event,i64 x.On,i64 x.Off]
theorem Lm:xH (eA YZ.g) true [.i,.i]:=⟨fun _=>rfl,fun a b=>by
 cases a;cases b
 simp only[oY,eA,YZ.g,i64,iJ,nT,YZ.mk.injEq,lD2,kC2,and_self,kR2]
 repeat' (first|rfl|split)
 all_goals simp_all⟩
theorem gG:xH (eA YP.g) true [.i,.i,.i,.i,.i,.i,.i]:=⟨fun _=>rfl,fun a b=>by
 cases a;cases b
 simp only[oY,eA,YP.g,i64,iJ,nT,YP.mk.injEq,lD2,kC2,and_self,kR2]
 repeat' (first|rfl|split)
 all_goals simp_all⟩
theorem xL:xH (eA YH.g) true [.i,.i,.i]:=⟨fun _=>rfl,fun a b=>by
 cases a;cases b
 simp only[oY,eA,YH.g,i64,iJ,nT,YH.mk.injEq,lD2,kC2,and_self,kR2]
 repeat' (first|rfl|split)
 all_goals simp_all⟩
end Go.P
namespace Go.P.K
open Go.Sim (Ex dQ CK)
abbrev I {A B:Type} (f:A->B) (l:aA A):aA B:=l.map f
abbrev Q (e:dS) (h:aN):Ez:=⟨e,h⟩
abbrev rq (e:dS) (h:aN):Ex×Ez:=(.ret,⟨e,h⟩)
abbrev ck (s:Y0) (r:Int) (l:PV):aA PV:=[.v (.string s.Title),bv s.Written,.is 6 (List.map YJ.g s.Parts),.is 22 (List.map YM.g s.Measures),.is 7 (List.map YN.g s.Spanners),.is 2 (List.map YZ.g s.Last),i64 r,l]
abbrev nq (e:dS) (h:aN):Ex×Ez:=(.normal,⟨e,h⟩)
abbrev xq (n:Nat) (e:dS) (h:aN):Ex×Ez:=(.exit n,⟨e,h⟩)
end Go.P.K
namespace Go.P.K
open Go.Sim (Ex dQ CK)
abbrev t (n:Nat):PX:=.t n
abbrev c (n:Int):PX:=.c (.v (.int .i64 n))
abbrev cn:PX:=.c (.v (.slice none 0 0))
abbrev ct:PX:=.c (.v (.bool true))
abbrev cf:PX:=.c (.v (.bool false))
abbrev J (n:Int):Value:=.int .i64 n
abbrev ZS:Value:=.string ⟨#[]⟩
abbrev ZB:Value:=.bool false
abbrev ZN:Value:=.slice none 0 0
abbrev o (d:Nat) (k:dQ) (xs:aA PX) (l:aA Nat) (r:fU):fU:=.op d k xs l r
abbrev m (d x:Nat) (r:fU):fU:=.op d .mov [.t x] [] r
abbrev M (d x:Nat) (r:fU):fU:=.op d .mov [.t x] [x] r
abbrev L (d x:Nat) (r:fU):fU:=.op d .loadS [.t x] [x] r
abbrev a (d k x:Nat) (r:fU):fU:=.op d (.fad k) [.t x] [] r
abbrev A (d k x:Nat) (r:fU):fU:=.op d (.fad k) [.t x] [x] r
abbrev b (d:Nat) (k:BinOp) (xs:aA PX) (l:aA Nat) (r:fU):fU:=.op d (.bin k) xs l r
abbrev f (d g:Nat) (xs:aA PX) (l:aA Nat) (r:fU):fU:=.op d (.callF g) xs l r
abbrev e (d k x:Nat) (l:aA Nat) (r:fU):fU:=.op d (.ext k) [.t x] l r
abbrev O (d:Nat) (k:dQ) (x:Nat) (r:fU):fU:=.op d k [.t x] [x] r
abbrev B (d:Nat) (k:BinOp) (x:Nat) (n:Int) (r:fU):fU:=.op d (.bin k) [.t x,c n] [x] r
abbrev C (d:Nat) (k:BinOp) (x y:Nat) (r:fU):fU:=.op d (.bin k) [.t x,.t y] [x,y] r
abbrev U (d:Nat) (k:dQ) (l:aA Nat) (r:fU):fU:=.op d k (l.map .t) l r
abbrev x (d g:Nat) (w:Bool) (s:fU) (y:PX) (l:aA Nat) (r:fU):fU:=.ifx d g w s y l r
abbrev R (s:fU) (q:PC):PC:=.seq (.reg s) q
abbrev z0:aA Value:=[(J 0),(J 0),(J 0),(J 0),(J 0),(J 0),(J 0),(J 0),(J 0)]
abbrev z1:aA Value:=[(J 0),(J 0),(J 0),(J 0),(J 0),(J 0),(J 0),(J 0),(J 0),(J 0),(J 0),(J 0),ZB,(J 0),(J 0),(J 0),(J 0),(J 0),(J 0),ZS,ZN,ZN]
abbrev z2:aA Value:=[(.pointer none),(.map none),(J 0),(J 0),(J 0),(J 0),(J 0),(J 0),(J 0),(J 0),(J 0),(J 0)]
abbrev z3:aA Value:=[(J 0),(J 0),(J 0),(J 0),(J 0),(J 0),(J 0)]
abbrev z4:aA Value:=[(J 0),(J 0)]
abbrev z5:aA Value:=[(J 0),(J 0),(J 0),(J 0),(J 0),ZN,ZN,(J 0),(J 0),(J 0),ZN,(J 0),(J 0)]
abbrev z6:aA Value:=[ZS,ZB,ZN,ZN,ZN,ZN,(J 0),ZN]
abbrev z7:aA Value:=[(J 0),(J 0),ZS,(J 0),(J 0),ZN]
abbrev z12:aA Value:=[(J 0),(J 0),(J 0),ZB,(J 0)]
abbrev z19:aA Value:=[(J 0),(J 0),(J 0),(J 0),(J 0),(J 0)]
end Go.P.K
namespace Go.P
open Go.Sim (Ex dQ CK)
noncomputable section
open K
noncomputable abbrev aP (f s:Nat) (z:Bool):bK:=anF Go.Proofs.Tryz.prog f s z
def zg (l:aA bK) (i:Nat):bK:=(l[i]?).getD default
def bM:PC:=R (U 6 (.alloc 43 z3) []<|.sto (.store 7) [t 6,t 13] [13]<|.nil)<|.reg<|M 7 14<|.nil
def bN:PC:=.block 1 (.seq (.regD 3 (M 15 7<|O 16 .nilc 15<|O 17 (.loadA 2) 16<|O 18 (.loadA 2) 3<|U 19 (.eqA false [.i,.i]) [17,18]<|.nil) [0,1,3,0,15])<|.cond (t 19) (R (O 20 (.loadA 7) 6<|.sto (.store 7) [t 4,t 20] [4,20]<|.sto (.store 1) [t 5,ct] [5]<|.nil)<|.ret) (.skip))
def p11:bK:=⟨22,[.cellA 4 7,.cellS 5],R (O 2 (.box 27 6) 0<|O 3 (.box 39 2) 1<|U 4 (.alloc 43 z3) []<|U 5 (.alloc 4 [ZB]) []<|.nil)<|.seq (R (o 8 (.loadA 2) [t 3] []<|U 9 (.build z4 []) []<|U 10 (.eqA false [.i,.i]) [8,9]<|.nil)<|.cond (t 10) (R (U 11 (.build z3 []) []<|.sto (.store 7) [t 4,t 11] [11]<|.sto (.store 1) [t 5,cf] []<|.nil)<|.ret) (.skip))<|.seq (R (O 12 (.callF 25) 2<|.nil)<|.block 0 (.rangeF 22 [3,4,5] (t 12) [13,14] bM bN))<|R (U 21 (.build z3 []) []<|.sto (.store 7) [t 4,t 21] [21]<|.sto (.store 1) [t 5,cf] []<|.nil)<|.ret,true⟩
def p30:bK:=⟨86,[],R (U 8 .mkmap []<|M 2 8<|.nil)<|.seq (R (m 9 0<|O 10 .nilc 9<|A 11 0 10<|O 12 (.loadA 6) 11<|O 13 (.callF 63) 12<|o 14 (.len 0) [t 13] []<|o 15 .mov [c 0] []<|.nil)<|.block 0 (.loop [0,2,13,14,15] [0] (R (b 16 .lss [t 15,t 14] []<|.nil)<|.seq (.cond (t 16) (.skip) (.exit 0))<|.seq (.block 1 (R (o 17 (.iad 2) [t 13,t 15] []<|O 18 (.loadA 2) 17<|U 4 (.alloc 39 z4) []<|.sto (.store 2) [t 4,t 18] [18]<|.nil)<|.seq (.regD 3 (m 19 0<|o 20 (.loadA 2) [t 4] []<|O 21 (.callF 64) 20<|O 22 (.un .not) 21<|M 23 22<|x 27 23 false (m 24 2<|o 25 (.loadA 2) [t 4] []<|U 26 (.lookup true [.i,.i] (.v (.bool false)) false) [24,25]<|.nil) (t 26) [23]<|M 28 27<|x 39 28 false (a 29 1 4<|L 30 29<|m 31 0<|O 32 .nilc 31<|A 33 0 32<|O 34 (.loadA 6) 33<|a 35 0 4<|L 36 35<|U 37 (.callF 65) [34,36]<|C 38 .gtr 30 37<|.nil) (t 38) [28]<|o 40 (.loadA 2) [t 4] []<|f 41 59 [t 19,t 39,t 40] [19,39,40,41]<|.nil) [0,0,2,6,14,30,30,126,254,510,1022,2046,1022,5118,13310,29694,1022,66558,259070,524286,1048574,0,4194303])<|.reg<|o 42 .mov [t 2] [41]<|O 43 (.loadA 2) 4<|.sto (.mapup true [.i,.i]) [t 42,t 43,ct] [42,43]<|.nil))<|.reg<|B 44 .add 15 1<|M 15 44<|.nil)))<|R (o 5 .mov [cf] []<|.nil)<|.seq (R (m 45 0<|O 46 .nilc 45<|A 47 0 46<|A 48 5 47<|L 49 48<|o 50 (.len 0) [t 49] []<|o 51 .mov [c 0] []<|.nil)<|.block 2 (.loop [0,5,49,50,51] [0,5] (R (b 52 .lss [t 51,t 50] []<|.nil)<|.seq (.cond (t 52) (.skip) (.exit 2))<|.seq (.block 3 (R (m 53 51<|o 54 (.iad 2) [t 49,t 51] []<|O 55 (.loadA 2) 54<|U 7 (.alloc 39 z4) []<|M 6 53<|.sto (.store 2) [t 7,t 55] [55]<|.nil)<|.regD 3 (M 56 5<|M 57 56<|x 61 57 false (o 58 (.loadA 2) [t 7] []<|O 59 (.callF 64) 58<|O 60 (.un .not) 59<|.nil) (t 60) [57]<|M 62 61<|x 80 62 false (m 63 6<|B 64 .gtr 63 0<|M 65 64<|x 79 65 true (A 66 0 7<|L 67 66<|m 68 0<|O 69 .nilc 68<|A 70 0 69<|A 71 5 70<|L 72 71<|M 73 6<|B 74 .sub 73 1<|U 75 (.iad 2) [72,74]<|A 76 0 75<|L 77 76<|C 78 .leq 67 77<|.nil) (t 78) [6,7,65]<|.nil) (t 79) [6,7,62]<|M 5 80<|.nil) [0,1,3,7,15,31,63,127,255,511,1023,2047,1023,5119,13311,29695,62463,1023,132095,521215,1045503,2094079,4194303,8388607,16777215,33554431]))<|.reg<|B 81 .add 51 1<|M 51 81<|.nil)))<|.reg<|M 82 0<|M 83 5<|U 84 (.build z4 []) []<|f 85 59 [t 82,t 83,t 84] [82,83,84,85]<|.nil,true⟩
def p49:bK:=⟨103,[],R (O 5 (.box 104 13) 1<|.nil)<|R (U 16 .mkmap []<|M 8 16<|.nil)<|.seq (R (a 17 5 5<|L 18 17<|o 19 (.len 0) [t 18] []<|o 20 .mov [c 0] []<|.nil)<|.block 0 (.loop [0,2,3,5,8,18,19,20] [0,8] (R (b 21 .lss [t 20,t 19] []<|.nil)<|.seq (.cond (t 21) (.skip) (.exit 0))<|.seq (.block 1 (R (m 22 20<|o 23 (.iad 5) [t 18,t 20] []<|O 24 (.loadA 5) 23<|U 10 (.alloc 108 z12) []<|M 9 22<|.sto (.store 5) [t 10,t 24] [24]<|.nil)<|.seq (.regD 3 (m 26 0<|O 27 .nilc 26<|A 28 1 27<|L 29 28<|a 30 0 10<|O 31 (.loadA 3) 30<|U 32 (.lookup true [.i,.i,.i] (.v (.int .i64 0)) true) [29,31]<|M 25 32<|e 33 0 25 []<|O 34 (.ext 1) 25<|M 11 33<|M 12 34<|.nil) [0,1,3,7,0,16,63,127,255,255,511,2047])<|.seq (R (M 35 12<|O 36 (.un .not) 35<|.nil)<|.condJ [0,2,3,5,8,10,11,18,19,20] (t 36) (R (a 38 0 10<|O 39 (.loadA 3) 38<|O 40 (.callF 80) 39<|M 37 40<|e 41 0 37 []<|O 42 (.ext 1) 37<|M 13 41<|o 14 .mov [t 42] [14,42]<|.nil)<|R (o 43 .mov [t 0] [14]<|O 44 .nilc 43<|A 45 2 44<|O 46 (.loadA 9) 45<|U 15 (.alloc 41 z0) []<|.sto (.store 9) [t 15,t 46] [46]<|.nil)<|.seq (.regX 3 (m 47 2<|M 48 13<|m 49 0<|O 50 .nilc 49<|A 51 11 50<|o 52 .loadS [t 51] []<|C 53 .sub 48 52<|a 54 0 5<|o 55 (.loadA 2) [t 54] []<|M 56 9<|a 57 0 15<|.sto (.store 1) [t 57,t 47] [47]<|a 58 2 15<|.sto (.store 1) [t 58,t 53] [53]<|a 59 6 15<|.sto (.store 2) [t 59,t 55] [55,59]<|a 60 8 15<|.sto (.store 1) [t 60,t 56] [56,60]<|.nil) [0,0,0,4,12,28,62,0,128,0,1,1025,3199,7295,15871,32255,65535,131071] [(5,11,51,57),(8,11,54,57),(8,13,54,58)])<|R (m 61 0<|O 62 .nilc 61<|A 63 0 62<|L 64 63<|O 65 .nilc 64<|L 66 65<|O 67 (.len 0) 66<|M 11 67<|.nil)<|.regX 3 (m 68 0<|O 69 .nilc 68<|A 70 0 69<|o 71 .loadS [t 70] []<|m 72 0<|O 73 .nilc 72<|A 74 0 73<|L 75 74<|O 76 .nilc 75<|L 77 76<|O 78 (.loadA 9) 15<|O 79 (.buildSl 41 9 1 z0 [0]) 78<|U 80 (.append 41 9 72 z0 false) [77,79]<|O 81 .nilc 71<|.sto (.store 1) [t 81,t 80] [81]<|.nil) [0,1,3,7,0,16,48,112,240,496,0,1024,4080,8191,16383] [(3,12,70,80)]) (.skip))<|R (m 82 0<|O 83 .nilc 82<|A 84 0 83<|L 85 84<|O 86 .nilc 85<|L 87 86<|m 88 11<|m 89 3<|U 90 (.iad 9) [87,88]<|A 91 1 90<|.sto (.store 1) [t 91,t 89] [89,91]<|.nil)<|R (a 92 3 10<|L 93 92<|.nil)<|.condJ [0,2,3,5,8,18,19,20] (t 93) (.reg<|m 94 8<|A 95 0 10<|O 96 (.loadA 3) 95<|M 97 11<|.sto (.mapup true [.i,.i,.i]) [t 94,t 96,t 97] [94,96,97]<|.nil) (.skip)))<|.reg<|B 98 .add 20 1<|M 20 98<|.nil)))<|.reg<|M 99 0<|M 100 8<|.fz 100 none<|O 101 .nilc 99<|A 102 1 101<|.sto (.store 1) [t 102,t 100] [100,102]<|.nil,true⟩
def dA:PC:=.reg<|M 5 8<|.nil
def dB:PC:=.block 1 (.regD 3 (o 9 .loadS [t 3] []<|M 10 5<|O 11 .nilc 10<|O 12 (.loadA 2) 11<|O 13 (.buildSl 39 2 1 z4 [0]) 12<|U 14 (.append 39 2 16 z4 false) [9,13]<|.sto (.store 1) [t 3,t 14] [3,14]<|.nil) [0,0,2,6,14,31,63])
def p63:bK:=⟨16,[.tmp 2],R (O 1 (.box 27 6) 0<|o 2 .mov [cn] [2]<|.nil)<|R (o 3 (.alloc 25 [ZN]) [] [2]<|.ownc 3 0 39 2 false<|.nil)<|.seq (R (O 6 (.callF 25) 1<|.nil)<|.block 0 (.rangeF 16 [3] (t 6) [7,8] dA dB))<|R (L 15 3<|M 2 15<|.nil)<|.ret,true⟩
def p70:bK:=⟨55,[.tmp 5],R (O 4 (.box 65 22) 1<|o 5 .mov [cf] [5]<|.nil)<|R (o 12 (.loadA 22) [t 4] [5]<|O 13 (.callF 47) 12<|M 11 13<|e 14 0 11 []<|O 15 (.ext 1) 11<|o 6 .mov [t 14] [6,14]<|o 7 .mov [t 15] [6,15]<|.nil)<|R (M 16 7<|B 17 .neq 16 0<|M 18 17<|x 23 18 false (a 19 11 4<|L 20 19<|f 21 61 [t 20,c (-7),c 7] [20]<|O 22 (.un .not) 21<|.nil) (t 22) [18]<|M 8 23<|.nil)<|.seq (R (o 24 .loadS [t 2] []<|O 25 .nilc 24<|A 26 0 25<|A 27 2 26<|L 28 27<|o 29 (.len 0) [t 28] []<|o 30 .mov [c 0] []<|.nil)<|.block 0 (.loop [2,4,8,28,29,30] [8] (R (b 31 .lss [t 30,t 29] []<|.nil)<|.seq (.cond (t 31) (.skip) (.exit 0))<|.seq (.block 1 (R (o 32 (.iad 6) [t 28,t 30] []<|O 33 (.loadA 6) 32<|U 10 (.alloc 58 z7) []<|.sto (.store 6) [t 10,t 33] [33]<|.nil)<|R (o 34 .loadS [t 2] []<|O 35 .nilc 34<|A 36 0 35<|A 37 1 36<|L 38 37<|M 39 38<|x 42 39 true (m 40 8<|O 41 (.un .not) 40<|.nil) (t 41) [39]<|.nil)<|.condJ [2,4,8,28,29,30] (t 42) (R (a 44 11 4<|L 45 44<|A 46 3 10<|O 47 (.loadA 2) 46<|U 48 (.callF 71) [45,47]<|M 43 48<|e 49 0 43 [49]<|e 50 1 43 [43,49]<|M 7 50<|.nil)<|.reg<|M 51 7<|B 52 .neq 51 0<|M 8 52<|.nil) (.skip)))<|.reg<|B 53 .add 30 1<|M 30 53<|.nil)))<|R (M 54 8<|M 5 54<|.nil)<|.ret,true⟩
def p90:bK:=⟨108,[],R (U 10 (.alloc 114 [ZS,(J 0)]) []<|.nil)<|R (U 11 (.alloc 43 z3) []<|.nil)<|.seq (R (M 18 0<|O 19 .nilc 18<|A 20 0 19<|A 21 3 20<|L 22 21<|o 23 (.len 0) [t 22] []<|o 24 .mov [c 0] []<|.nil)<|.block 0 (.loop [1,2,3,4,10,11,22,23,24] [4,10,11] (R (b 25 .lss [t 24,t 23] []<|.nil)<|.seq (.cond (t 25) (.skip) (.exit 0))<|.seq (.block 1 (R (m 26 24<|o 27 (.iad 22) [t 22,t 24] []<|O 28 (.loadA 22) 27<|U 13 (.alloc 65 z1) []<|M 12 26<|.sto (.store 22) [t 13,t 28] [28]<|.nil)<|.seq (R (m 29 1<|a 30 21 13<|L 31 30<|O 32 (.len 0) 31<|C 33 .geq 29 32<|M 34 33<|x 44 34 false (m 35 2<|a 36 21 13<|L 37 36<|m 38 1<|U 39 (.iad 2) [37,38]<|A 40 1 39<|L 41 40<|O 42 (.len 0) 41<|C 43 .geq 35 42<|.nil) (t 43) [34]<|.nil)<|.cond (t 44) (.exit 1) (.skip))<|R (A 45 21 13<|L 46 45<|m 47 1<|U 48 (.iad 2) [46,47]<|A 49 1 48<|L 50 49<|m 51 2<|U 52 (.iad 2) [50,51]<|A 53 0 52<|L 54 53<|o 55 (.len 0) [t 54] []<|o 56 .mov [c 0] []<|.nil)<|.block 2 (.loop [1,2,3,4,10,11,12,22,23,24,54,55,56] [1,2,3,4,10,11,22,23,24] (R (b 57 .lss [t 56,t 55] []<|.nil)<|.seq (.cond (t 57) (.skip) (.exit 2))<|.seq (.block 3 (R (m 58 56<|o 59 (.iad 13) [t 54,t 56] []<|O 60 (.loadA 13) 59<|U 15 (.alloc 104 z5) []<|M 14 58<|.sto (.store 13) [t 15,t 60] [60]<|.nil)<|.seq (R (o 61 (.loadA 13) [t 15] []<|m 62 3<|U 63 (.callF 153) [61,62]<|.nil)<|.cond (t 63) (.exit 3) (.skip))<|.seq (.regX 3 (m 64 1<|m 65 12<|m 66 2<|M 67 14<|o 68 (.build z3 [(0,1),(2,1),(3,1),(4,1),(5,1)]) [c 4,t 64,t 65,t 66,t 67] [64,65,66,67]<|A 69 10 15<|o 70 .loadS [t 69] []<|m 71 3<|U 72 (.iad 2) [70,71]<|o 73 (.loadA 2) [t 72] []<|U 16 (.alloc 43 z3) []<|U 17 (.alloc 114 [ZS,(J 0)]) []<|.sto (.store 7) [t 16,t 68] [68]<|.sto (.store 2) [t 17,t 73] [73]<|.nil) [0,0,0,0,15,0,32,0,224,480,0,0,3103,8191] [(6,12,69,16),(9,12,72,16)])<|.seq (R (a 74 1 10<|L 75 74<|B 76 .eql 75 1<|M 77 76<|x 81 77 true (a 78 0 17<|L 79 78<|b 80 .eql [t 79,.c (.v (.string ⟨#[]⟩))] [79]<|.nil) (t 80) [77]<|.nil)<|.condJ [1,2,3,4,10,11,12,16,17,22,23,24,54,55,56] (t 81) (.reg<|m 82 4<|o 83 (.loadA 7) [t 11] []<|.sto (.mapup true [.i,.i,.i,.i,.i,.i,.i]) [t 82,t 83,ct] [82,83]<|.nil) (.skip))<|.seq (R (a 84 0 17<|L 85 84<|b 86 .eql [t 85,.c (.v (.string ⟨#[]⟩))] [85]<|M 87 86<|x 91 87 true (a 88 1 17<|L 89 88<|B 90 .eql 89 2<|.nil) (t 90) [87]<|M 92 91<|x 96 92 true (a 93 1 10<|L 94 93<|B 95 .neq 94 2<|.nil) (t 95) [92]<|.nil)<|.condJ [1,2,3,4,10,11,12,16,17,22,23,24,54,55,56] (t 96) (.reg<|m 97 4<|o 98 (.loadA 7) [t 16] []<|.sto (.mapup true [.i,.i,.i,.i,.i,.i,.i]) [t 97,t 98,ct] [97,98]<|.nil) (.skip))<|.regX 3 (O 99 (.loadA 2) 17<|o 100 (.loadA 7) [t 16] []<|.sto (.store 2) [t 10,t 99] [99]<|.sto (.store 7) [t 11,t 100] [100]<|.nil) [0,0,1,7] [(1,2,16,10)]))<|.reg<|B 101 .add 56 1<|M 56 101<|.nil))))<|.reg<|B 102 .add 24 1<|M 24 102<|.nil)))<|R (A 103 1 10<|L 104 103<|B 105 .eql 104 1<|.nil)<|.condJ [] (t 105) (.reg<|M 106 4<|O 107 (.loadA 7) 11<|.sto (.mapup true [.i,.i,.i,.i,.i,.i,.i]) [t 106,t 107,ct] [106,107]<|.nil) (.skip),true⟩
def p91:bK:=⟨9,[.tmp 5],R (O 3 (.box 43 7) 0<|o 4 (.box 104 13) [t 1] [1,4]<|o 5 .mov [cf] [4,5]<|.nil)<|R (o 6 .loadS [t 2] [2,5]<|O 7 (.loadA 7) 3<|U 8 (.lookup true [.i,.i,.i,.i,.i,.i,.i] (.v (.bool false)) false) [6,7]<|M 5 8<|.nil)<|.ret,true⟩
def uE1:bK:=⟨73,[.tmp 4],R (O 2 (.box 104 13) 0<|O 3 (.box 104 13) 1<|o 4 .mov [cf] [4]<|.nil)<|R (o 5 (.fad 2) [t 2] [4]<|L 6 5<|a 7 2 3<|L 8 7<|C 9 .eql 6 8<|M 10 9<|x 16 10 true (a 11 3 2<|O 12 (.loadA 2) 11<|a 13 3 3<|O 14 (.loadA 2) 13<|U 15 (.eqA false [.i,.i]) [12,14]<|.nil) (t 15) [10]<|M 17 16<|x 23 17 true (a 18 7 2<|L 19 18<|a 20 7 3<|L 21 20<|C 22 .eql 19 21<|.nil) (t 22) [17]<|M 24 23<|x 30 24 true (a 25 8 2<|L 26 25<|a 27 8 3<|L 28 27<|C 29 .eql 26 28<|.nil) (t 29) [24]<|M 31 30<|x 37 31 true (a 32 9 2<|L 33 32<|a 34 9 3<|L 35 34<|C 36 .eql 33 35<|.nil) (t 36) [31]<|M 38 37<|x 44 38 true (a 39 11 2<|L 40 39<|a 41 11 3<|L 42 41<|C 43 .eql 40 42<|.nil) (t 43) [38]<|M 45 44<|x 51 45 true (a 46 12 2<|L 47 46<|a 48 12 3<|L 49 48<|C 50 .eql 47 49<|.nil) (t 50) [45]<|M 52 51<|x 58 52 true (a 53 5 2<|L 54 53<|a 55 5 3<|L 56 55<|U 57 (.callF 184) [54,56]<|.nil) (t 57) [52]<|M 59 58<|x 65 59 true (a 60 6 2<|L 61 60<|a 62 6 3<|L 63 62<|U 64 (.callF 185) [61,63]<|.nil) (t 64) [59]<|M 66 65<|x 72 66 true (A 67 10 2<|L 68 67<|A 69 10 3<|L 70 69<|U 71 (.callF 186) [68,70]<|.nil) (t 71) [2,3,66]<|M 4 72<|.nil)<|.ret,true⟩
def uF1:bK:=⟨9,[.tmp 3],R (O 2 (.box 108 5) 0<|o 3 .mov [cf] [3]<|.nil)<|R (o 4 (.fad 0) [t 2] [2,3]<|O 5 (.loadA 3) 4<|A 6 0 1<|O 7 (.loadA 3) 6<|U 8 (.eqA false [.i,.i,.i]) [5,7]<|M 3 8<|.nil)<|.ret,true⟩
def uG1:bK:=⟨19,[.tmp 4],R (O 2 (.box 104 13) 0<|o 4 .mov [cf] [4]<|.nil)<|R (o 5 .mov [t 1] [4]<|a 6 10 2<|L 7 6<|O 8 (.len 0) 7<|C 9 .geq 5 8<|M 10 9<|x 18 10 false (A 11 10 2<|L 12 11<|M 13 1<|U 14 (.iad 2) [12,13]<|O 15 (.loadA 2) 14<|U 16 (.build [ZS,(J 0)] []) []<|U 17 (.eqA false [.s,.i]) [15,16]<|.nil) (t 17) [1,2,10]<|M 4 18<|.nil)<|.ret,true⟩
def kF:PC:=.reg<|U 5 (.alloc 41 z0) []<|.sto (.store 9) [t 5,t 7] [7]<|.nil
def kG:PC:=.block 1 (.reg<|o 8 .loadS [t 2] []<|O 9 (.loadA 9) 5<|O 10 (.buildSl 41 9 1 z0 [0]) 9<|U 11 (.append 41 9 72 z0 false) [8,10]<|.sto (.store 1) [t 2,t 11] [2,11]<|.nil)
def kM1:bK:=⟨13,[.tmp 4],R (O 2 (.box 34 1) 0<|.ownc 2 0 41 9 false<|o 4 .mov [cn] [4]<|.nil)<|.seq (R (o 6 .mov [t 1] [1,4]<|.nil)<|.block 0 (.rangeF 13 [2] (t 6) [7] kF kG))<|R (L 12 2<|M 4 12<|.nil)<|.ret,true⟩
def uH1:bK:=⟨26,[.tmp 4],R (o 4 .mov [cf] [4]<|.nil)<|.seq (R (o 6 .mov [t 0] [4]<|O 7 (.len 0) 6<|m 8 1<|O 9 (.len 0) 8<|C 10 .neq 7 9<|.nil)<|.cond (t 10) (R (o 4 .mov [cf] []<|.nil)<|.ret) (.skip))<|.seq (R (m 11 0<|O 12 (.len 0) 11<|o 13 .mov [c 0] []<|.nil)<|.block 0 (.loop [0,1,12,13] [4] (R (b 14 .lss [t 13,t 12] []<|.nil)<|.seq (.cond (t 14) (.skip) (.exit 0))<|.seq (.block 1 (R (m 15 13<|M 5 15<|.nil)<|.seq (.regD 3 (m 16 0<|m 17 5<|U 18 (.iad 5) [16,17]<|O 19 (.loadA 5) 18<|m 20 1<|M 21 5<|U 22 (.iad 5) [20,21]<|O 23 (.loadA 5) 22<|U 24 (.eqA true [.i,.i,.i,.b,.i]) [19,23]<|.nil) [0,0,3,7,0,0,48,112,255])<|.cond (t 24) (R (o 4 .mov [cf] []<|.nil)<|.ret) (.skip)))<|.reg<|B 25 .add 13 1<|M 13 25<|.nil)))<|R (o 4 .mov [ct] []<|.nil)<|.ret,true⟩
def uI1:bK:=⟨26,[.tmp 4],R (o 4 .mov [cf] [4]<|.nil)<|.seq (R (o 6 .mov [t 0] [4]<|O 7 (.len 0) 6<|m 8 1<|O 9 (.len 0) 8<|C 10 .neq 7 9<|.nil)<|.cond (t 10) (R (o 4 .mov [cf] []<|.nil)<|.ret) (.skip))<|.seq (R (m 11 0<|O 12 (.len 0) 11<|o 13 .mov [c 0] []<|.nil)<|.block 0 (.loop [0,1,12,13] [4] (R (b 14 .lss [t 13,t 12] []<|.nil)<|.seq (.cond (t 14) (.skip) (.exit 0))<|.seq (.block 1 (R (m 15 13<|M 5 15<|.nil)<|.seq (.regD 3 (m 16 0<|m 17 5<|U 18 (.iad 5) [16,17]<|O 19 (.loadA 5) 18<|m 20 1<|M 21 5<|U 22 (.iad 5) [20,21]<|O 23 (.loadA 5) 22<|U 24 (.eqA true [.i,.i,.i,.i,.b]) [19,23]<|.nil) [0,0,3,7,0,0,48,112,255])<|.cond (t 24) (R (o 4 .mov [cf] []<|.nil)<|.ret) (.skip)))<|.reg<|B 25 .add 13 1<|M 13 25<|.nil)))<|R (o 4 .mov [ct] []<|.nil)<|.ret,true⟩
def uJ1:bK:=⟨26,[.tmp 4],R (o 4 .mov [cf] [4]<|.nil)<|.seq (R (o 6 .mov [t 0] [4]<|O 7 (.len 0) 6<|m 8 1<|O 9 (.len 0) 8<|C 10 .neq 7 9<|.nil)<|.cond (t 10) (R (o 4 .mov [cf] []<|.nil)<|.ret) (.skip))<|.seq (R (m 11 0<|O 12 (.len 0) 11<|o 13 .mov [c 0] []<|.nil)<|.block 0 (.loop [0,1,12,13] [4] (R (b 14 .lss [t 13,t 12] []<|.nil)<|.seq (.cond (t 14) (.skip) (.exit 0))<|.seq (.block 1 (R (m 15 13<|M 5 15<|.nil)<|.seq (.regD 3 (m 16 0<|m 17 5<|U 18 (.iad 2) [16,17]<|O 19 (.loadA 2) 18<|m 20 1<|M 21 5<|U 22 (.iad 2) [20,21]<|O 23 (.loadA 2) 22<|U 24 (.eqA true [.s,.i]) [19,23]<|.nil) [0,0,3,7,0,0,48,112,255])<|.cond (t 24) (R (o 4 .mov [cf] []<|.nil)<|.ret) (.skip)))<|.reg<|B 25 .add 13 1<|M 13 25<|.nil)))<|R (o 4 .mov [ct] []<|.nil)<|.ret,true⟩
def uK1:bK:=⟨6,[.tmp 2],R (O 1 (.box 114 2) 0<|o 2 .mov [cf] [2]<|.nil)<|R (o 3 (.loadA 2) [t 1] [1,2]<|U 4 (.build [ZS,(J 0)] []) []<|U 5 (.eqA false [.s,.i]) [3,4]<|M 2 5<|.nil)<|.ret,true⟩
def uL1:bK:=⟨50,[.tmp 2],R (O 1 (.box 61 8) 0<|o 2 .mov [cf] [2]<|.nil)<|.seq (R (o 7 (.fad 2) [t 1] [2]<|O 8 (.loadA 6) 7<|U 9 (.build z19 []) []<|U 10 (.eqA false [.i,.i,.i,.i,.i,.i]) [8,9]<|.nil)<|.cond (t 10) (R (o 2 .mov [ct] []<|.nil)<|.ret) (.skip))<|R (o 3 .mov [c 0] []<|o 4 .mov [c 0] []<|.nil)<|.seq (R (a 11 2 1<|O 12 (.loadA 6) 11<|o 13 .mov [c 0] []<|.nil)<|.block 0 (.loop [1,3,4,12,13] [1,2,3,4] (R (b 14 .lss [t 13,c 6] []<|.nil)<|.seq (.cond (t 14) (.skip) (.exit 0))<|.seq (.block 1 (R (m 15 13<|o 16 (.idxA 6 1 false) [t 12,t 13] []<|M 5 15<|M 6 16<|.nil)<|.block 2 (R (m 18 6<|B 19 .lss 18 0<|M 20 19<|x 23 20 false (m 21 6<|B 22 .gtr 21 64<|.nil) (t 22) [20]<|M 24 23<|x 32 24 false (m 25 6<|B 26 .gtr 25 0<|M 27 26<|x 31 27 true (M 28 5<|m 29 4<|C 30 .neq 28 29<|.nil) (t 30) [5,27]<|.nil) (t 31) [5,24]<|M 17 32<|.nil)<|.cond (t 17) (R (o 2 .mov [cf] []<|.nil)<|.ret) (R (m 34 6<|B 35 .gtr 34 0<|M 33 35<|.nil)<|.condJ [1,3,4,12,13] (t 33) (.reg<|M 36 3<|M 37 6<|C 38 .add 36 37<|M 39 4<|B 40 .add 39 1<|M 3 38<|M 4 40<|.nil) (.skip)))))<|.reg<|B 41 .add 13 1<|M 13 41<|.nil)))<|R (M 42 3<|A 43 0 1<|L 44 43<|C 45 .eql 42 44<|M 46 45<|x 49 46 true (M 47 4<|B 48 .geq 47 2<|.nil) (t 48) [4,46]<|M 2 49<|.nil)<|.ret,true⟩
def uL:{l:aA bK//l=[aP 4 0x111001111111db1d22101011651100101010010101bf1201100011001b18753261c1b1a1918753180011000110251111001111000111100011002118753400006a1221111106515e622112511111011101101494221125111101101110110100111035112122121 true,aP 6 0x12cb122111145111110451111104511111045111101111111110011025110011111101110101111110111010130011110111010011111010018764321719187643170000111111010185111111010011100643215187643160000111104511111045111105e1201101001110021264314001110011111101018511111101001110043214543140002122121 true,aP 7 0x111121222121 true,aP 9 0x1111111118b6e22018b18a1891887c7b620011101037a121010000592e2d1a18765411a6e6d6c592e2d1c1b1a18765411f00010116a43114685f220100010002e2d5415592e2d1a18765411a00111110102e2d1a18765411911019123f19221110011001000412e2d5415001011001959046610401925310401131232222121 true,aP 10 0x11111011111110101101030111003143130012122121 true,aP 12 0x111111111111111101114c4b4a3e3d3c1b1a1841a110104f12010003e3d3c1b1a18474c4b4a3e3d3c1b1a1841a00000110001813e3d3c1845000110131805171243a72211011111253104101011101131232222121 true,aP 15 0x16d122111145111101111110011111010011100321354314000011110451111104511110291201101001110021231202122121 true,aP 16 0x1111111111111101110101011111010043135431400011100314313002122121 true,aP 17 0x1111111b85f221b81af2210111111111101851111101f51111102e51111110786e221111011100205f5e5d342a100115b594f4d4b493f3d3b392f2d2b291f1d1b29310101010101010101010101010101010101031f871966114121222121 true,aP 19 0x11111111111117122d72211011128121010000311c1b1a340001112122121 true,aP 20 0x11111111111c1201000311918734000112122121 true,aP 21 0x11111111011110111002a12101000065431e1d1c140001100001612652254224121 true,aP 22 0x118943104111011117b2e2207b7a6e6a4c5211101100111011101110100302e2d2c1c643201911101045110103912010001c022e2d2c1c643201900011b122b1b221101101 true,aP 23 0x1112022212 true,aP 24 0x1111111101110112122121 true,aP 25 0x121222121 true,aP 26 0x1110125310401131232222121 true,aP 29 0x2be2bd2bc1df4202ac022111111175111111110751111111110185111111111018511111110011dd69221dd1dc1da1d9421110111111c91a2211114511111045111b9120100018a18918869685f650191ae1ad1ac18a18918869685f6501c0001111111045111110451118d120100069685f650618a18918869685f650190001011111045111106c12010000169685f04000111101592922059584e2d4211111104511111105511110032c12010000129281f0400011110 true,aP 31 0x1a19183211712011110 true,aP 32 0x4a492211113e2b2203e3d3b2f42111110032e12010001c1b1a042b2a291c1b1a07000111f1201000011c1b1a0400011110 true,aP 33 0x43232101 true,aP 34 0x32221 true,aP 35 0x32221 true,aP 36 0x32221 true]}:=by
 apply Subtype.mk
 conv=>rhs;reduce
def p4:bK:=zg uL.1 0
def p6:bK:=zg uL.1 1
def p7:bK:=zg uL.1 2
def p9:bK:=zg uL.1 3
def p10:bK:=zg uL.1 4
def p12:bK:=zg uL.1 5
def p15:bK:=zg uL.1 6
def p16:bK:=zg uL.1 7
def p17:bK:=zg uL.1 8
def p19:bK:=zg uL.1 9
def p20:bK:=zg uL.1 10
def p21:bK:=zg uL.1 11
def p22:bK:=zg uL.1 12
def p23:bK:=zg uL.1 13
def p24:bK:=zg uL.1 14
def p25:bK:=zg uL.1 15
def p26:bK:=zg uL.1 16
def p29:bK:=zg uL.1 17
def p31:bK:=zg uL.1 18
def p32:bK:=zg uL.1 19
def p33:bK:=zg uL.1 20
def p34:bK:=zg uL.1 21
def p35:bK:=zg uL.1 22
def p36:bK:=zg uL.1 23
def uM:{l:aA bK//l=[aP 37 0x43232101 true,aP 38 0x43232101 true,aP 39 0x4a49483211111113c2c223c3b3a39382f62010001000291e1d42062c291e1d5420180010001e1d204291e1d42060010002021e1d20400111111071200 true,aP 40 0x13d292203d3c3a2e42111110032d121010000029281f305000111101a2221922210110 true,aP 41 0x17c2b227c7b7978421110111011111001100195111100301102511111005511002b2a2965320182b2a2976543201a0002f12101000002b2a293206000111101110110 true,aP 42 0x19f19e7f7e4211111111111111010316c32278322111351110185111103511015b3c225b5a583211101114c121011003f12010003023c3b3a3050001111412412001111111e121e1d220111110 true,aP 43 0x43232101 true,aP 44 0x32221 true,aP 45 0x43232101 true,aP 47 0x110001100001110111411111000011101010110111011131232222121 true,aP 48 0x1115253104101011111111111110011111006b6a693f3e3d2f2e2d1e1d1c1b1976542a1110101011100003f3e3d2f2e2d76541a6b6a693f3e3d2f2e2d1b1976541f000001011101101b1a221b1201100104b1210100002f2e2d65463f3e3d2f2e2d76541a000113b1210100006522f2e2d6546000110528960510411101131232222121 true,aP 50 0x11a522488888888881a19184210114022412 true,aP 51 0x121222121 true,aP 52 0x111111111110110111011011010110101101011010110101101412341211 true,aP 53 0x112111111110100100002cf2ce104001111011111111211111111011101110111010000010001dc1db1bc1bb18c18b76101a2881ff1dc1db1bc1bb18c18b1876101d001111011101110111010001bc1bb18c18b61071dc1db1bc1bb18c18b76101a001111011101110100018c18b1041bc1bb18c18b6107001111011102111101110100100010218c18b10400111101111111211111111011101001000281f3105584f281f4310180011110111021111011101001000102281f310500111100 true,aP 59 0x2d2b2211111111111110030111 true,aP 60 0x17303211111551110212212 true,aP 61 0x11a203211135111612612 true,aP 62 0x2812211135111103511110351112122121 true,aP 64 0x16122111351112122121 true,aP 65 0x11111010101d1201000411a191814000142224121 true,aP 66 0x1381c220382f2d2942111010032812101000001c1b1a10500011110 true,aP 67 0x11111117a1b227f1b22111145111101a5117812010002c2b2a646d6c6b2c2b2a6700011111111110019511111110651111035111112f1201000612c2b2a6400011111115125121 true,aP 68 0x1111010112022212 true]}:=by
 apply Subtype.mk
 conv=>rhs;reduce
def p37:bK:=zg uM.1 0
def p38:bK:=zg uM.1 1
def p39:bK:=zg uM.1 2
def p40:bK:=zg uM.1 3
def p41:bK:=zg uM.1 4
def p42:bK:=zg uM.1 5
def p43:bK:=zg uM.1 6
def p44:bK:=zg uM.1 7
def p45:bK:=zg uM.1 8
def p47:bK:=zg uM.1 9
def p48:bK:=zg uM.1 10
def p50:bK:=zg uM.1 11
def p51:bK:=zg uM.1 12
def p52:bK:=zg uM.1 13
def p53:bK:=zg uM.1 14
def p59:bK:=zg uM.1 15
def p60:bK:=zg uM.1 16
def p61:bK:=zg uM.1 17
def p62:bK:=zg uM.1 18
def p64:bK:=zg uM.1 19
def p65:bK:=zg uM.1 20
def Xz:bK:=zg uM.1 21
def p67:bK:=zg uM.1 22
def p68:bK:=zg uM.1 23
def uN:{l:aA bK//l=[aP 69 0x118a6221125111111015f1b1a326a1b1a3211111110111a51101e51111101065111110451133f1210100002c2b2a76563b3a392c2b2a197651a000102f12010007622c2b2a76560001101110114124121 true,aP 71 0x11111010010101110100101011111111010001110351111035111103511101010101151254224121 true,aP 72 0x65432111 true,aP 73 0x15022112511212212 true,aP 74 0x150221113511212212 true,aP 75 0x11111117a5a2207a796f5f421110110000035e1210100004a49483a39382a292864101d5a59584a49483a39382a292818641029000114e1210100003a39382a2928410194a49483a39382a292864101d000113e1210100002a29281053a39382a292841019000112e12101000002a292810500011110 true,aP 76 0x111432241221222022 true,aP 77 0x1111111101101101103110100111110110110301100011110451110000111003001110110100111111011121232121 true,aP 78 0x1691a432111145110105c12015b12106421111114c121111111110642311103818222f1822110011111110300001151251211 true,aP 79 0x1111154221a5221101132223121 true,aP 80 0x1111010101131232222121 true,aP 81 0x11114022412 true,aP 82 0x111131223121 true,aP 83 0x11114022412 true,aP 84 0x111131223121 true,aP 85 0x14918432111145111972203e19223d1201011111113012c1201011111103001151251211 true,aP 86 0x16122111351112122121 true,aP 87 0x6d12006c1211110110011110101101049121111101010001111010100110301a1200110512512011 true,aP 88 0x3a1211111110101013121a474564745547431c12410010110512512011 true,aP 89 0x11002b62212f62211104511101a5110281201000411d1c1b3400011001141241211 true,aP 92 0x11111111116d1c22111351691b22112511111101591201111114b120101110013c12010111002e12010005422b2a295406000111100145051040192f8405131243222212 true,aP 93 0x11111111032a1201110000000011041241211 true,aP 94 0x11e322111145111110451114124121 true,aP 95 0x4c1214b12042211113f3e2201103b12003a1210100102d12002c1210110011011c1210111011512512011 true]}:=by
 apply Subtype.mk
 conv=>rhs;reduce
def p69:bK:=zg uN.1 0
def p71:bK:=zg uN.1 1
def p72:bK:=zg uN.1 2
def p73:bK:=zg uN.1 3
def p74:bK:=zg uN.1 4
def p75:bK:=zg uN.1 5
def p76:bK:=zg uN.1 6
def p77:bK:=zg uN.1 7
def p78:bK:=zg uN.1 8
def p79:bK:=zg uN.1 9
def p80:bK:=zg uN.1 10
def p81:bK:=zg uN.1 11
def p82:bK:=zg uN.1 12
def p83:bK:=zg uN.1 13
def p84:bK:=zg uN.1 14
def p85:bK:=zg uN.1 15
def p86:bK:=zg uN.1 16
def p87:bK:=zg uN.1 17
def p88:bK:=zg uN.1 18
def p89:bK:=zg uN.1 19
def p92:bK:=zg uN.1 20
def p93:bK:=zg uN.1 21
def p94:bK:=zg uN.1 22
def p95:bK:=zg uN.1 23
def uO:{l:aA bK//l=[aP 96 0x1612211111107511121232121 true,aP 97 0x15f420421111116511110111101000111110351110185111103511102a51111104511115125121 true,aP 98 0x11c21321111116511110351113123121 true,aP 99 0x11114022412 true,aP 100 0x13b322111105511130112e73311011101029287341101001110351101652261211 true,aP 101 0x1111016d1918327819183211111110111a51101e51111104511111010651134d1210100007149483f75360001011111045111110451116121e622110114124121 true,aP 102 0x119c1922111145111025118918221101155111110451111035111018692c29185f2c1f185d2c1d1822c19286a125912000101011101111111103001110105512d42211135111012912010110111512351211 true,aP 105 0x1111010101131232222121 true,aP 106 0x111121222121 true,aP 107 0x1111145310410101110111522254224121 true,aP 108 0x112022212 true,aP 109 0x18764421110 true,aP 110 0x11211101a12010000765040001 true,aP 111 0x1111110100110003221876340001212212 true,aP 112 0x1110010000100010111011412412 true,aP 121 0x11114022412 true,aP 123 0x15022112511212212 true,aP 124 0x11114022412 true,aP 125 0x1e12111001a120011025113123120 true,aP 126 0x5022112511212212 true,aP 127 0x111862321100001111c12010115125121 true,aP 128 0x11121222121 true,aP 129 0x111154225121 true,aP 130 0x11114022412 true]}:=by
 apply Subtype.mk
 conv=>rhs;reduce
def p96:bK:=zg uO.1 0
def p97:bK:=zg uO.1 1
def p98:bK:=zg uO.1 2
def p99:bK:=zg uO.1 3
def uP1:bK:=zg uO.1 4
def uQ1:bK:=zg uO.1 5
def uR1:bK:=zg uO.1 6
def uS1:bK:=zg uO.1 7
def uT1:bK:=zg uO.1 8
def uU1:bK:=zg uO.1 9
def kN1:bK:=zg uO.1 10
def kO1:bK:=zg uO.1 11
def kP1:bK:=zg uO.1 12
def uV1:bK:=zg uO.1 13
def uW1:bK:=zg uO.1 14
def kQ1:bK:=zg uO.1 15
def uX1:bK:=zg uO.1 16
def uY1:bK:=zg uO.1 17
def uZ1:bK:=zg uO.1 18
def vA1:bK:=zg uO.1 19
def vB1:bK:=zg uO.1 20
def vC1:bK:=zg uO.1 21
def vD1:bK:=zg uO.1 22
def vE1:bK:=zg uO.1 23
def uP:{l:aA bK//l=[aP 131 0x11b4324211111551111151235121 true,aP 132 0x11114022412 true,aP 133 0x111c5221b5221011142224121 true,aP 134 0x1111010110002176530002022212 true,aP 135 0x710321113511412412 true,aP 136 0x15022112511212212 true,aP 138 0x21a274562745527434a1241494822011132211103a3922010321311102c12011010101d12101111045111001 true,aP 139 0x2812211135111103511110351112122121 true,aP 140 0x1111001118124918221101111110101102e1201000212b2a29340001000111000111212212 true,aP 141 0x11003c422111351110110102d5222c5221011101f1201000211c1b1a300010011212212 true,aP 142 0x3a60321111116511011011110101111f12010002021c1b1a0400000011212212 true,aP 143 0x4c32211251101110011103511110351111035111103511110351112122121 true,aP 144 0x11111110011121232121 true,aP 145 0x11110111000100041187104001412412 true,aP 146 0x11110111000100041187104001412412 true,aP 147 0x1121222121 true,aP 148 0x1b32321111110101101c511103001141241211 true,aP 149 0x1111111111111111d18531040111111011101001d51110251111111010019511102511111005511181218121 true,aP 150 0x1d12111110 true,aP 151 0x1f12101e1b2201d182201c5220110110110301 true,aP 154 0x19d1211110111011030189120011011c1207b1c2211011111101111011a182235b1a2211011004e120111011111303d1200111035111012c12010111111512351201 true,aP 155 0x11111100011111101107511101c5111101100011111045111100011110351112122121 true,aP 156 0x13b3232483232111111175111101d511111011075111110110751111412341211 true,aP 157 0x1111422241211 true]}:=by
 apply Subtype.mk
 conv=>rhs;reduce
def vF1:bK:=zg uP.1 0
def kR1:bK:=zg uP.1 1
def vG1:bK:=zg uP.1 2
def vH1:bK:=zg uP.1 3
def vI1:bK:=zg uP.1 4
def vJ1:bK:=zg uP.1 5
def vK1:bK:=zg uP.1 6
def vL1:bK:=zg uP.1 7
def vM1:bK:=zg uP.1 8
def vN1:bK:=zg uP.1 9
def vO1:bK:=zg uP.1 10
def vP1:bK:=zg uP.1 11
def vQ1:bK:=zg uP.1 12
def vR1:bK:=zg uP.1 13
def vS1:bK:=zg uP.1 14
def vT1:bK:=zg uP.1 15
def vU1:bK:=zg uP.1 16
def vV1:bK:=zg uP.1 17
def vW1:bK:=zg uP.1 18
def vX1:bK:=zg uP.1 19
def vY1:bK:=zg uP.1 20
def vZ1:bK:=zg uP.1 21
def wA1:bK:=zg uP.1 22
def wB1:bK:=zg uP.1 23
def uQ:{l:aA bK//l=[aP 158 0x11b32321111116511110141241211 true,aP 159 0x1111422241211 true,aP 160 0x11b32321111116511110141241211 true,aP 161 0x11932321111100751110412341211 true,aP 162 0x1fe121101fc1fb2201101f9121001110111075111110105511101a51103011001be12101001bb12100118e6221111110107511101c51111012b5111003018812107c62211251111001110695f1864106a682205e1200011010311111004c12101111010651111035111001101001e121011103511512512011 true,aP 163 0x11110111000100041187104001412412 true,aP 164 0x1111141223412 true,aP 165 0x111111140224121 true,aP 166 0x11110011111101075111103511100011110351112122121 true,aP 167 0x1111121232121 true,aP 168 0x11114531041010076212d12211104511110351101110110522254224121 true,aP 169 0x1111103b3a22111110011100003011003143030016121212212 true,aP 171 0x117c6227c7b7a79786f620011062104110011001110115b125b5a59584d4c62001010001007621051876210601010010006210403b3a39382f520010110112a122a29281f1e52001001007621051876210601000 true,aP 172 0x111212212 true,aP 179 0x11110111000100041187104001412412 true,aP 180 0x11110111000100041187104001412412 true,aP 181 0x1a1210000000000 true,aP 182 0x11110111000100041187104001412412 true,aP 183 0x11110111000100041187104001412412 true,aP 187 0x111001212212 true,aP 188 0x11111111a32219322101112122121 true,aP 189 0x1100011025111025111111011312232222121 true,aP 190 0x5812211135111011003d322111105511101010002122d2c130011000111100011110351112122121 true,aP 192 0x11200 true]}:=by
 apply Subtype.mk
 conv=>rhs;reduce
def wC1:bK:=zg uQ.1 0
def wD1:bK:=zg uQ.1 1
def wE1:bK:=zg uQ.1 2
def wF1:bK:=zg uQ.1 3
def wG1:bK:=zg uQ.1 4
def wH1:bK:=zg uQ.1 5
def wI1:bK:=zg uQ.1 6
def wJ1:bK:=zg uQ.1 7
def wK1:bK:=zg uQ.1 8
def wL1:bK:=zg uQ.1 9
def wM1:bK:=zg uQ.1 10
def wN1:bK:=zg uQ.1 11
def kS1:bK:=zg uQ.1 12
def wO1:bK:=zg uQ.1 13
def kT1:bK:=zg uQ.1 14
def wP1:bK:=zg uQ.1 15
def wQ1:bK:=zg uQ.1 16
def wR1:bK:=zg uQ.1 17
def kU1:bK:=zg uQ.1 18
def wS1:bK:=zg uQ.1 19
def wT1:bK:=zg uQ.1 20
def wU1:bK:=zg uQ.1 21
def wV1:bK:=zg uQ.1 22
def wW1:bK:=zg uQ.1 23
def uR:{l:aA bK//l=[aP 196 0x12c31321111451111004511110045111002122121 true,aP 197 0x15022112511212212 true,aP 198 0x111111111101412341211 true,aP 199 0x11110001102511212212 true,aP 200 0x11b32321111116511110141241211 true,aP 201 0x11202211120222212 true,aP 202 0x1111132223121 true,aP 204 0x11121222121 true,aP 205 0x1110110111014531040111111453104101011111001111045110014531040111100145310401110251151254224121 true,aP 206 0x1111111111000311876340001212212 true,aP 207 0x11111106c6a2216b5e2211100111001000030011111100110001c51100318321051918321060100100018321050110 true,aP 208 0x3bb3ba3b93b83af3ae62111110111003511039d1239d39c39b39a3993986200110382a430511100351102ff122ff2fe2fd2fc2fb2fa6200100382c2a43107111003511001101111112e2d2c2b2a432101a10111110011100003111110001002c2b2a43210182e2d2c2b2a432101a011010101011002d2c2b2a43210191102d122d2c222c121100111110011102881fe2211ff1fa22111001110010000301000291e03011111111f1e4205101111100110003111110001001e2031f1e42050101101100111019c19a22119b18e2211100111001000030110001d1a03011111111b1a410510111100110003111110001001a1031b1a41050111101100 true,aP 211 0x1710321113511412412 true,aP 213 0x111111111111120211011111120211001112021100 true,aP 214 0x171221111116511112122121 true,aP 215 0x11012531040117a1a22791a2210111111125310410101110110101110110125310403c422111104511118511111125310410101102b12101000032131f1e1d14000131232222121 true,aP 216 0x79786f6e6d6a6211110011105e1b225e5d5c5b4e4b62001010010001103f1a223f3e3d3c3b386200010001b1a4205110001001a42041b1a4205011011110 true,aP 217 0x11112f2d222e2a29322e28220111101f121010000311b1a1934000117121212212 true,aP 218 0x11111111111453104101011101111011100007543382f2e7050001111011453104101011105125422412 true,aP 219 0x111111111014531040111110110101000185433a3918105001011101145310410102962228622101105125422412 true,aP 220 0x11104d4b2214c3d221111000111000100010003010001a3210500 true,aP 221 0x111011110101110351101131232222121 true,aP 222 0x1100111000018e7221101111018511030011101055111110451111104511111001075111103511101045111039121010000412d2c2b6106000011144cb056610400110001102511412412 true,aP 223 0x1111110001101001110111100011025117127622612 true]}:=by
 apply Subtype.mk
 conv=>rhs;reduce
def wX1:bK:=zg uR.1 0
def wY1:bK:=zg uR.1 1
def wZ1:bK:=zg uR.1 2
def xA1:bK:=zg uR.1 3
def xB1:bK:=zg uR.1 4
def xC1:bK:=zg uR.1 5
def xD1:bK:=zg uR.1 6
def xE1:bK:=zg uR.1 7
def xF1:bK:=zg uR.1 8
def xG1:bK:=zg uR.1 9
def kV1:bK:=zg uR.1 10
def gL1:bK:=zg uR.1 11
def xH1:bK:=zg uR.1 12
def xI1:bK:=zg uR.1 13
def xJ1:bK:=zg uR.1 14
def xK1:bK:=zg uR.1 15
def kW1:bK:=zg uR.1 16
def xL1:bK:=zg uR.1 17
def xM1:bK:=zg uR.1 18
def xN1:bK:=zg uR.1 19
def kX1:bK:=zg uR.1 20
def xO1:bK:=zg uR.1 21
def xP1:bK:=zg uR.1 22
def xQ1:bK:=zg uR.1 23
def Vq:{l:aA bK//l=[aP 224 0x111011001111010030107621d1918300111111100011011101111000110030110019187641a1918210601100291201107127622612 true,aP 225 0x1111010101131232222121 true,aP 226 0x111100003d422484221111110101951101d5110311038121110000111011111001a51110321221203121 true,aP 227 0x111112122121 true,aP 228 0x15022112511212212 true,aP 229 0x11111011010000111110110141241211 true,aP 230 0x111111011111101311000111111110131b1a19541611001e12010005421b1a195416000105125422412 true,aP 231 0x1111110111100411c1b43400111011112122121 true,aP 232 0x119213211111017511104124121 true,aP 233 0x1101111103010011020412 true]}:=by
 apply Subtype.mk
 conv=>rhs;reduce
def xR1:bK:=zg Vq.1 0
def xS1:bK:=zg Vq.1 1
def kY1:bK:=zg Vq.1 2
def xT1:bK:=zg Vq.1 3
def xU1:bK:=zg Vq.1 4
def xV1:bK:=zg Vq.1 5
def xW1:bK:=zg Vq.1 6
def xX1:bK:=zg Vq.1 7
def xY1:bK:=zg Vq.1 8
def xZ1:bK:=zg Vq.1 9
end
noncomputable section
def pl:aA (aB bK):=[none,none,none,none,some p4,none,some p6,some p7,none,some p9,some p10,some p11,some p12,none,none,some p15,some p16,some p17,none,some p19,some p20,some p21,some p22,some p23,some p24,some p25,some p26,none,none,some p29,some p30,some p31,some p32,some p33,some p34,some p35,some p36,some p37,some p38,some p39,some p40,some p41,some p42,some p43,some p44,some p45,none,some p47,some p48,some p49,some p50,some p51,some p52,some p53,none,none,none,none,none,some p59,some p60,some p61,some p62,some p63,some p64,some p65,some Xz,some p67,some p68,some p69,some p70,some p71,some p72,some p73,some p74,some p75,some p76,some p77,some p78,some p79,some p80,some p81,some p82,some p83,some p84,some p85,some p86,some p87,some p88,some p89,some p90,some p91,some p92,some p93,some p94,some p95,some p96,some p97,some p98,some p99,some uP1,some uQ1,some uR1,none,none,some uS1,some uT1,some uU1,some kN1,some kO1,some kP1,some uV1,some uW1,none,none,none,none,none,none,none,none,some kQ1,none,some uX1,some uY1,some uZ1,some vA1,some vB1,some vC1,some vD1,some vE1,some vF1,some kR1,some vG1,some vH1,some vI1,some vJ1,some uE1,some vK1,some vL1,some vM1,some vN1,some vO1,some vP1,some vQ1,some vR1,some vS1,some vT1,some vU1,some vV1,some vW1,some vX1,some uF1,some uG1,some vY1,some vZ1,some wA1,some wB1,some wC1,some wD1,some wE1,some wF1,some wG1,some wH1,some wI1,some wJ1,some wK1,some wL1,some wM1,some wN1,some kM1,some kS1,some wO1,none,none,none,none,none,none,some kT1,some wP1,some wQ1,some wR1,some kU1,some uH1,some uI1,some uJ1,some wS1,some wT1,some wU1,some wV1,some uK1,some wW1,none,none,none,some wX1,some wY1,some wZ1,some xA1,some xB1,some xC1,some xD1,some uL1,some xE1,some xF1,some xG1,some kV1,some gL1,none,none,some xH1,none,some xI1,some xJ1,some xK1,some kW1,some xL1,some xM1,some xN1,some kX1,some xO1,some xP1,some xQ1,some xR1,some xS1,some kY1,some xT1,some xU1,some xV1,some xW1,some xX1,some xY1,some xZ1]
def Dg:pH:=fun f=>bif Nat.beq f 208 then none else(pl[f]?).join
def iD (f:Nat):Bool:=yC f [22,23,25,29,30,31,32,33,34,35,36,37,38,39,40,41,42,43,44,45,49,50,51,53,59,66,72,75,90,92,108,109,110,170,171,207,208,216,220,226]
def NW1 (f:Nat):Bool:=yC f [23,25,50,51,92,108,170]
def clN:Nat->aB (Nat×Nat):=fun f=>none
structure Rc where
 G:Int->Int->Int->List aG->Option (List aG)
def RD [Inhabited Rc]:Rc:=default
abbrev RA:=Int×Int×Int×(aA aG)
def rxs (q:RA):aA PV:=[.own 5,i64 q.1,i64 q.2.1,i64 q.2.2.1,.fn 52 [] []]
def rhp (q:RA):aN:=[(5,.lst 4294967337 9 false (List.map aG.g q.2.2.2))]
def rhr (q:RA) (a:aA aG):aN:=[(5,.lst 4294967337 9 false (List.map aG.g a))]
theorem yA1 (a b:RA) (h1:rxs a=rxs b) (h2:rhp a=rhp b):a=b:=by
 obtain⟨d,a1,a2,a3⟩:=a;obtain⟨e,b1,b2,b3⟩:=b;simp only[rxs,i64,mW2,PV.v.injEq,Value.int.injEq,true_and,and_true]at h1;simp only[rhp,mW2,kF2,fG.lst.injEq,true_and,and_true]at h2
 have c:=(List.map_inj_right (fun x y h=>by
  obtain⟨_,_,_,_,_,_,⟨_,_⟩,_⟩:=x;obtain⟨_,_,_,_,_,_,⟨_,_⟩,_⟩:=y;simp[aG.g,i64]at h;simp[h])).1 h2
 simp[h1,c]
def tY [Inhabited Rc]:NB:=⟨NW1,Li (nI clN) (sL 208 6 rxs rhp rhr fun q=>RD.G q.1 q.2.1 q.2.2.1 q.2.2.2)⟩
def Tl (f e:Nat):Bool:=yC f [193,194,195]&&Nat.beq e (match f with|193=>5|194=>5|195=>2|_=>0)
def yB1 (n:Int) (c:Bool):YE:=⟨⟨0,n⟩,if c then 1 else 3,⟨0,0⟩,if c then[⟨⟨0,0,4⟩,false,0⟩]else[],[],0,0,0,[],0,0⟩
def Tm (n:Int) (c:Bool):YM:=⟨⟨0,n⟩,⟨4,4,⟨0,0,0,0,0,0⟩⟩,0,0,false,0,0,0,0,0,0,⟨#[]⟩,[],[⟨[],[⟨[yB1 (n+1) c],[]⟩]⟩]⟩
def Tn:Y0:=⟨⟨#[]⟩,false,[⟨⟨0,1⟩,⟨#[]⟩,⟨0,0⟩,[⟨⟨0,2⟩,1⟩]⟩],[Tm 3 true,Tm 5 false,Tm 7 false,Tm 9 false,Tm 11 true],[],[⟨0,12⟩]⟩
def pJ {A:Type} (l:aA A):aB (aA A):=bif Nat.ble l.length 1073741824 then some l else none
def Pt (k:Bool):qN:=fun f xs=>match xs with
 |[.is e rows]=>bif Tl f e&&Nat.ble rows.length 1073741824 then some (.is e rows)else none
 |[]=>bif k&&Nat.beq f 5 then some (bv true)else none
 |_=>none
theorem Tp [Inhabited Rc] {k:Bool} {d N:Nat} {ps:aA Nat} {a b:PC} (h:okL iD N ps a b=true):okG (Xd (Pt k) iD tY Dg d).is N ps a b=some ():=by
 unfold okG;rw[show(Xd (Pt k) iD tY Dg d).is=iD from Ga d,jX2 h]
noncomputable abbrev OD [Inhabited Rc] (k:Bool) (d:Nat):qN:=Od (Pt k) iD tY Dg d
noncomputable abbrev XD [Inhabited Rc] (k:Bool) (d:Nat):NX:=Xd (Pt k) iD tY Dg d
theorem od [Inhabited Rc] {k:Bool} {f:Nat} {fn:bK} (a:iD f=false) (h:Dg f=some fn) (b:fn.frz=true) {d:Nat} {xs:aA PV}:OD k (d+1) f xs=xE (OD k d) (XD k d) fn xs some:=kE1 a h b d xs
theorem oe [Inhabited Rc] {k:Bool} {f:Nat} {fn:bK} {d:Nat} {xs:aA PV} {A:Type} {F:aB A} {e:A->PV} (h:(iD f,Dg f,fn.frz)=(false,some fn,true)) (hb:xE (OD k d) (XD k d) fn xs some=F.map e):OD k (d+1) f xs=F.map e:=by
 simp only[kF2]at h;rw[od h.1 h.2.1 h.2.2];exact hb
theorem xd [Inhabited Rc] {k:Bool} {f:Nat} {fn:bK} (h:Dg f=some fn) {d:Nat} {xs:aA PV} {hs:aN} {m:Nat} {nw:Bool}:dC (XD k (d+1)) f xs hs m nw=Iu (OD k d) (XD k d) fn xs hs m (yD hs nw m):=kF1 h d xs hs m _
theorem yd [Inhabited Rc] {a:Bool} {k d:Nat} {xs:aA PV} {hs:aN} {m:Nat}:tW (XD a (d+1)) k xs hs m=Xm (OD a d) (XD a d) k xs hs m (yD hs false m):=rfl
theorem pK [Inhabited Rc] {k:Bool} (f d:Nat) {A:Type} (e:Nat) (c:A->aA PV) (l:aA A) (h1:iD f=false) (h2:Dg f=none) (a:Tl f e=true):OD k d f [.is e (l.map c)]=(pJ l).map fun l=>.is e (l.map c):=by
 rw[OD,Lh h1 h2];unfold pJ;simp only[Pt,a,Bool.true_and,mQ2];cases Nat.ble l.length 1073741824<;>rfl
theorem Tq [Inhabited Rc] (d:Nat):OD true d 5 []=(some true).map fun y=>bv y:=by
 rw[OD,Lh rfl rfl];rfl
theorem lG:okL iD 22 [13,14] bM bN=true:=by kernel_rfl
theorem nJ:okL iD 16 [7,8] dA dB=true:=by kernel_rfl
theorem Nz:okL iD 13 [7] kF kG=true:=by kernel_rfl
end
end Go.P
namespace Go.P
open Go.Sim (Ex dQ CK)
open K (I Q rq nq xq ck)
def Ts (a:Int):aB Bool:=
 some ((decide (a<32))||(a==127))
theorem lC1 [Inhabited Rc] {k} (d) (a:Int):OD k (d+1) 123 [.v (.int .u8 a)]=(Ts a).map bv:=by
 refine oe rfl ?_;refine bz (eU rfl) ?_;rfl
def Ya (b:aA UInt8):aB Int:=
 (aR (E:=Int⊕Unit) (fun(a:Int)=>if decide (a<(b.length:Int))then(aT b a).bind fun c=>(Ts (c.toNat:Int)).bind fun d=>if d then some (.inr (.inl a))else some (.inl (aU (a+1)))else some (.inr (.inr ()))) aY 0).bind fun e=>(match e with|.inl x7=>some x7|.inr _=>some (-1))
theorem lD1 [Inhabited Rc] {k} (d) (a:aA UInt8):OD k (d+2) 180 [.is 1 (I Tc a),.fn 123 [] []]=(Ya a).map i64:=by
 refine oe rfl ?_;refine bz lm ?_;refine bo (aJ (S:=Int) (enc:=fun b=>(Q [(0,.is 1 (I Tc a)),(1,.fn 123 [] []),(7,i64 (a.length:Int)),(8,i64 b)] [])) (encE:=(fun|.inl c=>(rq [(4,i64 c)] [])|.inr _=>(xq 0 [] []))) (fun b=>?_) aY 0) fun f=>?_;refine io ?_ rfl;refine bo rg fun e=>?_;refine bo (lC1 d (e.toNat:Int)) fun g=>?_;refine io rfl rfl;rcases f with c|_;rfl;rfl
def Oa (a:aA UInt8):aB Bool:=
 (Ya a).bind fun b=>some (decide (b>=0))
theorem lE1 [Inhabited Rc] {k} (d) (a:aA UInt8):OD k (d+3) 124 [.is 1 (I Tc a),.fn 123 [] []]=(Oa a).map bv:=by
 refine oe rfl ?_;refine bo (lD1 d a) fun b=>?_;rfl
def F60 (a:ByteArray):aB Bool:=
 ((if decide ((a.size:Int)<=256)then(Oa a.data.toList).bind fun b=>some (!b)else some false:aB (Bool))).bind fun c=>some c
theorem gM1 [Inhabited Rc] {k} (d) (a:ByteArray):OD k (d+4) 60 [.v (.string a)]=(F60 a).map bv:=by
 refine oe rfl ?_;refine bo (e:=id) ?_ fun c=>?_;refine io ?_ rfl;refine bo (lE1 d a.data.toList) fun b=>?_;rfl;rfl
def yJ (a b c:Int):aB Bool:=
 some ((decide (a>=b))&&(decide (a<=c)))
theorem nK [Inhabited Rc] {k} (d) (a b c:Int):OD k (d+1) 61 [i64 a,i64 b,i64 c]=(yJ a b c).map bv:=by
 refine oe rfl ?_;refine bz (eN rfl) ?_;rfl
def F62 (a:YL):aB Int:=
 if(((decide (a.Steps<(-77)))||(decide (a.Steps>77)))||(decide (a.Semitones<(-140))))||(decide (a.Semitones>140))then some 2 else some 0
theorem yC1 [Inhabited Rc] {k} (d) (a:YL):OD k (d+1) 62 [.agg (YL.g a)]=(F62 a).map i64:=by
 refine oe rfl ?_;refine bz (eU rfl) ?_;refine bz (eU rfl) ?_;refine bz (eU rfl) ?_;refine io rfl rfl
def hY (b:Bool) (c:YZ) (a:aA YV) (g:Y0) (d:Int):aB (aA YV):=
 ((if b then(jR false a [(YV.mk d c)]).bind fun e=>some e else some a:aB (aA YV))).bind fun f=>some f
theorem fS [Inhabited Rc] {k} (d) (h:Bool) (b:YZ) (f:aA YV) (c:Y0) (a:Int):dC (XD k (d+1)) 59 [.ref 1 0,bv h,.agg (YZ.g b)] [(2,.lst 120 3 false (I YV.g f)),(1,.box (ck c a (.own 2)))] 3 false=(hY h b f c a).map (fun(j:aA YV)=>((.tup [],[(2,.lst 120 3 false (I YV.g j)),(1,.box (ck c a (.own 2)))],0))):=by
 rw[xd (fn:=p59) rfl];refine bo (e:=(fun(i:aA YV)=>(nq [] [(3,.box (YZ.g b)),(2,.lst 120 3 false (I YV.g i)),(1,.box (ck c a (.own 2)))]))) ?_ fun i=>?_;refine io ?_ rfl;refine bo (cC false YV.g f [(YV.mk a b)]) fun l=>?_;rfl;rfl
def Oc (H:aA YV) (a:Y0) (u:Int):aB (aA YV):=
 (aR (E:=aA YV) (fun(⟨e,i⟩:Int×(aA YV))=>if decide (e<(a.Parts.length:Int))then(aT a.Parts e).bind fun c=>(F60 c.Name).bind fun n=>((if !n then some true else(yJ (c.Staves.length:Int) 1 4).bind fun o=>some (!o):aB (Bool))).bind fun p=>((if p then some true else(F62 c.Transpose).bind fun q=>some (q !=0):aB (Bool))).bind fun r=>(hY r c.ID i a u).bind fun s=>some (.inl ((aU (e+1)),s))else some (.inr i)) aY (0,H)).bind fun t=>(aR (E:=aA YV) (fun(⟨f,j⟩:Int×(aA YV))=>if decide (f<(a.Measures.length:Int))then(aT a.Measures f).bind fun b=>(F60 b.Rehearsal).bind fun v=>(aR (E:=Bool) (fun(⟨k,g⟩:Bool×Int)=>if decide (g<(b.Cells.length:Int))then(aT b.Cells g).bind fun d=>(aR (E:=Bool) (fun(⟨l,h⟩:Bool×Int)=>if decide (h<(d.Voices.length:Int))then(aT d.Voices h).bind fun m=>some (.inl (((l||(decide ((m.Events.length:Int)>128)))||(decide ((m.Tuplets.length:Int)>16))),(aU (h+1))))else some (.inr l)) aY (((k||(decide ((d.Clefs.length:Int)>64)))||(decide ((d.Voices.length:Int)>2))),0)).bind fun w=>some (.inl (w,(aU (g+1))))else some (.inr k)) aY (((!v)||(decide ((b.Tempi.length:Int)>64))),0)).bind fun x=>(hY x b.ID j a u).bind fun y=>some (.inl ((aU (f+1)),y))else some (.inr j)) aY (0,t)).bind fun z=>(F60 a.Title).bind fun A=>((if !A then some true else(yJ (a.Parts.length:Int) 1 32).bind fun B=>some (!B):aB (Bool))).bind fun C=>((if C then some true else(yJ (a.Measures.length:Int) 1 1024).bind fun D=>some (!D):aB (Bool))).bind fun F=>(hY ((F||(decide ((a.Spanners.length:Int)>4096)))||(decide ((a.Last.length:Int)>100))) (YZ.mk 0 0) z a u).bind fun G=>some G
theorem lF1 [Inhabited Rc] {k} (d) (v:aA YV) (a:Y0) (f:Int):dC (XD k (d+5)) 29 [.ref 1 0] [(2,.lst 120 3 false (I YV.g v)),(1,.box (ck a f (.own 2)))] 3 false=(Oc v a f).map (fun(z:aA YV)=>((.tup [],[(2,.lst 120 3 false (I YV.g z)),(1,.box (ck a f (.own 2)))],0))):=by
 rw[xd (fn:=p29) rfl];refine bz lm ?_;refine bo (aJ (S:=Int×(aA YV)) (enc:=fun⟨r,m⟩=>(Q [(0,.ref 1 0),(15,.is 6 (I YJ.g a.Parts)),(16,i64 (a.Parts.length:Int)),(17,i64 r)] [(2,.lst 120 3 false (I YV.g m)),(1,.box (ck a f (.own 2)))])) (encE:=(fun(n:aA YV)=>(xq 0 [(0,.ref 1 0)] [(2,.lst 120 3 false (I YV.g n)),(1,.box (ck a f (.own 2)))]))) (fun⟨r,m⟩=>?_) aY (0,v)) fun n=>?_;refine io ?_ rfl;refine bo rg fun j=>?_;refine bo (gM1 d j.Name) fun A=>?_;refine bo (e:=id) ?_ fun C=>?_;refine io rfl ?_;refine bz lm ?_;refine bo (nK (d+3) (j.Staves.length:Int) 1 4) fun B=>?_;rfl;refine bo (e:=id) ?_ fun w=>?_;refine io rfl ?_;refine bo (yC1 (d+3) j.Transpose) fun D=>?_;rfl;refine bo (fS (d+3) w j.ID m a f) fun E=>?_;rfl;refine bz lm ?_;refine bo (aJ (S:=Int×(aA YV)) (enc:=fun⟨h,c⟩=>(Q [(0,.ref 1 0),(47,.is 22 (I YM.g a.Measures)),(48,i64 (a.Measures.length:Int)),(49,i64 h)] [(2,.lst 120 3 false (I YV.g c)),(1,.box (ck a f (.own 2)))])) (encE:=(fun(q:aA YV)=>(xq 2 [(0,.ref 1 0)] [(2,.lst 120 3 false (I YV.g q)),(1,.box (ck a f (.own 2)))]))) (fun⟨h,c⟩=>?_) aY (0,n)) fun q=>?_;refine io ?_ rfl;refine bo rg fun b=>?_;refine bo (gM1 d b.Rehearsal) fun x=>?_;refine bz (eU (bz lm rfl)) ?_;refine bz lm ?_;refine bo (aJ (S:=Bool×Int) (enc:=fun⟨o,l⟩=>(Q [(0,.ref 1 0),(5,.ref 3 0),(6,bv o),(47,.is 22 (I YM.g a.Measures)),(48,i64 (a.Measures.length:Int)),(49,i64 h),(64,.is 2 (I YW.g b.Cells)),(65,i64 (b.Cells.length:Int)),(66,i64 l)] [(3,.box (YM.g b)),(2,.lst 120 3 false (I YV.g c)),(1,.box (ck a f (.own 2)))])) (encE:=(fun(p:Bool)=>(xq 4 [(0,.ref 1 0),(5,.ref 3 0),(6,bv p),(47,.is 22 (I YM.g a.Measures)),(48,i64 (a.Measures.length:Int)),(49,i64 h)] [(3,.box (YM.g b)),(2,.lst 120 3 false (I YV.g c)),(1,.box (ck a f (.own 2)))]))) (fun⟨o,l⟩=>?_) aY (((!x)||(decide ((b.Tempi.length:Int)>64))),0)) fun p=>?_;refine io ?_ rfl;refine bo rg fun i=>?_;refine bz (eU (bz lm rfl)) ?_;refine bz (eU (bz lm rfl)) ?_;refine bz lm ?_;refine bo (aJ (S:=Bool×Int) (enc:=fun⟨s,t⟩=>(Q [(0,.ref 1 0),(5,.ref 3 0),(6,bv s),(47,.is 22 (I YM.g a.Measures)),(48,i64 (a.Measures.length:Int)),(49,i64 h),(64,.is 2 (I YW.g b.Cells)),(65,i64 (b.Cells.length:Int)),(66,i64 l),(84,.is 2 (I YO.g i.Voices)),(85,i64 (i.Voices.length:Int)),(86,i64 t)] [(4,.box (YW.g i)),(3,.box (YM.g b)),(2,.lst 120 3 false (I YV.g c)),(1,.box (ck a f (.own 2)))])) (encE:=(fun(u:Bool)=>(xq 6 [(0,.ref 1 0),(5,.ref 3 0),(6,bv u),(47,.is 22 (I YM.g a.Measures)),(48,i64 (a.Measures.length:Int)),(49,i64 h),(64,.is 2 (I YW.g b.Cells)),(65,i64 (b.Cells.length:Int)),(66,i64 l)] [(4,.box (YW.g i)),(3,.box (YM.g b)),(2,.lst 120 3 false (I YV.g c)),(1,.box (ck a f (.own 2)))]))) (fun⟨s,t⟩=>?_) aY (((o||(decide ((i.Clefs.length:Int)>64)))||(decide ((i.Voices.length:Int)>2))),0)) fun u=>?_;refine io ?_ rfl;refine bo rg fun F=>?_;refine bz (eU (bz lm rfl)) ?_;refine bz (eU (bz lm rfl)) ?_;rfl;rfl;refine bo (fS (d+3) p b.ID c a f) fun G=>?_;rfl;refine bo (gM1 d a.Title) fun H=>?_;refine bo (e:=id) ?_ fun K=>?_;refine io rfl ?_;refine bz lm ?_;refine bo (nK (d+3) (a.Parts.length:Int) 1 32) fun J=>?_;rfl;refine bo (e:=id) ?_ fun y=>?_;refine io rfl ?_;refine bz lm ?_;refine bo (nK (d+3) (a.Measures.length:Int) 1 1024) fun L=>?_;rfl;refine bz (eU (bz lm rfl)) ?_;refine bz (eU (bz lm rfl)) ?_;refine bo (fS (d+3) ((y||(decide ((a.Spanners.length:Int)>4096)))||(decide ((a.Last.length:Int)>100))) (YZ.mk 0 0) q a f) fun M=>?_;rfl
def Yb (a:Y0):aB Unit:=
 some ()
theorem lG1 [Inhabited Rc] {k} (d) (a:Y0):dC (XD k (d+1)) 25 [.ref 0 0] [(0,.box (Y0.g a))] 3 true=(Yb a).map (fun(_:Unit)=>((.fn 53 [] [.ref 3 0],[(3,.box [.ref 0 0]),(0,.box (Y0.g a))],4))):=by
 rw[xd (fn:=p25) rfl];rfl
def Bs (d e:Int) (f g:Int) (h i j:Int) (b:YJ) (c:aA YZ):aB (aA YZ):=
 (jR false c [b.ID]).bind fun a=>some a
theorem Yc [Inhabited Rc] {k} (d) (e f:Int) (h i:Int) (j l m:Int) (b:YJ) (c:aA YZ):tW (XD k (d+1)) 4 [.agg [i64 e,i64 f,i64 h,i64 i,i64 j,i64 l,i64 m],.ip (YJ.g b)] [(4,.loop 16 [(3,.ref 1 0)] [7,8] dA dB false none),(2,.lst 39 2 false (I YZ.g c)),(1,.box [.own 2])] 5=(Bs e f h i j l m b c).map (fun(a:aA YZ)=>((bv true,[(4,.loop 16 [(3,.ref 1 0)] [7,8] dA dB false none),(2,.lst 39 2 false (I YZ.g a)),(1,.box [.own 2])],0))):=by
 rw[yd];refine bz (Tp nJ) ?_;refine bo (cC false YZ.g c [b.ID]) fun n=>?_;rfl
def rC (d e:Int) (f g:Int) (h i j:Int) (b:YF) (c:aA YZ):aB (aA YZ):=
 (jR false c [b.ID]).bind fun a=>some a
theorem Oe [Inhabited Rc] {k} (d) (e f:Int) (h i:Int) (j l m:Int) (b:YF) (c:aA YZ):tW (XD k (d+1)) 4 [.agg [i64 e,i64 f,i64 h,i64 i,i64 j,i64 l,i64 m],.ip (YF.g b)] [(4,.loop 16 [(3,.ref 1 0)] [7,8] dA dB false none),(2,.lst 39 2 false (I YZ.g c)),(1,.box [.own 2])] 5=(rC e f h i j l m b c).map (fun(a:aA YZ)=>((bv true,[(4,.loop 16 [(3,.ref 1 0)] [7,8] dA dB false none),(2,.lst 39 2 false (I YZ.g a)),(1,.box [.own 2])],0))):=by
 rw[yd];refine bz (Tp nJ) ?_;refine bo (cC false YZ.g c [b.ID]) fun n=>?_;rfl
def rD (d e:Int) (f g:Int) (h i j:Int) (b:YM) (c:aA YZ):aB (aA YZ):=
 (jR false c [b.ID]).bind fun a=>some a
theorem Of [Inhabited Rc] {k} (d) (e f:Int) (h i:Int) (j l m:Int) (b:YM) (c:aA YZ):tW (XD k (d+1)) 4 [.agg [i64 e,i64 f,i64 h,i64 i,i64 j,i64 l,i64 m],.ip (YM.g b)] [(4,.loop 16 [(3,.ref 1 0)] [7,8] dA dB false none),(2,.lst 39 2 false (I YZ.g c)),(1,.box [.own 2])] 5=(rD e f h i j l m b c).map (fun(a:aA YZ)=>((bv true,[(4,.loop 16 [(3,.ref 1 0)] [7,8] dA dB false none),(2,.lst 39 2 false (I YZ.g a)),(1,.box [.own 2])],0))):=by
 rw[yd];refine bz (Tp nJ) ?_;refine bo (cC false YZ.g c [b.ID]) fun n=>?_;rfl
def rE (d e:Int) (f g:Int) (h i j:Int) (b:YE) (c:aA YZ):aB (aA YZ):=
 (jR false c [b.ID]).bind fun a=>some a
theorem Og [Inhabited Rc] {k} (d) (e f:Int) (h i:Int) (j l m:Int) (b:YE) (c:aA YZ):tW (XD k (d+1)) 4 [.agg [i64 e,i64 f,i64 h,i64 i,i64 j,i64 l,i64 m],.ip (YE.g b)] [(4,.loop 16 [(3,.ref 1 0)] [7,8] dA dB false none),(2,.lst 39 2 false (I YZ.g c)),(1,.box [.own 2])] 5=(rE e f h i j l m b c).map (fun(a:aA YZ)=>((bv true,[(4,.loop 16 [(3,.ref 1 0)] [7,8] dA dB false none),(2,.lst 39 2 false (I YZ.g a)),(1,.box [.own 2])],0))):=by
 rw[yd];refine bz (Tp nJ) ?_;refine bo (cC false YZ.g c [b.ID]) fun n=>?_;rfl
def rF (d e:Int) (f g:Int) (h i j:Int) (b:YN) (c:aA YZ):aB (aA YZ):=
 (jR false c [b.ID]).bind fun a=>some a
theorem Oh [Inhabited Rc] {k} (d) (e f:Int) (h i:Int) (j l m:Int) (b:YN) (c:aA YZ):tW (XD k (d+1)) 4 [.agg [i64 e,i64 f,i64 h,i64 i,i64 j,i64 l,i64 m],.ip (YN.g b)] [(4,.loop 16 [(3,.ref 1 0)] [7,8] dA dB false none),(2,.lst 39 2 false (I YZ.g c)),(1,.box [.own 2])] 5=(rF e f h i j l m b c).map (fun(a:aA YZ)=>((bv true,[(4,.loop 16 [(3,.ref 1 0)] [7,8] dA dB false none),(2,.lst 39 2 false (I YZ.g a)),(1,.box [.own 2])],0))):=by
 rw[yd];refine bz (Tp nJ) ?_;refine bo (cC false YZ.g c [b.ID]) fun n=>?_;rfl
def Yd (g:Y0) (X:aA YZ):aB (aA YZ):=
 (aR (E:=aA YZ) (fun(⟨M,f,x⟩:Int×Int×(aA YZ))=>if decide (f<(g.Parts.length:Int))then(aT g.Parts f).bind fun N=>(Bs 1 f 0 0 0 0 0 N x).bind fun O=>(aT g.Parts f).bind fun P=>(aR (E:=Int×(aA YZ)) (fun(⟨m,n,L⟩:Int×Int×(aA YZ))=>if decide (n<(P.Staves.length:Int))then(aT g.Parts f).bind fun R=>(aT R.Staves n).bind fun S=>(rC 2 0 m 0 0 0 0 S L).bind fun T=>some (.inl ((aU (m+1)),(aU (n+1)),T))else some (.inr (m,L))) aY (M,0,O)).bind fun⟨U,V⟩=>some (.inl (U,(aU (f+1)),V))else some (.inr x)) aY (0,0,X)).bind fun W=>(aR (E:=aA YZ) (fun(⟨a,h⟩:Int×(aA YZ))=>if decide (a<(g.Measures.length:Int))then(aT g.Measures a).bind fun o=>(rD 3 0 0 a 0 0 0 o h).bind fun p=>(aT g.Measures a).bind fun q=>(aR (E:=aA YZ) (fun(⟨b,i⟩:Int×(aA YZ))=>if decide (b<(q.Cells.length:Int))then(aT g.Measures a).bind fun r=>(aT r.Cells b).bind fun s=>(aR (E:=aA YZ) (fun(⟨c,j⟩:Int×(aA YZ))=>if decide (c<(s.Voices.length:Int))then(aT g.Measures a).bind fun t=>(aT t.Cells b).bind fun u=>(aT u.Voices c).bind fun v=>(aR (E:=aA YZ) (fun(⟨d,k⟩:Int×(aA YZ))=>if decide (d<(v.Events.length:Int))then(aT g.Measures a).bind fun w=>(aT w.Cells b).bind fun y=>(aT y.Voices c).bind fun z=>(aT z.Events d).bind fun A=>(rE 4 0 b a c d 0 A k).bind fun B=>some (.inl ((aU (d+1)),B))else some (.inr k)) aY (0,j)).bind fun C=>some (.inl ((aU (c+1)),C))else some (.inr j)) aY (0,i)).bind fun D=>some (.inl ((aU (b+1)),D))else some (.inr i)) aY (0,p)).bind fun F=>some (.inl ((aU (a+1)),F))else some (.inr h)) aY (0,W)).bind fun G=>(aR (E:=aA YZ) (fun(⟨e,l⟩:Int×(aA YZ))=>if decide (e<(g.Spanners.length:Int))then(aT g.Spanners e).bind fun H=>(rF 5 0 0 0 0 0 e H l).bind fun J=>some (.inl ((aU (e+1)),J))else some (.inr l)) aY (0,G)).bind fun K=>some K
theorem lH1 [Inhabited Rc] {k} (d) (c:Y0) (L:aA YZ):dC (XD k (d+2)) 53 [.yld 4,.ref 3 0] [(4,.loop 16 [(3,.ref 1 0)] [7,8] dA dB false none),(3,.box [.ref 0 0]),(0,.box (Y0.g c)),(2,.lst 39 2 false (I YZ.g L)),(1,.box [.own 2])] 5 false=(Yd c L).map (fun(G:aA YZ)=>((.tup [],[(4,.loop 16 [(3,.ref 1 0)] [7,8] dA dB false none),(3,.box [.ref 0 0]),(0,.box (Y0.g c)),(2,.lst 39 2 false (I YZ.g G)),(1,.box [.own 2])],0))):=by
 rw[xd (fn:=p53) rfl];refine bz lm ?_;refine bo (aJ (S:=Int×Int×(aA YZ)) (enc:=fun⟨w,h,x⟩=>(Q [(0,.yld 4),(1,.ref 3 0),(3,i64 w),(15,i64 (c.Parts.length:Int)),(16,i64 h)] [(4,.loop 16 [(3,.ref 1 0)] [7,8] dA dB false none),(3,.box [.ref 0 0]),(0,.box (Y0.g c)),(2,.lst 39 2 false (I YZ.g x)),(1,.box [.own 2])])) (encE:=(fun(A:aA YZ)=>(xq 0 [(0,.yld 4),(1,.ref 3 0)] [(4,.loop 16 [(3,.ref 1 0)] [7,8] dA dB false none),(3,.box [.ref 0 0]),(0,.box (Y0.g c)),(2,.lst 39 2 false (I YZ.g A)),(1,.box [.own 2])]))) (fun⟨w,h,x⟩=>?_) aY (0,0,L)) fun A=>?_;refine io ?_ rfl;refine bo rg fun M=>?_;refine bo (Yc d 1 h 0 0 0 0 0 M x) fun N=>?_;refine bo rg fun O=>?_;refine bz lm ?_;refine bo (aJ (S:=Int×Int×(aA YZ)) (enc:=fun⟨y,H,z⟩=>(Q [(0,.yld 4),(1,.ref 3 0),(3,i64 y),(4,i64 h),(15,i64 (c.Parts.length:Int)),(16,i64 h),(39,i64 (O.Staves.length:Int)),(40,i64 H)] [(4,.loop 16 [(3,.ref 1 0)] [7,8] dA dB false none),(2,.lst 39 2 false (I YZ.g z)),(1,.box [.own 2]),(3,.box [.ref 0 0]),(0,.box (Y0.g c))])) (encE:=(fun(⟨J,K⟩:Int×(aA YZ))=>(xq 2 [(0,.yld 4),(1,.ref 3 0),(3,i64 J),(15,i64 (c.Parts.length:Int)),(16,i64 h)] [(4,.loop 16 [(3,.ref 1 0)] [7,8] dA dB false none),(2,.lst 39 2 false (I YZ.g K)),(1,.box [.own 2]),(3,.box [.ref 0 0]),(0,.box (Y0.g c))]))) (fun⟨y,H,z⟩=>?_) aY (w,0,N)) fun⟨J,K⟩=>?_;refine io ?_ rfl;refine bo rg fun a0=>?_;refine bo rg fun P=>?_;refine bo (Oe d 2 0 y 0 0 0 0 P z) fun b0=>?_;rfl;rfl;refine bz lm ?_;refine bo (aJ (S:=Int×(aA YZ)) (enc:=fun⟨a,i⟩=>(Q [(0,.yld 4),(1,.ref 3 0),(67,i64 (c.Measures.length:Int)),(68,i64 a)] [(4,.loop 16 [(3,.ref 1 0)] [7,8] dA dB false none),(3,.box [.ref 0 0]),(0,.box (Y0.g c)),(2,.lst 39 2 false (I YZ.g i)),(1,.box [.own 2])])) (encE:=(fun(p:aA YZ)=>(xq 4 [(0,.yld 4),(1,.ref 3 0)] [(4,.loop 16 [(3,.ref 1 0)] [7,8] dA dB false none),(3,.box [.ref 0 0]),(0,.box (Y0.g c)),(2,.lst 39 2 false (I YZ.g p)),(1,.box [.own 2])]))) (fun⟨a,i⟩=>?_) aY (0,A)) fun p=>?_;refine io ?_ rfl;refine bo rg fun B=>?_;refine bo (Of d 3 0 0 a 0 0 0 B i) fun C=>?_;refine bo rg fun f=>?_;refine bz lm ?_;refine bo (aJ (S:=Int×(aA YZ)) (enc:=fun⟨b,j⟩=>(Q [(0,.yld 4),(1,.ref 3 0),(6,i64 a),(67,i64 (c.Measures.length:Int)),(68,i64 a),(91,i64 (f.Cells.length:Int)),(92,i64 b)] [(4,.loop 16 [(3,.ref 1 0)] [7,8] dA dB false none),(2,.lst 39 2 false (I YZ.g j)),(1,.box [.own 2]),(3,.box [.ref 0 0]),(0,.box (Y0.g c))])) (encE:=(fun(u:aA YZ)=>(xq 6 [(0,.yld 4),(1,.ref 3 0),(67,i64 (c.Measures.length:Int)),(68,i64 a)] [(4,.loop 16 [(3,.ref 1 0)] [7,8] dA dB false none),(2,.lst 39 2 false (I YZ.g u)),(1,.box [.own 2]),(3,.box [.ref 0 0]),(0,.box (Y0.g c))]))) (fun⟨b,j⟩=>?_) aY (0,C)) fun u=>?_;refine io ?_ rfl;refine bo rg fun R=>?_;refine bo rg fun l=>?_;refine bz lm ?_;refine bo (aJ (S:=Int×(aA YZ)) (enc:=fun⟨e,m⟩=>(Q [(0,.yld 4),(1,.ref 3 0),(6,i64 a),(7,i64 b),(67,i64 (c.Measures.length:Int)),(68,i64 a),(91,i64 (f.Cells.length:Int)),(92,i64 b),(107,i64 (l.Voices.length:Int)),(108,i64 e)] [(4,.loop 16 [(3,.ref 1 0)] [7,8] dA dB false none),(2,.lst 39 2 false (I YZ.g m)),(1,.box [.own 2]),(3,.box [.ref 0 0]),(0,.box (Y0.g c))])) (encE:=(fun(t:aA YZ)=>(xq 8 [(0,.yld 4),(1,.ref 3 0),(6,i64 a),(67,i64 (c.Measures.length:Int)),(68,i64 a),(91,i64 (f.Cells.length:Int)),(92,i64 b)] [(4,.loop 16 [(3,.ref 1 0)] [7,8] dA dB false none),(2,.lst 39 2 false (I YZ.g t)),(1,.box [.own 2]),(3,.box [.ref 0 0]),(0,.box (Y0.g c))]))) (fun⟨e,m⟩=>?_) aY (0,j)) fun t=>?_;refine io ?_ rfl;refine bo rg fun T=>?_;refine bo rg fun U=>?_;refine bo rg fun D=>?_;refine bz lm ?_;refine bo (aJ (S:=Int×(aA YZ)) (enc:=fun⟨n,o⟩=>(Q [(0,.yld 4),(1,.ref 3 0),(6,i64 a),(7,i64 b),(8,i64 e),(67,i64 (c.Measures.length:Int)),(68,i64 a),(91,i64 (f.Cells.length:Int)),(92,i64 b),(107,i64 (l.Voices.length:Int)),(108,i64 e),(127,i64 (D.Events.length:Int)),(128,i64 n)] [(4,.loop 16 [(3,.ref 1 0)] [7,8] dA dB false none),(2,.lst 39 2 false (I YZ.g o)),(1,.box [.own 2]),(3,.box [.ref 0 0]),(0,.box (Y0.g c))])) (encE:=(fun(s:aA YZ)=>(xq 10 [(0,.yld 4),(1,.ref 3 0),(6,i64 a),(7,i64 b),(67,i64 (c.Measures.length:Int)),(68,i64 a),(91,i64 (f.Cells.length:Int)),(92,i64 b),(107,i64 (l.Voices.length:Int)),(108,i64 e)] [(4,.loop 16 [(3,.ref 1 0)] [7,8] dA dB false none),(2,.lst 39 2 false (I YZ.g s)),(1,.box [.own 2]),(3,.box [.ref 0 0]),(0,.box (Y0.g c))]))) (fun⟨n,o⟩=>?_) aY (0,m)) fun s=>?_;refine io ?_ rfl;refine bo rg fun V=>?_;refine bo rg fun W=>?_;refine bo rg fun X=>?_;refine bo rg fun E=>?_;refine bo (Og d 4 0 b a e n 0 E o) fun Y=>?_;rfl;rfl;rfl;rfl;refine bz lm ?_;refine bo (aJ (S:=Int×(aA YZ)) (enc:=fun⟨q,r⟩=>(Q [(0,.yld 4),(1,.ref 3 0),(166,i64 (c.Spanners.length:Int)),(167,i64 q)] [(4,.loop 16 [(3,.ref 1 0)] [7,8] dA dB false none),(3,.box [.ref 0 0]),(0,.box (Y0.g c)),(2,.lst 39 2 false (I YZ.g r)),(1,.box [.own 2])])) (encE:=(fun(v:aA YZ)=>(xq 12 [] [(4,.loop 16 [(3,.ref 1 0)] [7,8] dA dB false none),(3,.box [.ref 0 0]),(0,.box (Y0.g c)),(2,.lst 39 2 false (I YZ.g v)),(1,.box [.own 2])]))) (fun⟨q,r⟩=>?_) aY (0,p)) fun v=>?_;refine io ?_ rfl;refine bo rg fun F=>?_;refine bo (Oh d 5 0 0 0 0 0 q F r) fun Z=>?_;rfl;rfl
def F63 (a:Y0):aB (aA YZ):=
 (Yb a).bind fun _=>(Yd a []).bind fun b=>some b
theorem yD1 [Inhabited Rc] {k} (d) (a:Y0):OD k (d+3) 63 [.agg (Y0.g a)]=(F63 a).map (fun b=>.is 2 (I YZ.g b)):=by
 refine oe rfl ?_;refine bo (lG1 (d+1) a) fun _=>?_;refine bo (lH1 d a []) fun c=>?_;rfl
def F64 (a:YZ):aB Bool:=
 (yJ a.Site 0 99).bind fun b=>((if b then(yJ a.Number 1 1073741824).bind fun c=>some c else some false:aB (Bool))).bind fun d=>some d
theorem lJ1 [Inhabited Rc] {k} (d) (a:YZ):OD k (d+2) 64 [.agg (YZ.g a)]=(F64 a).map bv:=by
 refine oe rfl ?_;refine bo (nK d a.Site 0 99) fun b=>?_;refine bo (e:=id) ?_ fun f=>?_;refine io ?_ rfl;refine bo (nK d a.Number 1 1073741824) fun c=>?_;rfl;rfl
def F65 (b:Y0) (d:Int):aB Int:=
 (aR (E:=Int⊕Unit) (fun(a:Int)=>if decide (a<(b.Last.length:Int))then(aT b.Last a).bind fun c=>if c.Site==d then some (.inr (.inl c.Number))else some (.inl (aU (a+1)))else some (.inr (.inr ()))) aY 0).bind fun e=>(match e with|.inl x6=>some x6|.inr _=>some 0)
theorem yE1 [Inhabited Rc] {k} (d) (a:Y0) (b:Int):OD k (d+1) 65 [.agg (Y0.g a),i64 b]=(F65 a b).map i64:=by
 refine oe rfl ?_;refine bz lm ?_;refine bo (aJ (S:=Int) (enc:=fun c=>(Q [(1,i64 b),(8,.is 2 (I YZ.g a.Last)),(9,i64 (a.Last.length:Int)),(10,i64 c)] [(0,.box (Y0.g a))])) (encE:=(fun|.inl e=>(rq [(4,i64 e)] [(0,.box (Y0.g a))])|.inr _=>(xq 0 [] [(0,.box (Y0.g a))]))) (fun c=>?_) aY 0) fun f=>?_;refine io ?_ rfl;refine bo rg fun h=>?_;refine io rfl rfl;rcases f with e|_;rfl;rfl
def Ye (w:aA YV) (e:Y0) (u:Int):aB (aA YV):=
 (F63 e).bind fun v=>(aR (E:=(aA (YZ×Bool))×(aA YV)) (fun(⟨c,d,f⟩:Int×(aA (YZ×Bool))×(aA YV))=>if decide (c<(v.length:Int))then(aT v c).bind fun a=>(F64 a).bind fun i=>((if(!i)||(yI d a false)then some true else(F65 e a.Site).bind fun j=>some (decide (a.Number>j)):aB (Bool))).bind fun k=>(hY k a f e u).bind fun l=>some (.inl ((aU (c+1)),(Bq d a true),l))else some (.inr (d,f))) aY (0,[],w)).bind fun⟨x,m⟩=>(aR (E:=Bool) (fun(⟨g,b⟩:Bool×Int)=>if decide (b<(e.Last.length:Int))then(aT e.Last b).bind fun h=>((if g then some true else(F64 h).bind fun n=>some (!n):aB (Bool))).bind fun o=>((if o then some true else((if decide (b>0)then(aT e.Last (aU (b-1))).bind fun p=>some (decide (h.Site<=p.Site))else some false:aB (Bool))).bind fun q=>some q:aB (Bool))).bind fun r=>some (.inl (r,(aU (b+1))))else some (.inr g)) aY (false,0)).bind fun s=>(hY s (YZ.mk 0 0) m e u).bind fun t=>some t
theorem lK1 [Inhabited Rc] {k} (d) (p:aA YV) (a:Y0) (i:Int):dC (XD k (d+4)) 30 [.ref 1 0] [(2,.lst 120 3 false (I YV.g p)),(1,.box (ck a i (.own 2)))] 3 false=(Ye p a i).map (fun(s:aA YV)=>((.tup [],[(2,.lst 120 3 false (I YV.g s)),(1,.box (ck a i (.own 2)))],0))):=by
 rw[xd (fn:=p30) rfl];refine bo (yD1 d a) fun t=>?_;refine bz lm ?_;refine bo (aJ (S:=Int×(aA (YZ×Bool))×(aA YV)) (enc:=fun⟨m,f,j⟩=>(Q [(0,.ref 1 0),(2,.map 3),(13,.is 2 (I YZ.g t)),(14,i64 (t.length:Int)),(15,i64 m)] [(3,.mp (I (dD (eA YZ.g) bv) f)),(2,.lst 120 3 false (I YV.g j)),(1,.box (ck a i (.own 2)))])) (encE:=(fun(⟨h,c⟩:(aA (YZ×Bool))×(aA YV))=>(xq 0 [(0,.ref 1 0)] [(3,.mp (I (dD (eA YZ.g) bv) h)),(2,.lst 120 3 false (I YV.g c)),(1,.box (ck a i (.own 2)))]))) (fun⟨m,f,j⟩=>?_) aY (0,[],p)) fun⟨h,c⟩=>?_;refine io ?_ rfl;refine bo rg fun b=>?_;refine bo (lJ1 (d+1) b) fun u=>?_;refine bz (eU (bz (xI Lm bv f b false) rfl)) ?_;refine bo (e:=id) ?_ fun q=>?_;refine io rfl ?_;refine bo (yE1 (d+2) a b.Site) fun v=>?_;rfl;refine bo (fS (d+2) q b j a i) fun w=>?_;refine bz (jS Lm bv f b true) ?_;rfl;refine bz lm ?_;refine bo (aJ (S:=Bool×Int) (enc:=fun⟨n,o⟩=>(Q [(0,.ref 1 0),(5,bv n),(49,.is 2 (I YZ.g a.Last)),(50,i64 (a.Last.length:Int)),(51,i64 o)] [(3,.mp (I (dD (eA YZ.g) bv) h)),(2,.lst 120 3 false (I YV.g c)),(1,.box (ck a i (.own 2)))])) (encE:=(fun(l:Bool)=>(xq 2 [(0,.ref 1 0),(5,bv l)] [(3,.mp (I (dD (eA YZ.g) bv) h)),(2,.lst 120 3 false (I YV.g c)),(1,.box (ck a i (.own 2)))]))) (fun⟨n,o⟩=>?_) aY (false,0)) fun l=>?_;refine io ?_ rfl;refine bo rg fun r=>?_;refine bo (e:=id) ?_ fun y=>?_;refine io rfl ?_;refine bo (lJ1 (d+1) r) fun x=>?_;rfl;refine bo (e:=id) ?_ fun B=>?_;refine io rfl ?_;refine bo (e:=id) ?_ fun A=>?_;refine io ?_ rfl;refine bo rg fun z=>?_;rfl;rfl;rfl;refine bo (fS (d+2) l (YZ.mk 0 0) c a i) fun C=>?_;rfl
def F20 (b:Y0):aB Int:=
 (aR (E:=Int) (fun(⟨c,a⟩:Int×Int)=>if decide (a<(b.Parts.length:Int))then(aT b.Parts a).bind fun d=>some (.inl ((aU (c+(d.Staves.length:Int))),(aU (a+1))))else some (.inr c)) aY (0,0)).bind fun e=>some e
theorem gN1 [Inhabited Rc] {k} (d) (a:Y0):OD k (d+1) 20 [.agg (Y0.g a)]=(F20 a).map i64:=by
 refine oe rfl ?_;refine bz lm ?_;refine bo (aJ (S:=Int×Int) (enc:=fun⟨b,c⟩=>(Q [(3,i64 b),(7,.is 6 (I YJ.g a.Parts)),(8,i64 (a.Parts.length:Int)),(9,i64 c)] [(0,.box (Y0.g a))])) (encE:=(fun(e:Int)=>(xq 0 [(3,i64 e)] [(0,.box (Y0.g a))]))) (fun⟨b,c⟩=>?_) aY (0,0)) fun e=>?_;refine io ?_ rfl;refine bo rg fun f=>?_;refine bz lm ?_;rfl;rfl
def F67 (o:Int) (j:YM) (n:Int):aB Bool:=
 (aR (E:=Bool) (fun(⟨d,b⟩:Bool×Int)=>if decide (b<(j.Cells.length:Int))then(aT j.Cells b).bind fun a=>((if d||((a.Voices.length:Int)==0)then some true else(aT a.Voices 0).bind fun g=>some ((g.Events.length:Int)==0):aB (Bool))).bind fun h=>((if h then some true else(aT a.Voices (aU ((a.Voices.length:Int)-1))).bind fun i=>some ((i.Events.length:Int)==0):aB (Bool))).bind fun k=>(aR (E:=Bool) (fun(⟨e,c⟩:Bool×Int)=>if decide (c<(a.Voices.length:Int))then(aT a.Voices c).bind fun f=>some (.inl ((e||(((f.Events.length:Int)==0)&&(decide ((f.Tuplets.length:Int)>0)))),(aU (c+1))))else some (.inr e)) aY (k,0)).bind fun l=>some (.inl (l,(aU (b+1))))else some (.inr d)) aY (((j.Cells.length:Int)!=n),0)).bind fun m=>some m
theorem yF1 [Inhabited Rc] {k} (d) (o:Int) (a:YM) (n:Int):OD k (d+1) 67 [i64 o,.agg (YM.g a),.ip [i64 n]]=(F67 o a n).map bv:=by
 refine oe rfl ?_;refine bz lm ?_;refine bz lm ?_;refine bo (aJ (S:=Bool×Int) (enc:=fun⟨f,b⟩=>(Q [(6,bv f),(18,.is 2 (I YW.g a.Cells)),(19,i64 (a.Cells.length:Int)),(20,i64 b)] [(0,.box (YM.g a))])) (encE:=(fun(l:Bool)=>(xq 0 [(6,bv l)] [(0,.box (YM.g a))]))) (fun⟨f,b⟩=>?_) aY (((a.Cells.length:Int)!=n),0)) fun l=>?_;refine io ?_ rfl;refine bo rg fun c=>?_;refine bz (eU (bz lm rfl)) ?_;refine bo (e:=id) ?_ fun q=>?_;refine io rfl ?_;refine bo rg fun p=>?_;refine bz lm ?_;rfl;refine bo (e:=id) ?_ fun m=>?_;refine io rfl ?_;refine bz lm ?_;refine bo rg fun r=>?_;refine bz lm ?_;rfl;refine bz lm ?_;refine bo (aJ (S:=Bool×Int) (enc:=fun⟨h,i⟩=>(Q [(6,bv h),(18,.is 2 (I YW.g a.Cells)),(19,i64 (a.Cells.length:Int)),(20,i64 b),(51,.is 2 (I YO.g c.Voices)),(52,i64 (c.Voices.length:Int)),(53,i64 i)] [(1,.box (YW.g c)),(0,.box (YM.g a))])) (encE:=(fun(j:Bool)=>(xq 2 [(6,bv j),(18,.is 2 (I YW.g a.Cells)),(19,i64 (a.Cells.length:Int)),(20,i64 b)] [(1,.box (YW.g c)),(0,.box (YM.g a))]))) (fun⟨h,i⟩=>?_) aY (m,0)) fun j=>?_;refine io ?_ rfl;refine bo rg fun s=>?_;refine bz (eU (bz lm (bz (eN (bz lm rfl)) rfl))) ?_;rfl;rfl;rfl
def Yf (h:Int) (i:aA YV) (f:Y0) (j:Int):aB (aA YV):=
 (aR (E:=aA YV) (fun(⟨b,g⟩:Int×(aA YV))=>if decide (b<(f.Measures.length:Int))then(aT f.Measures b).bind fun a=>(F67 b a h).bind fun c=>(hY c a.ID g f j).bind fun d=>some (.inl ((aU (b+1)),d))else some (.inr g)) aY (0,i)).bind fun e=>some e
theorem lL1 [Inhabited Rc] {k} (d) (b:Int) (j:aA YV) (a:Y0) (c:Int):dC (XD k (d+2)) 66 [.ref 1 0,.fn 67 [] [.ref 3 0]] [(3,.box [i64 b]),(2,.lst 120 3 false (I YV.g j)),(1,.box (ck a c (.own 2)))] 4 false=(Yf b j a c).map (fun(i:aA YV)=>((.tup [],[(3,.box [i64 b]),(2,.lst 120 3 false (I YV.g i)),(1,.box (ck a c (.own 2)))],0))):=by
 rw[xd (fn:=Xz) rfl];refine bz lm ?_;refine bo (aJ (S:=Int×(aA YV)) (enc:=fun⟨l,m⟩=>(Q [(0,.ref 1 0),(1,.fn 67 [] [.ref 3 0]),(10,.is 22 (I YM.g a.Measures)),(11,i64 (a.Measures.length:Int)),(12,i64 l)] [(3,.box [i64 b]),(2,.lst 120 3 false (I YV.g m)),(1,.box (ck a c (.own 2)))])) (encE:=(fun(f:aA YV)=>(xq 0 [] [(3,.box [i64 b]),(2,.lst 120 3 false (I YV.g f)),(1,.box (ck a c (.own 2)))]))) (fun⟨l,m⟩=>?_) aY (0,j)) fun f=>?_;refine io ?_ rfl;refine bo rg fun e=>?_;refine bo (yF1 d l e b) fun h=>?_;refine bo (fS d h e.ID m a c) fun n=>?_;rfl;rfl
def Yg (b:aA YV) (a:Y0) (c:Int):aB (aA YV):=
 (F20 a).bind fun d=>(Yf d b a c).bind fun e=>some e
theorem lM1 [Inhabited Rc] {k} (d) (c:aA YV) (a:Y0) (b:Int):dC (XD k (d+3)) 31 [.ref 1 0] [(2,.lst 120 3 false (I YV.g c)),(1,.box (ck a b (.own 2)))] 3 false=(Yg c a b).map (fun(f:aA YV)=>((.tup [],[(2,.lst 120 3 false (I YV.g f)),(1,.box (ck a b (.own 2)))],0))):=by
 rw[xd (fn:=p31) rfl];refine bo (gN1 (d+1) a) fun e=>?_;refine bo (lL1 d e c a b) fun h=>?_;rfl
def Yh:aB Y9:=
 some (Y9.mk (YI.mk (⟨#[116,114,101,98,108,101]⟩:ByteArray) 71 (-2) 0 34 (-1) (-3)) (YI.mk (⟨#[98,97,115,115]⟩:ByteArray) 70 2 0 22 (-3) (-5)) (YI.mk (⟨#[97,108,116,111]⟩:ByteArray) 67 0 0 28 (-2) (-4)) (YI.mk (⟨#[116,101,110,111,114]⟩:ByteArray) 67 2 0 26 (-2) (-2)) (YI.mk (⟨#[115,111,112,114,97,110,111]⟩:ByteArray) 67 (-4) 0 32 (-2) (-3)) (YI.mk (⟨#[109,101,122,122,111,115,111,112,114,97,110,111]⟩:ByteArray) 67 (-2) 0 30 (-2) (-3)) (YI.mk (⟨#[98,97,114,105,116,111,110,101]⟩:ByteArray) 70 0 0 24 (-2) (-3)) (YI.mk (⟨#[116,114,101,98,108,101,56]⟩:ByteArray) 71 (-2) (-1) 27 (-1) (-3)) (YI.mk (⟨#[98,97,115,115,56]⟩:ByteArray) 70 2 (-1) 15 (-3) (-5)))
theorem lN1 [Inhabited Rc] {k} (d):OD k (d+1) 181 []=(Yh).map (fun a=>.agg (Y9.g a)):=by
 refine oe rfl ?_;rfl
def Yi (b:Int):aB (YI×Int):=
 if(decide (b<1))||(decide (b>9))then some ((YI.mk (⟨#[]⟩:ByteArray) 0 0 0 0 0 0),11)else(Yh).bind fun a=>(aT [a.c0,a.c1,a.c2,a.c3,a.c4,a.c5,a.c6,a.c7,a.c8] (aU (b-1))).bind fun c=>some (c,0)
theorem lO1 [Inhabited Rc] {k} (d) (b:Int):OD k (d+2) 125 [i64 b]=(Yi b).map (fun⟨c,e⟩=>.tup [.agg (YI.g c),i64 e]):=by
 refine oe rfl ?_;refine bz (eU rfl) ?_;refine io rfl ?_;refine bo (lN1 d) fun a=>?_;refine bo (Gc (A:=YI) YI.g [a.c0,a.c1,a.c2,a.c3,a.c4,a.c5,a.c6,a.c7,a.c8] (aU (b-1)) rfl (fun _=>rfl) rfl) fun f=>?_;rfl
def F68 (a:Int):aB Int:=
 (Yi a).bind fun⟨c,b⟩=>some b
theorem lQ1 [Inhabited Rc] {k} (d) (a:Int):OD k (d+3) 68 [i64 a]=(F68 a).map i64:=by
 refine oe rfl ?_;refine bo (lO1 d a) fun⟨b,c⟩=>?_;rfl
def Yj (a:YX):aB Bool:=
 if((a.Groups.c0==0)&&((a.Groups.c1==0)&&((a.Groups.c2==0)&&((a.Groups.c3==0)&&((a.Groups.c4==0)&&((a.Groups.c5==0)&&true))))))!=false then some true else(aR (E:=(Int×Int)⊕(Int×Int)) (fun(⟨d,b,e⟩:Int×Int×Int)=>if decide (e<6)then(aT [a.Groups.c0,a.Groups.c1,a.Groups.c2,a.Groups.c3,a.Groups.c4,a.Groups.c5] e).bind fun c=>if((decide (c<0))||(decide (c>64)))||((decide (c>0))&&(e !=b))then some (.inr (.inl (d,b)))else((if decide (c>0)then some ((aU (d+c)),(aU (b+1)))else some (d,b):aB (Int×Int))).bind fun⟨h,f⟩=>some (.inl (h,f,(aU (e+1))))else some (.inr (.inr (d,b)))) aY (0,0,0)).bind fun g=>(match g with|.inl ⟨x11,x12⟩=>some false|.inr ⟨x13,x14⟩=>some ((x13==a.Count)&&(decide (x14>=2))))
theorem lR1 [Inhabited Rc] {k} (d) (a:YX):OD k (d+1) 203 [.agg (YX.g a)]=(Yj a).map bv:=by
 refine oe rfl ?_;refine io rfl ?_;refine bo (aJ (S:=Int×Int×Int) (enc:=fun⟨j,l,h⟩=>(Q [(1,.ref 0 0),(3,i64 j),(4,i64 l),(12,.agg (Y6.g a.Groups)),(13,i64 h)] [(0,.box (YX.g a))])) (encE:=(fun|.inl ⟨c,f⟩=>(rq [(1,.ref 0 0),(2,bv false),(3,i64 c),(4,i64 f)] [(0,.box (YX.g a))])|.inr ⟨x13,x14⟩=>(xq 0 [(1,.ref 0 0),(3,i64 x13),(4,i64 x14)] [(0,.box (YX.g a))]))) (fun⟨j,l,h⟩=>?_) aY (0,0,0)) fun i=>?_;refine io ?_ rfl;refine bo (pI .i64 [a.Groups.c0,a.Groups.c1,a.Groups.c2,a.Groups.c3,a.Groups.c4,a.Groups.c5] h rfl) fun n=>?_;refine bz (eU rfl) ?_;refine bz (eU (bz (eN rfl) rfl)) ?_;refine io rfl ?_;refine bo (e:=(fun(⟨m,b⟩:Int×Int)=>(nq [(1,.ref 0 0),(3,i64 m),(4,i64 b),(12,.agg (Y6.g a.Groups)),(13,i64 h)] [(0,.box (YX.g a))]))) ?_ fun⟨m,b⟩=>?_;refine io rfl rfl;rfl;rcases i with⟨c,f⟩|⟨x13,x14⟩
 rfl;refine bz (eN rfl) ?_;rfl
def Oj (a:YX):aB Int:=
 if(decide (a.Count<1))||(decide (a.Count>64))then some 2 else if((decide (a.Unit<1))||(decide (a.Unit>64)))||((Bp .i64 a.Unit (aU (a.Unit-1)))!=0)then some 17 else(Yj a).bind fun b=>if !b then some 19 else some 0
theorem lS1 [Inhabited Rc] {k} (d) (a:YX):OD k (d+2) 166 [.agg (YX.g a)]=(Oj a).map i64:=by
 refine oe rfl ?_;refine bz (eU rfl) ?_;refine io rfl ?_;refine bz (eU rfl) ?_;refine bz (eU rfl) ?_;refine io rfl ?_;refine bo (lR1 d a) fun b=>?_;refine io rfl rfl
def Ol (a:YX):aB Int:=
 (yH .i64 1935360 a.Unit).bind fun b=>some b
theorem lT1 [Inhabited Rc] {k} (d) (a:YX):OD k (d+1) 204 [.agg (YX.g a)]=(Ol a).map i64:=by
 refine oe rfl ?_;refine bo oi fun b=>?_;rfl
def Om (a:YX):aB Int:=
 (Ol a).bind fun b=>some (aU (a.Count*b))
theorem lU1 [Inhabited Rc] {k} (d) (a:YX):OD k (d+2) 167 [.agg (YX.g a)]=(Om a).map i64:=by
 refine oe rfl ?_;refine bo (lT1 d a) fun b=>?_;rfl
def Oo (a:YX):aB (Int×Int):=
 (Oj a).bind fun b=>if b !=0 then some (0,b)else(Om a).bind fun c=>some (c,0)
theorem lV1 [Inhabited Rc] {k} (d) (a:YX):OD k (d+3) 105 [.agg (YX.g a)]=(Oo a).map (fun⟨b,c⟩=>.tup [i64 b,i64 c]):=by
 refine oe rfl ?_;refine bo (lS1 d a) fun e=>?_;refine io rfl ?_;refine bo (lU1 d a) fun f=>?_;rfl
def Dh (a:YM):aB (Int×Int):=
 (Oo a.Metre).bind fun⟨d,c⟩=>if c !=0 then some (0,c)else if decide (a.Length<0)then some (0,2)else((if decide (a.Length>0)then some a.Length else some d:aB (Int))).bind fun b=>(Td .i64 b 7560).bind fun e=>if e !=0 then some (0,16)else if decide (b>15482880)then some (0,5)else some (b,0)
theorem Gi [Inhabited Rc] {k} (d) (a:YM):OD k (d+4) 47 [.agg (YM.g a)]=(Dh a).map (fun⟨c,f⟩=>.tup [i64 c,i64 f]):=by
 refine oe rfl ?_;refine bo (lV1 d a.Metre) fun⟨h,i⟩=>?_;refine io rfl ?_;refine io rfl ?_;refine bo (e:=(fun(b:Int)=>(nq [(4,i64 b)] [(0,.box (YM.g a))]))) ?_ fun b=>?_;refine io rfl rfl;refine bo oi fun j=>?_;refine io rfl ?_;refine io rfl rfl
def F69 (s:Int) (g:YM):aB Bool:=
 (Dh g).bind fun⟨q,r⟩=>(aR (E:=Bool) (fun(⟨e,b⟩:Bool×Int)=>if decide (b<(g.Cells.length:Int))then(aT g.Cells b).bind fun c=>(aR (E:=Bool) (fun(⟨f,a⟩:Bool×Int)=>if decide (a<(c.Clefs.length:Int))then(aT c.Clefs a).bind fun d=>((if f then some true else(F68 d.Clef).bind fun h=>some (h !=0):aB (Bool))).bind fun i=>((if i then some true else(yJ d.At 0 (aU (q-1))).bind fun j=>some (!j):aB (Bool))).bind fun k=>((if k then some true else((if decide (a>0)then(aT c.Clefs (aU (a-1))).bind fun l=>some (decide (d.At<=l.At))else some false:aB (Bool))).bind fun m=>some m:aB (Bool))).bind fun n=>some (.inl (n,(aU (a+1))))else some (.inr f)) aY (e,0)).bind fun o=>some (.inl (o,(aU (b+1))))else some (.inr e)) aY (false,0)).bind fun p=>some (p&&(r==0))
theorem yG1 [Inhabited Rc] {k} (d) (p:Int) (a:YM):OD k (d+5) 69 [i64 p,.agg (YM.g a)]=(F69 p a).map bv:=by
 refine oe rfl ?_;refine bo (Gi d a) fun⟨n,o⟩=>?_;refine bz lm ?_;refine bo (aJ (S:=Bool×Int) (enc:=fun⟨f,b⟩=>(Q [(5,i64 n),(6,i64 o),(7,bv f),(18,.is 2 (I YW.g a.Cells)),(19,i64 (a.Cells.length:Int)),(20,i64 b)] [(0,.box (YM.g a))])) (encE:=(fun(m:Bool)=>(xq 0 [(6,i64 o),(7,bv m)] [(0,.box (YM.g a))]))) (fun⟨f,b⟩=>?_) aY (false,0)) fun m=>?_;refine io ?_ rfl;refine bo rg fun c=>?_;refine bz lm ?_;refine bo (aJ (S:=Bool×Int) (enc:=fun⟨h,i⟩=>(Q [(5,i64 n),(6,i64 o),(7,bv h),(9,.ref 1 0),(18,.is 2 (I YW.g a.Cells)),(19,i64 (a.Cells.length:Int)),(20,i64 b),(25,.is 2 (I YC.g c.Clefs)),(26,i64 (c.Clefs.length:Int)),(27,i64 i)] [(1,.box (YW.g c)),(0,.box (YM.g a))])) (encE:=(fun(l:Bool)=>(xq 2 [(5,i64 n),(6,i64 o),(7,bv l),(18,.is 2 (I YW.g a.Cells)),(19,i64 (a.Cells.length:Int)),(20,i64 b)] [(1,.box (YW.g c)),(0,.box (YM.g a))]))) (fun⟨h,i⟩=>?_) aY (f,0)) fun l=>?_;refine io ?_ rfl;refine bo rg fun j=>?_;refine bo (e:=id) ?_ fun r=>?_;refine io rfl ?_;refine bo (lQ1 (d+1) j.Clef) fun q=>?_;rfl;refine bo (e:=id) ?_ fun t=>?_;refine io rfl ?_;refine bo (nK (d+3) j.At 0 (aU (n-1))) fun s=>?_;rfl;refine bo (e:=id) ?_ fun w=>?_;refine io rfl ?_;refine bo (e:=id) ?_ fun v=>?_;refine io ?_ rfl;refine bo rg fun u=>?_;rfl;rfl;rfl;rfl;refine bz (eN rfl) ?_;rfl
def Bt (h:aA YV) (e:Y0) (i:Int):aB (aA YV):=
 (aR (E:=aA YV) (fun(⟨a,f⟩:Int×(aA YV))=>if decide (a<(e.Measures.length:Int))then(aT e.Measures a).bind fun g=>(F69 a g).bind fun b=>(hY b g.ID f e i).bind fun c=>some (.inl ((aU (a+1)),c))else some (.inr f)) aY (0,h)).bind fun d=>some d
theorem Yk [Inhabited Rc] {k} (d) (e:aA YV) (a:Y0) (b:Int):dC (XD k (d+6)) 66 [.ref 1 0,.fn 69 [] []] [(2,.lst 120 3 false (I YV.g e)),(1,.box (ck a b (.own 2)))] 3 false=(Bt e a b).map (fun(h:aA YV)=>((.tup [],[(2,.lst 120 3 false (I YV.g h)),(1,.box (ck a b (.own 2)))],0))):=by
 rw[xd (fn:=Xz) rfl];refine bz lm ?_;refine bo (aJ (S:=Int×(aA YV)) (enc:=fun⟨i,j⟩=>(Q [(0,.ref 1 0),(1,.fn 69 [] []),(10,.is 22 (I YM.g a.Measures)),(11,i64 (a.Measures.length:Int)),(12,i64 i)] [(2,.lst 120 3 false (I YV.g j)),(1,.box (ck a b (.own 2)))])) (encE:=(fun(c:aA YV)=>(xq 0 [] [(2,.lst 120 3 false (I YV.g c)),(1,.box (ck a b (.own 2)))]))) (fun⟨i,j⟩=>?_) aY (0,e)) fun c=>?_;refine io ?_ rfl;refine bo rg fun l=>?_;refine bo (yG1 d i l) fun f=>?_;refine bo (fS (d+4) f l.ID j a b) fun m=>?_;rfl;rfl
def Yl (n:aA YV) (g:Y0) (m:Int):aB (aA YV):=
 (aR (E:=aA YV) (fun(⟨a,c⟩:Int×(aA YV))=>if decide (a<(g.Parts.length:Int))then(aT g.Parts a).bind fun d=>(aR (E:=aA YV) (fun(⟨b,e⟩:Int×(aA YV))=>if decide (b<(d.Staves.length:Int))then(aT d.Staves b).bind fun f=>(F68 f.Clef).bind fun h=>(hY (h !=0) f.ID e g m).bind fun i=>some (.inl ((aU (b+1)),i))else some (.inr e)) aY (0,c)).bind fun j=>some (.inl ((aU (a+1)),j))else some (.inr c)) aY (0,n)).bind fun k=>(Bt k g m).bind fun l=>some l
theorem lW1 [Inhabited Rc] {k} (d) (n:aA YV) (a:Y0) (e:Int):dC (XD k (d+7)) 32 [.ref 1 0] [(2,.lst 120 3 false (I YV.g n)),(1,.box (ck a e (.own 2)))] 3 false=(Yl n a e).map (fun(p:aA YV)=>((.tup [],[(2,.lst 120 3 false (I YV.g p)),(1,.box (ck a e (.own 2)))],0))):=by
 rw[xd (fn:=p32) rfl];refine bz lm ?_;refine bo (aJ (S:=Int×(aA YV)) (enc:=fun⟨b,f⟩=>(Q [(0,.ref 1 0),(10,.is 6 (I YJ.g a.Parts)),(11,i64 (a.Parts.length:Int)),(12,i64 b)] [(2,.lst 120 3 false (I YV.g f)),(1,.box (ck a e (.own 2)))])) (encE:=(fun(i:aA YV)=>(xq 0 [(0,.ref 1 0)] [(2,.lst 120 3 false (I YV.g i)),(1,.box (ck a e (.own 2)))]))) (fun⟨b,f⟩=>?_) aY (0,n)) fun i=>?_;refine io ?_ rfl;refine bo rg fun c=>?_;refine bz lm ?_;refine bo (aJ (S:=Int×(aA YV)) (enc:=fun⟨j,h⟩=>(Q [(0,.ref 1 0),(10,.is 6 (I YJ.g a.Parts)),(11,i64 (a.Parts.length:Int)),(12,i64 b),(17,.is 3 (I YF.g c.Staves)),(18,i64 (c.Staves.length:Int)),(19,i64 j)] [(3,.box (YJ.g c)),(2,.lst 120 3 false (I YV.g h)),(1,.box (ck a e (.own 2)))])) (encE:=(fun(m:aA YV)=>(xq 2 [(0,.ref 1 0),(10,.is 6 (I YJ.g a.Parts)),(11,i64 (a.Parts.length:Int)),(12,i64 b)] [(3,.box (YJ.g c)),(2,.lst 120 3 false (I YV.g m)),(1,.box (ck a e (.own 2)))]))) (fun⟨j,h⟩=>?_) aY (0,f)) fun m=>?_;refine io ?_ rfl;refine bo rg fun l=>?_;refine bo (lQ1 (d+3) l.Clef) fun o=>?_;refine bo (fS (d+5) (o !=0) l.ID h a e) fun q=>?_;rfl;rfl;refine bo (Yk d i a e) fun r=>?_;rfl
def Ym (a:Int):aB Int:=
 if(decide (a<(-7)))||(decide (a>7))then some 2 else some 0
theorem lX1 [Inhabited Rc] {k} (d) (a:Int):OD k (d+1) 126 [i64 a]=(Ym a).map i64:=by
 refine oe rfl ?_;refine bz (eU rfl) ?_;refine io rfl rfl
def F71 (d:Int) (a:YL):aB (Int×Int):=
 (Ym d).bind fun e=>if e !=0 then some (0,e)else if(((decide (a.Steps<(-77)))||(decide (a.Steps>77)))||(decide (a.Semitones<(-140))))||(decide (a.Semitones>140))then some (0,2)else(aR (E:=Int) (fun(b:Int)=>if decide (b>7)then some (.inl (aU (b-12)))else some (.inr b)) aY (aU (d+(aU ((aU (7*a.Semitones))-(aU (12*a.Steps))))))).bind fun f=>(aR (E:=Int) (fun(c:Int)=>if decide (c<(-7))then some (.inl (aU (c+12)))else some (.inr c)) aY f).bind fun g=>some (g,0)
theorem yH1 [Inhabited Rc] {k} (d) (b:Int) (a:YL):OD k (d+2) 71 [i64 b,.agg (YL.g a)]=(F71 b a).map (fun⟨i,j⟩=>.tup [i64 i,i64 j]):=by
 refine oe rfl ?_;refine bo (lX1 d b) fun l=>?_;refine io rfl ?_;refine bz (eU rfl) ?_;refine bz (eU rfl) ?_;refine bz (eU rfl) ?_;refine io rfl ?_;refine bo (aJ (S:=Int) (enc:=fun e=>(Q [(0,i64 e)] [(0,.box (YL.g a))])) (encE:=(fun(c:Int)=>(xq 0 [(0,i64 c)] [(0,.box (YL.g a))]))) (fun e=>?_) aY (aU (b+(aU ((aU (7*a.Semitones))-(aU (12*a.Steps))))))) fun c=>?_;refine io rfl rfl;refine bo (aJ (S:=Int) (enc:=fun f=>(Q [(0,i64 f)] [(0,.box (YL.g a))])) (encE:=(fun(h:Int)=>(xq 2 [(0,i64 h)] [(0,.box (YL.g a))]))) (fun f=>?_) aY c) fun h=>?_;refine io rfl rfl;rfl
def F70 (m:Int) (g:YM) (h:YK):aB Bool:=
 (Dh g).bind fun⟨n,j⟩=>((if j !=0 then some true else(yJ g.Fifths (-7) 7).bind fun k=>some (!k):aB (Bool))).bind fun l=>(aR (E:=Bool) (fun(⟨a,b⟩:Bool×Int)=>if decide (b<(h.s'.Parts.length:Int))then(aT h.s'.Parts b).bind fun c=>((if h.s'.Written&&(!a)then(F71 g.Fifths c.Transpose).bind fun⟨i,d⟩=>some (d !=0)else some a:aB (Bool))).bind fun e=>some (.inl (e,(aU (b+1))))else some (.inr a)) aY (l,0)).bind fun f=>some f
theorem yI1 [Inhabited Rc] {k} (d) (l:Int) (a:YM) (b:YK):OD k (d+5) 70 [i64 l,.agg (YM.g a),.ip [.ip (YK.g b)]]=(F70 l a b).map bv:=by
 refine oe rfl ?_;refine bo (Gi d a) fun⟨p,q⟩=>?_;refine bo (e:=id) ?_ fun o=>?_;refine io rfl ?_;refine bo (nK (d+3) a.Fifths (-7) 7) fun r=>?_;rfl;refine bz lm ?_;refine bo (aJ (S:=Bool×Int) (enc:=fun⟨f,c⟩=>(Q [(2,.ip [.ip (YK.g b)]),(4,.ref 0 0),(8,bv f),(28,.is 6 (I YJ.g b.s'.Parts)),(29,i64 (b.s'.Parts.length:Int)),(30,i64 c)] [(0,.box (YM.g a))])) (encE:=(fun(j:Bool)=>(xq 0 [(8,bv j)] [(0,.box (YM.g a))]))) (fun⟨f,c⟩=>?_) aY (o,0)) fun j=>?_;refine io ?_ rfl;refine bo rg fun h=>?_;refine bz (eN rfl) ?_;refine bo (e:=(fun(i:Bool)=>(nq [(2,.ip [.ip (YK.g b)]),(4,.ref 0 0),(8,bv i),(28,.is 6 (I YJ.g b.s'.Parts)),(29,i64 (b.s'.Parts.length:Int)),(30,i64 c)] [(1,.box (YJ.g h)),(0,.box (YM.g a))]))) ?_ fun i=>?_;refine io ?_ rfl;refine bo (yH1 (d+2) a.Fifths h.Transpose) fun⟨m,n⟩=>?_;rfl;rfl;rfl
def sN (i:aA YV) (a:Y0) (g:Int):aB (aA YV):=
 (aR (E:=aA YV) (fun(⟨b,f⟩:Int×(aA YV))=>if decide (b<(a.Measures.length:Int))then(aT a.Measures b).bind fun h=>(F70 b h (YK.mk a g f)).bind fun c=>(hY c h.ID f a g).bind fun d=>some (.inl ((aU (b+1)),d))else some (.inr f)) aY (0,i)).bind fun e=>some e
theorem Yn [Inhabited Rc] {k} (d) (f:aA YV) (a:Y0) (b:Int):dC (XD k (d+6)) 66 [.ref 1 0,.fn 70 [] [.ref 3 0]] [(3,.box [.ref 1 0]),(2,.lst 120 3 false (I YV.g f)),(1,.box (ck a b (.own 2)))] 4 false=(sN f a b).map (fun(i:aA YV)=>((.tup [],[(3,.box [.ref 1 0]),(2,.lst 120 3 false (I YV.g i)),(1,.box (ck a b (.own 2)))],0))):=by
 rw[xd (fn:=Xz) rfl];refine bz lm ?_;refine bo (aJ (S:=Int×(aA YV)) (enc:=fun⟨j,e⟩=>(Q [(0,.ref 1 0),(1,.fn 70 [] [.ref 3 0]),(10,.is 22 (I YM.g a.Measures)),(11,i64 (a.Measures.length:Int)),(12,i64 j)] [(3,.box [.ref 1 0]),(2,.lst 120 3 false (I YV.g e)),(1,.box (ck a b (.own 2)))])) (encE:=(fun(c:aA YV)=>(xq 0 [] [(3,.box [.ref 1 0]),(2,.lst 120 3 false (I YV.g c)),(1,.box (ck a b (.own 2)))]))) (fun⟨j,e⟩=>?_) aY (0,f)) fun c=>?_;refine io ?_ rfl;refine bo rg fun l=>?_;refine bo (yI1 d j l (YK.mk a b e)) fun h=>?_;refine bo (fS (d+4) h l.ID e a b) fun m=>?_;rfl;rfl
def Tt (a:aA YV) (b:Y0) (c:Int):aB (aA YV):=
 (sN a b c).bind fun d=>some d
theorem lY1 [Inhabited Rc] {k} (d) (c:aA YV) (a:Y0) (b:Int):dC (XD k (d+7)) 33 [.ref 1 0] [(2,.lst 120 3 false (I YV.g c)),(1,.box (ck a b (.own 2)))] 3 false=(Tt c a b).map (fun(e:aA YV)=>((.tup [],[(2,.lst 120 3 false (I YV.g e)),(1,.box (ck a b (.own 2)))],0))):=by
 rw[xd (fn:=p33) rfl];refine bo (Yn d c a b) fun f=>?_;rfl
def oG (a b:Int):aB Int:=
 if(decide (a<0))||(decide (a>b))then some 2 else some 0
theorem lH [Inhabited Rc] {k} (d) (a b:Int):OD k (d+1) 135 [i64 a,i64 b]=(oG a b).map i64:=by
 refine oe rfl ?_;refine bz (eU rfl) ?_;refine io rfl rfl
def Gj (b:aA Int):aB Int:=
 (aR (E:=Int⊕Unit) (fun(a:Int)=>if decide (a<(b.length:Int))then(aT b a).bind fun c=>if c !=0 then some (.inr (.inl c))else some (.inl (aU (a+1)))else some (.inr (.inr ()))) aY 0).bind fun d=>(match d with|.inl x5=>some x5|.inr _=>some 0)
theorem Gk [Inhabited Rc] {k} (d) (a:aA Int):OD k (d+1) 134 [.is 1 (I cI a)]=(Gj a).map i64:=by
 refine oe rfl ?_;refine bz lm ?_;refine bo (aJ (S:=Int) (enc:=fun b=>(Q [(5,.is 1 (I cI a)),(6,i64 (a.length:Int)),(7,i64 b)] [])) (encE:=(fun|.inl c=>(rq [(2,i64 c)] [])|.inr _=>(xq 0 [] []))) (fun b=>?_) aY 0) fun e=>?_;refine io ?_ rfl;refine bo rg fun f=>?_;refine io rfl rfl;rcases e with c|_;rfl;rfl
def Tu (a:Int):aB Bool:=
 some ((decide (a>=1))&&(decide (a<=4)))
theorem dY1 [Inhabited Rc] {k} (d) (a:Int):OD k (d+1) 136 [i64 a]=(Tu a).map bv:=by
 refine oe rfl ?_;refine bz (eN rfl) ?_;rfl
def Yo (a:Int):aB Int:=
 if decide (a<0)then some 0 else some (Bp .i64 a 16)
theorem lZ1 [Inhabited Rc] {k} (d) (a:Int):OD k (d+1) 187 [i64 a]=(Yo a).map i64:=by
 refine oe rfl ?_;refine io rfl rfl
def Yp (a:YE):aB YE:=
 ((if a.Kind==1 then some true else(Tu a.Kind).bind fun b=>some (!b):aB (Bool))).bind fun c=>if c then some a else((if a.Kind !=3 then some a.Value else some (YA.mk 0 0):aB (YA))).bind fun d=>((if a.Kind !=4 then(Yo a.Articulations).bind fun e=>some e else some 0:aB (Int))).bind fun f=>some (YE.mk a.ID a.Kind d [] [] f 0 a.Dynamic [] 0 0)
theorem mA1 [Inhabited Rc] {k} (d) (a:YE):OD k (d+2) 138 [.agg (YE.g a)]=(Yp a).map (fun f=>.agg (YE.g f)):=by
 refine oe rfl ?_;refine bo (e:=id) ?_ fun i=>?_;refine io rfl ?_;refine bo (dY1 d a.Kind) fun h=>?_;rfl;refine io rfl ?_;refine bo (e:=(fun(b:YA)=>(nq [(1,.ref 0 0),(2,.ref 1 0),(3,.ref 2 0)] [(2,.box [i64 a.ID.Site,i64 a.ID.Number,i64 a.Kind,i64 b.Log,i64 b.Dots,.v (.slice none 0 0),.v (.slice none 0 0),i64 0,i64 0,i64 a.Dynamic,.v (.slice none 0 0),i64 0,i64 0]),(1,.box [i64 0,i64 0,i64 0,i64 0,i64 0,.v (.slice none 0 0),.v (.slice none 0 0),i64 0,i64 0,i64 0,.v (.slice none 0 0),i64 0,i64 0]),(0,.box (YE.g a))]))) ?_ fun b=>?_;refine io rfl rfl;refine bo (e:=(fun(c:Int)=>(nq [(2,.ref 1 0),(3,.ref 2 0)] [(2,.box [i64 a.ID.Site,i64 a.ID.Number,i64 a.Kind,i64 b.Log,i64 b.Dots,.v (.slice none 0 0),.v (.slice none 0 0),i64 c,i64 0,i64 a.Dynamic,.v (.slice none 0 0),i64 0,i64 0]),(1,.box [i64 0,i64 0,i64 0,i64 0,i64 0,.v (.slice none 0 0),.v (.slice none 0 0),i64 0,i64 0,i64 0,.v (.slice none 0 0),i64 0,i64 0]),(0,.box (YE.g a))]))) ?_ fun c=>?_;refine io ?_ rfl;refine bo (lZ1 d a.Articulations) fun j=>?_;rfl;rfl
def Yq (d e:aA YB):aB Bool:=
 if(d.length:Int)!=(e.length:Int)then some false else(aR (E:=Unit⊕Unit) (fun(c:Int)=>if decide (c<(d.length:Int))then(aT d c).bind fun a=>(aT e c).bind fun b=>if((a.Pitch.Step==b.Pitch.Step)&&((a.Pitch.Alter==b.Pitch.Alter)&&((a.Pitch.Octave==b.Pitch.Octave)&&((a.Tied==b.Tied)&&((a.Show==b.Show)&&true)))))!=true then some (.inr (.inl ()))else some (.inl (aU (c+1)))else some (.inr (.inr ()))) aY 0).bind fun f=>(match f with|.inl _=>some false|.inr _=>some true)
theorem mB1 [Inhabited Rc] {k} (d) (a b:aA YB):OD k (d+1) 184 [.is 5 (I YB.g a),.is 5 (I YB.g b)]=(Yq a b).map bv:=by
 refine oe rfl ?_;refine bz lm ?_;refine bz lm ?_;refine io rfl ?_;refine bz lm ?_;refine bo (aJ (S:=Int) (enc:=fun c=>(Q [(0,.is 5 (I YB.g a)),(1,.is 5 (I YB.g b)),(12,i64 (a.length:Int)),(13,i64 c)] [])) (encE:=(fun|.inl _=>(rq [(4,bv false)] [])|.inr _=>(xq 0 [] []))) (fun c=>?_) aY 0) fun e=>?_;refine io ?_ rfl;refine bo rg fun f=>?_;refine bo rg fun h=>?_;refine io rfl rfl;rcases e with _|_;rfl;rfl
def Yr (d e:aA YD):aB Bool:=
 if(d.length:Int)!=(e.length:Int)then some false else(aR (E:=Unit⊕Unit) (fun(c:Int)=>if decide (c<(d.length:Int))then(aT d c).bind fun a=>(aT e c).bind fun b=>if((a.Pitch.Step==b.Pitch.Step)&&((a.Pitch.Alter==b.Pitch.Alter)&&((a.Pitch.Octave==b.Pitch.Octave)&&((a.Log==b.Log)&&((a.Slash==b.Slash)&&true)))))!=true then some (.inr (.inl ()))else some (.inl (aU (c+1)))else some (.inr (.inr ()))) aY 0).bind fun f=>(match f with|.inl _=>some false|.inr _=>some true)
theorem mC1 [Inhabited Rc] {k} (d) (a b:aA YD):OD k (d+1) 185 [.is 5 (I YD.g a),.is 5 (I YD.g b)]=(Yr a b).map bv:=by
 refine oe rfl ?_;refine bz lm ?_;refine bz lm ?_;refine io rfl ?_;refine bz lm ?_;refine bo (aJ (S:=Int) (enc:=fun c=>(Q [(0,.is 5 (I YD.g a)),(1,.is 5 (I YD.g b)),(12,i64 (a.length:Int)),(13,i64 c)] [])) (encE:=(fun|.inl _=>(rq [(4,bv false)] [])|.inr _=>(xq 0 [] []))) (fun c=>?_) aY 0) fun e=>?_;refine io ?_ rfl;refine bo rg fun f=>?_;refine bo rg fun h=>?_;refine io rfl rfl;rcases e with _|_;rfl;rfl
end Go.P
namespace Go.P
open Go.Sim (Ex dQ CK)
open K (I Q rq nq xq ck)
def Yt (b c:aA YY):aB Bool:=
 if(b.length:Int)!=(c.length:Int)then some false else(aR (E:=Unit⊕Unit) (fun(a:Int)=>if decide (a<(b.length:Int))then(aT b a).bind fun d=>(aT c a).bind fun e=>if((d.Text==e.Text)&&((d.Link==e.Link)&&true))!=true then some (.inr (.inl ()))else some (.inl (aU (a+1)))else some (.inr (.inr ()))) aY 0).bind fun f=>(match f with|.inl _=>some false|.inr _=>some true)
theorem mD1 [Inhabited Rc] {k} (d) (a b:aA YY):OD k (d+1) 186 [.is 2 (I YY.g a),.is 2 (I YY.g b)]=(Yt a b).map bv:=by
 refine oe rfl ?_;refine bz lm ?_;refine bz lm ?_;refine io rfl ?_;refine bz lm ?_;refine bo (aJ (S:=Int) (enc:=fun c=>(Q [(0,.is 2 (I YY.g a)),(1,.is 2 (I YY.g b)),(12,i64 (a.length:Int)),(13,i64 c)] [])) (encE:=(fun|.inl _=>(rq [(4,bv false)] [])|.inr _=>(xq 0 [] []))) (fun c=>?_) aY 0) fun e=>?_;refine io ?_ rfl;refine bo rg fun f=>?_;refine bo rg fun h=>?_;refine io rfl rfl;rcases e with _|_;rfl;rfl
def Yu (a b:YE):aB Bool:=
 ((if((((((a.Kind==b.Kind)&&(((a.Value.Log==b.Value.Log)&&((a.Value.Dots==b.Value.Dots)&&true))!=false))&&(a.Articulations==b.Articulations))&&(a.Ornament==b.Ornament))&&(a.Dynamic==b.Dynamic))&&(a.Stem==b.Stem))&&(a.Beam==b.Beam)then(Yq a.Heads b.Heads).bind fun c=>some c else some false:aB (Bool))).bind fun d=>((if d then(Yr a.Graces b.Graces).bind fun e=>some e else some false:aB (Bool))).bind fun f=>((if f then(Yt a.Lyrics b.Lyrics).bind fun g=>some g else some false:aB (Bool))).bind fun h=>some h
theorem mE1 [Inhabited Rc] {k} (d) (a b:YE):OD k (d+2) 137 [.agg (YE.g a),.agg (YE.g b)]=(Yu a b).map bv:=by
 refine oe rfl ?_;refine bz (eN rfl) ?_;refine bz (eN rfl) ?_;refine bz (eN rfl) ?_;refine bz (eN rfl) ?_;refine bz (eN rfl) ?_;refine bz (eN rfl) ?_;refine bo (e:=id) ?_ fun f=>?_;refine io ?_ rfl;refine bo (mB1 d a.Heads b.Heads) fun c=>?_;rfl;refine bo (e:=id) ?_ fun i=>?_;refine io ?_ rfl;refine bo (mC1 d a.Graces b.Graces) fun h=>?_;rfl;refine bo (e:=id) ?_ fun l=>?_;refine io ?_ rfl;refine bo (mD1 d a.Lyrics b.Lyrics) fun j=>?_;rfl;rfl
def Tv (a:YA):aB Int:=
 if(((decide (a.Log<(-1)))||(decide (a.Log>8)))||(decide (a.Dots<0)))||(decide (a.Dots>3))then some 17 else some 0
theorem dZ1 [Inhabited Rc] {k} (d) (a:YA):OD k (d+1) 139 [.agg (YA.g a)]=(Tv a).map i64:=by
 refine oe rfl ?_;refine bz (eU rfl) ?_;refine bz (eU rfl) ?_;refine bz (eU rfl) ?_;refine io rfl rfl
def Yv:aB xK:=
 some (xK.mk 0 2 4 5 7 9 11)
theorem mF1 [Inhabited Rc] {k} (d):OD k (d+1) 192 []=(Yv).map (fun a=>.agg (xK.g a)):=by
 refine oe rfl ?_;rfl
def Tw (b:YH):aB Int:=
 (Yv).bind fun a=>(aT [a.c0,a.c1,a.c2,a.c3,a.c4,a.c5,a.c6] b.Step).bind fun c=>some (aU ((aU ((aU (12*(aU (b.Octave+1))))+c))+b.Alter))
theorem eA1 [Inhabited Rc] {k} (d) (b:YH):OD k (d+2) 144 [.agg (YH.g b)]=(Tw b).map i64:=by
 refine oe rfl ?_;refine bo (mF1 d) fun a=>?_;refine bo (pI .i64 [a.c0,a.c1,a.c2,a.c3,a.c4,a.c5,a.c6] b.Step rfl) fun c=>?_;rfl
def Yw (a:YH):aB Int:=
 if(((((decide (a.Step<0))||(decide (a.Step>6)))||(decide (a.Alter<(-2))))||(decide (a.Alter>2)))||(decide (a.Octave<(-1))))||(decide (a.Octave>9))then some 18 else(Tw a).bind fun b=>if(decide (b<0))||(decide (b>127))then some 18 else some 0
theorem mG1 [Inhabited Rc] {k} (d) (a:YH):OD k (d+3) 143 [.agg (YH.g a)]=(Yw a).map i64:=by
 refine oe rfl ?_;refine bz (eU rfl) ?_;refine bz (eU rfl) ?_;refine bz (eU rfl) ?_;refine bz (eU rfl) ?_;refine bz (eU rfl) ?_;refine io rfl ?_;refine bo (eA1 d a) fun b=>?_;refine bz (eU rfl) ?_;refine io rfl rfl
def F80 (a:YH):aB (Int×Int):=
 (Yw a).bind fun b=>if b !=0 then some (0,b)else(Tw a).bind fun c=>some (c,0)
theorem gO1 [Inhabited Rc] {k} (d) (a:YH):OD k (d+4) 80 [.agg (YH.g a)]=(F80 a).map (fun⟨b,c⟩=>.tup [i64 b,i64 c]):=by
 refine oe rfl ?_;refine bo (mG1 d a) fun e=>?_;refine io rfl ?_;refine bo (eA1 (d+1) a) fun f=>?_;rfl
def Oq (b:YH):aB (Int×Int):=
 (F80 b).bind fun⟨a,c⟩=>if((c !=0)||(decide (a<0)))||(decide (a>127))then some (0,18)else some (a,0)
theorem Tx [Inhabited Rc] {k} (d) (a:YH):OD k (d+5) 189 [.agg (YH.g a)]=(Oq a).map (fun⟨b,c⟩=>.tup [i64 b,i64 c]):=by
 refine oe rfl ?_;refine bo (gO1 d a) fun⟨e,f⟩=>?_;refine bz (eU rfl) ?_;refine bz (eU rfl) ?_;refine io rfl rfl
def Yx (a:YB):aB Int:=
 (Oq a.Pitch).bind fun⟨e,b⟩=>(oG a.Show 2).bind fun c=>(Gj [b,c]).bind fun d=>some d
theorem mH1 [Inhabited Rc] {k} (d) (a:YB):OD k (d+6) 188 [.agg (YB.g a)]=(Yx a).map i64:=by
 refine oe rfl ?_;refine bo (Tx d a.Pitch) fun⟨e,b⟩=>?_;refine bo (lH (d+4) a.Show 2) fun c=>?_;refine bo (Gk (d+4) [b,c]) fun f=>?_;rfl
def Yy (b:aA YB):aB Int:=
 if(b.length:Int)==0 then some 4 else if decide ((b.length:Int)>10)then some 9 else(aR (E:=Int⊕Unit) (fun(⟨h,d⟩:Int×Int)=>if decide (d<(b.length:Int))then(aT b d).bind fun e=>(Yx e).bind fun f=>if f !=0 then some (.inr (.inl f))else(Oq e.Pitch).bind fun⟨a,g⟩=>if decide (a<=h)then some (.inr (.inl 25))else some (.inl (a,(aU (d+1))))else some (.inr (.inr ()))) aY ((-1),0)).bind fun c=>(match c with|.inl x12=>some x12|.inr _=>some 0)
theorem mI1 [Inhabited Rc] {k} (d) (b:aA YB):OD k (d+7) 140 [.is 5 (I YB.g b)]=(Yy b).map i64:=by
 refine oe rfl ?_;refine bz lm ?_;refine io rfl ?_;refine bz lm ?_;refine io rfl ?_;refine bz lm ?_;refine bo (aJ (S:=Int×Int) (enc:=fun⟨e,f⟩=>(Q [(3,i64 e),(17,.is 5 (I YB.g b)),(18,i64 (b.length:Int)),(19,i64 f)] [])) (encE:=(fun|.inl a=>(rq [(2,i64 a)] [])|.inr _=>(xq 1 [] []))) (fun⟨e,f⟩=>?_) aY ((-1),0)) fun c=>?_;refine io ?_ rfl;refine bo rg fun h=>?_;refine bo (mH1 d h) fun l=>?_;refine io rfl ?_;refine bo (Tx (d+1) h.Pitch) fun⟨i,j⟩=>?_;refine io rfl rfl;rcases c with a|_;rfl;rfl
def Yz (a:aA YD):aB Int:=
 if decide ((a.length:Int)>8)then some 9 else(aR (E:=Int⊕Unit) (fun(c:Int)=>if decide (c<(a.length:Int))then(aT a c).bind fun d=>(Oq d.Pitch).bind fun⟨f,e⟩=>if e !=0 then some (.inr (.inl e))else if(decide (d.Log<1))||(decide (d.Log>6))then some (.inr (.inl 2))else some (.inl (aU (c+1)))else some (.inr (.inr ()))) aY 0).bind fun b=>(match b with|.inl x9=>some x9|.inr _=>some 0)
theorem mJ1 [Inhabited Rc] {k} (d) (a:aA YD):OD k (d+6) 141 [.is 5 (I YD.g a)]=(Yz a).map i64:=by
 refine oe rfl ?_;refine bz lm ?_;refine io rfl ?_;refine bz lm ?_;refine bo (aJ (S:=Int) (enc:=fun c=>(Q [(10,.is 5 (I YD.g a)),(11,i64 (a.length:Int)),(12,i64 c)] [])) (encE:=(fun|.inl e=>(rq [(2,i64 e)] [])|.inr _=>(xq 0 [] []))) (fun c=>?_) aY 0) fun b=>?_;refine io ?_ rfl;refine bo rg fun f=>?_;refine bo (Tx d f.Pitch) fun⟨h,i⟩=>?_;refine io rfl ?_;refine bz (eU rfl) ?_;refine io rfl rfl;rcases b with e|_;rfl;rfl
def Za (a:YY):aB Int:=
 if(decide (a.Link<0))||(decide (a.Link>2))then some 2 else if decide ((a.Text.size:Int)>256)then some 5 else(aR (E:=Unit⊕Unit) (fun(b:Int)=>if decide (b<(a.Text.size:Int))then(mZ a.Text b).bind fun c=>((if decide (c<32)then some true else(mZ a.Text b).bind fun d=>some (d==127):aB (Bool))).bind fun e=>if e then some (.inr (.inl ()))else some (.inl (aU (b+1)))else some (.inr (.inr ()))) aY 0).bind fun f=>(match f with|.inl _=>some 6|.inr _=>if(a.Text.toList==(⟨#[]⟩:ByteArray).toList)&&(a.Link==1)then some 3 else some 0)
theorem mK1 [Inhabited Rc] {k} (d) (a:YY):OD k (d+1) 190 [.agg (YY.g a)]=(Za a).map i64:=by
 refine oe rfl ?_;refine bz (eU rfl) ?_;refine io rfl ?_;refine io rfl ?_;refine bo (aJ (S:=Int) (enc:=fun b=>(Q [(1,.ref 0 0),(20,i64 (a.Text.size:Int)),(21,i64 b)] [(0,.box (YY.g a))])) (encE:=(fun|.inl _=>(rq [(1,.ref 0 0),(2,i64 6)] [(0,.box (YY.g a))])|.inr _=>(xq 1 [(1,.ref 0 0)] [(0,.box (YY.g a))]))) (fun b=>?_) aY 0) fun c=>?_;refine io ?_ rfl;refine bo oi fun f=>?_;refine bo (e:=id) ?_ fun i=>?_;refine io rfl ?_;refine bo oi fun h=>?_;rfl;refine io rfl rfl;rcases c with _|_;rfl;refine bz (eN rfl) ?_;refine io rfl rfl
def Zb (a:YY):aB Bool:=
 some (((a.Text==(⟨#[]⟩:ByteArray))&&((a.Link==0)&&true))!=false)
theorem mL1 [Inhabited Rc] {k} (d) (a:YY):OD k (d+1) 191 [.agg (YY.g a)]=(Zb a).map bv:=by
 refine oe rfl ?_;rfl
def Zc (a:aA YY):aB Int:=
 if decide ((a.length:Int)>4)then some 9 else(aR (E:=Int⊕Unit) (fun(d:Int)=>if decide (d<(a.length:Int))then(aT a d).bind fun f=>(Za f).bind fun e=>if e !=0 then some (.inr (.inl e))else some (.inl (aU (d+1)))else some (.inr (.inr ()))) aY 0).bind fun g=>(match g with|.inl x7=>some x7|.inr _=>((if decide ((a.length:Int)>0)then(aT a (aU ((a.length:Int)-1))).bind fun h=>(Zb h).bind fun b=>some b else some false:aB (Bool))).bind fun c=>if c then some 3 else some 0)
theorem mM1 [Inhabited Rc] {k} (d) (a:aA YY):OD k (d+2) 142 [.is 2 (I YY.g a)]=(Zc a).map i64:=by
 refine oe rfl ?_;refine bz lm ?_;refine io rfl ?_;refine bz lm ?_;refine bo (aJ (S:=Int) (enc:=fun b=>(Q [(0,.is 2 (I YY.g a)),(10,.is 2 (I YY.g a)),(11,i64 (a.length:Int)),(12,i64 b)] [])) (encE:=(fun|.inl c=>(rq [(0,.is 2 (I YY.g a)),(2,i64 c)] [])|.inr _=>(xq 0 [(0,.is 2 (I YY.g a))] []))) (fun b=>?_) aY 0) fun j=>?_;refine io ?_ rfl;refine bo rg fun i=>?_;refine bo (mK1 d i) fun m=>?_;refine io rfl rfl;rcases j with c|_;rfl;refine bz lm ?_;refine bo (e:=id) ?_ fun h=>?_;refine io ?_ rfl;refine bo rg fun l=>?_;refine bo (mL1 d l) fun f=>?_;rfl;refine io rfl rfl
def Zd (a:YE):aB Int:=
 (oG a.ID.Site 99).bind fun s=>(oG a.ID.Number 1073741824).bind fun t=>(Gj [s,t]).bind fun r=>if r !=0 then some r else(Tu a.Kind).bind fun u=>if !u then some 11 else(Yp a).bind fun v=>(Yu a v).bind fun w=>if !w then some 3 else((if a.Kind !=3 then(Tv a.Value).bind fun x=>some (x !=0)else some false:aB (Bool))).bind fun y=>if y then some 17 else if a.Kind==1 then(Yy a.Heads).bind fun c=>(Yz a.Graces).bind fun d=>(Zc a.Lyrics).bind fun e=>(Gj [c,d,e]).bind fun b=>if b !=0 then some b else(oG a.Articulations 31).bind fun f=>(oG a.Ornament 4).bind fun g=>(oG a.Dynamic 9).bind fun h=>(oG a.Stem 2).bind fun i=>(oG a.Beam 2).bind fun j=>(Gj [f,g,h,i,j]).bind fun k=>some k else(oG a.Articulations 31).bind fun l=>(oG a.Ornament 4).bind fun m=>(oG a.Dynamic 9).bind fun n=>(oG a.Stem 2).bind fun o=>(oG a.Beam 2).bind fun p=>(Gj [l,m,n,o,p]).bind fun q=>some q
theorem Ot [Inhabited Rc] {k} (d) (a:YE):OD k (d+8) 77 [.agg (YE.g a)]=(Zd a).map i64:=by
 refine oe rfl ?_;refine bo (lH (d+6) a.ID.Site 99) fun u=>?_;refine bo (lH (d+6) a.ID.Number 1073741824) fun w=>?_;refine bo (Gk (d+6) [u,w]) fun y=>?_;refine io rfl ?_;refine bo (dY1 (d+6) a.Kind) fun z=>?_;refine io rfl ?_;refine bo (mA1 (d+5) a) fun x=>?_;refine bo (mE1 (d+5) a x) fun A=>?_;refine io rfl ?_;refine bo (e:=id) ?_ fun C=>?_;refine io ?_ rfl;refine bo (dZ1 (d+6) a.Value) fun B=>?_;rfl;refine io rfl ?_;refine io ?_ ?_;refine bo (mI1 d a.Heads) fun b=>?_;refine bo (mJ1 (d+1) a.Graces) fun c=>?_;refine bo (mM1 (d+5) a.Lyrics) fun f=>?_;refine bo (Gk (d+6) [b,c,f]) fun s=>?_;refine io rfl ?_;refine bo (lH (d+6) a.Articulations 31) fun h=>?_;refine bo (lH (d+6) a.Ornament 4) fun i=>?_;refine bo (lH (d+6) a.Dynamic 9) fun j=>?_;refine bo (lH (d+6) a.Stem 2) fun l=>?_;refine bo (lH (d+6) a.Beam 2) fun m=>?_;refine bo (Gk (d+6) [h,i,j,l,m]) fun t=>?_;rfl;refine bo (lH (d+6) a.Articulations 31) fun n=>?_;refine bo (lH (d+6) a.Ornament 4) fun o=>?_;refine bo (lH (d+6) a.Dynamic 9) fun p=>?_;refine bo (lH (d+6) a.Stem 2) fun q=>?_;refine bo (lH (d+6) a.Beam 2) fun r=>?_;refine bo (Gk (d+6) [n,o,p,q,r]) fun v=>?_;rfl
def Ze (a:YE):aB Bool:=
 (Zd a).bind fun b=>some (b !=0)
theorem mN1 [Inhabited Rc] {k} (d) (a:YE):OD k (d+9) 128 [.agg (YE.g a)]=(Ze a).map bv:=by
 refine oe rfl ?_;refine bo (Ot d a) fun b=>?_;rfl
def Zf (b:aA YE):aB Int:=
 (aR (E:=Int⊕Unit) (fun(a:Int)=>if decide (a<(b.length:Int))then(aT b a).bind fun c=>(Ze c).bind fun d=>if d then some (.inr (.inl a))else some (.inl (aU (a+1)))else some (.inr (.inr ()))) aY 0).bind fun e=>(match e with|.inl x7=>some x7|.inr _=>some (-1))
theorem mO1 [Inhabited Rc] {k} (d) (a:aA YE):OD k (d+10) 183 [.is 13 (I YE.g a),.fn 128 [] []]=(Zf a).map i64:=by
 refine oe rfl ?_;refine bz lm ?_;refine bo (aJ (S:=Int) (enc:=fun b=>(Q [(0,.is 13 (I YE.g a)),(1,.fn 128 [] []),(7,i64 (a.length:Int)),(8,i64 b)] [])) (encE:=(fun|.inl c=>(rq [(4,i64 c)] [])|.inr _=>(xq 0 [] []))) (fun b=>?_) aY 0) fun f=>?_;refine io ?_ rfl;refine bo rg fun e=>?_;refine bo (mN1 d e) fun h=>?_;refine io rfl rfl;rcases f with c|_;rfl;rfl
def Ty (a:aA YE):aB Bool:=
 (Zf a).bind fun b=>some (decide (b>=0))
theorem eB1 [Inhabited Rc] {k} (d) (a:aA YE):OD k (d+11) 132 [.is 13 (I YE.g a),.fn 128 [] []]=(Ty a).map bv:=by
 refine oe rfl ?_;refine bo (mO1 d a) fun b=>?_;rfl
def Zg (a:YO):aB Bool:=
 ((if decide ((a.Events.length:Int)>0)then(aT a.Events 0).bind fun b=>some (b.Kind==3)else some false:aB (Bool))).bind fun c=>some c
theorem mP1 [Inhabited Rc] {k} (d) (a:YO):OD k (d+1) 214 [.agg (YO.g a)]=(Zg a).map bv:=by
 refine oe rfl ?_;refine bz lm ?_;refine bo (e:=id) ?_ fun c=>?_;refine io ?_ rfl;refine bo rg fun b=>?_;rfl;rfl
def Zh (a:YA):aB Int:=
 (rB .i64 3870720 (aU (a.Log+1))).bind fun b=>(aR (E:=Int) (fun(⟨f,c,d⟩:Int×Int×Int)=>if decide (d<a.Dots)then(yH .i64 f 2).bind fun e=>some (.inl (e,(aU (c+e)),(aU (d+1))))else some (.inr c)) aY (b,b,0)).bind fun g=>some g
theorem mQ1 [Inhabited Rc] {k} (d) (a:YA):OD k (d+1) 231 [.agg (YA.g a)]=(Zh a).map i64:=by
 refine oe rfl ?_;refine bo oi fun b=>?_;refine bo (aJ (S:=Int×Int×Int) (enc:=fun⟨c,e,f⟩=>(Q [(3,i64 c),(4,i64 e),(11,i64 a.Dots),(12,i64 f)] [(0,.box (YA.g a))])) (encE:=(fun(h:Int)=>(xq 0 [(4,i64 h)] [(0,.box (YA.g a))]))) (fun⟨c,e,f⟩=>?_) aY (b,b,0)) fun h=>?_;refine io ?_ rfl;refine bo oi fun i=>?_;rfl;rfl
def Zi (a:YA):aB (Int×Int):=
 (Tv a).bind fun b=>if b !=0 then some (0,b)else(Zh a).bind fun c=>some (c,0)
theorem mR1 [Inhabited Rc] {k} (d) (a:YA):OD k (d+2) 225 [.agg (YA.g a)]=(Zi a).map (fun⟨b,c⟩=>.tup [i64 b,i64 c]):=by
 refine oe rfl ?_;refine bo (dZ1 d a) fun e=>?_;refine io rfl ?_;refine bo (mQ1 d a) fun f=>?_;rfl
def Zj (a:YE):aB (Int×Int):=
 (Zd a).bind fun b=>if(b !=0)||(a.Kind==3)then some (0,b)else(Zi a.Value).bind fun⟨c,d⟩=>some (c,d)
theorem mS1 [Inhabited Rc] {k} (d) (a:YE):OD k (d+9) 221 [.agg (YE.g a)]=(Zj a).map (fun⟨b,c⟩=>.tup [i64 b,i64 c]):=by
 refine oe rfl ?_;refine bo (Ot d a) fun e=>?_;refine bz (eU rfl) ?_;refine io rfl ?_;refine bo (mR1 (d+6) a.Value) fun⟨f,h⟩=>?_;rfl
def Ou (b:aA YE):aB (aA Int):=
 (tU (b.length:Int) (b.length:Int) 0).bind fun k=>(aR (E:=aA Int) (fun(⟨c,a⟩:Int×(aA Int))=>if decide (c<(b.length:Int))then(aT b c).bind fun d=>(Zj d).bind fun⟨e,i⟩=>(cE a c).bind fun f=>(kT a f (fun j=>e)).bind fun g=>some (.inl ((aU (c+1)),g))else some (.inr a)) aY (0,k)).bind fun h=>some h
theorem mT1 [Inhabited Rc] {k} (d) (e:aA YE):OD k (d+10) 217 [.is 13 (I YE.g e)]=(Ou e).map (fun r=>.is 1 (I cI r)):=by
 refine oe rfl ?_;refine bz lm ?_;refine bo (jA cI _ _ 0) fun q=>?_;refine bz lm ?_;refine bo (aJ (S:=Int×(aA Int)) (enc:=fun⟨j,a⟩=>(Q [(3,.own 0),(9,.is 13 (I YE.g e)),(10,i64 (e.length:Int)),(11,i64 j)] [(0,.lst 3 1 true (I cI a))])) (encE:=(fun(b:aA Int)=>(xq 0 [(3,.own 0)] [(0,.lst 3 1 true (I cI b))]))) (fun⟨j,a⟩=>?_) aY (0,q)) fun b=>?_;refine io ?_ rfl;refine bo rg fun h=>?_;refine bo (mS1 d h) fun⟨i,l⟩=>?_;refine bo (aW cI a _) fun n=>?_;refine bo (eT (A:=Int) (c:=cI) (m:=1) (f:=fun o=>i) (fun _=>⟨rfl,rfl⟩) (jZ2 rfl) a _) fun p=>?_;rfl;rfl
def Tz (a:Int):aB Bool:=
 some ((decide (a>=1))&&(decide (a<=32)))
theorem eC1 [Inhabited Rc] {k} (d) (a:Int):OD k (d+1) 228 [i64 a]=(Tz a).map bv:=by
 refine oe rfl ?_;refine bz (eN rfl) ?_;rfl
def Zk (a b:YU):aB Int:=
 if a.First !=b.First then if decide (a.First<b.First)then some (-1)else some 1 else if a.Count !=b.Count then if decide (a.Count>b.Count)then some (-1)else some 1 else some 0
theorem mU1 [Inhabited Rc] {k} (d) (a b:YU):OD k (d+1) 229 [.agg (YU.g a),.agg (YU.g b)]=(Zk a b).map i64:=by
 refine oe rfl ?_;refine io ?_ ?_;refine io rfl rfl;refine io ?_ rfl;refine io rfl rfl
def Iz (a:YU):aB Int:=
 some (aU (a.First+a.Count))
theorem Ln [Inhabited Rc] {k} (d) (a:YU):OD k (d+1) 227 [.agg (YU.g a)]=(Iz a).map i64:=by
 refine oe rfl ?_;rfl
def Lo (c:YU) (o:aA YU):aB (Bool×(aA YU)):=
 (aR (E:=aA YU) (fun(b:aA YU)=>((if decide ((b.length:Int)>0)then(cE b (aU ((b.length:Int)-1))).bind fun p=>(cX b p).bind fun d=>(Iz d).bind fun e=>some (decide (e<=c.First))else some false:aB (Bool))).bind fun f=>if f then(xG b (aU ((b.length:Int)-1))).bind fun g=>some (.inl g)else some (.inr b)) aY o).bind fun a=>((if(a.length:Int)==3 then some true else((if decide ((a.length:Int)>0)then(Iz c).bind fun h=>(cE a (aU ((a.length:Int)-1))).bind fun i=>(cX a i).bind fun j=>(Iz j).bind fun k=>some (decide (h>k))else some false:aB (Bool))).bind fun l=>some l:aB (Bool))).bind fun m=>if m then some (false,a)else(jR true a [c]).bind fun n=>some (true,n)
theorem gP1 [Inhabited Rc] {k} (d) (i:YU) (j:aA YU):dC (XD k (d+2)) 226 [.agg (YU.g i),.ref 0 0] [(1,.lst 291 4 true (I YU.g j)),(0,.box [.own 1])] 2 false=(Lo i j).map (fun(⟨l,n⟩:Bool×(aA YU))=>((bv l,[(1,.lst 291 4 true (I YU.g n)),(0,.box [.own 1])],0))):=by
 rw[xd (fn:=kY1) rfl];refine bo (aJ (S:=aA YU) (enc:=fun h=>(Q [(1,.ref 0 0),(2,.ref 2 0)] [(2,.box (YU.g i)),(1,.lst 291 4 true (I YU.g h)),(0,.box [.own 1])])) (encE:=(fun(b:aA YU)=>(xq 0 [(1,.ref 0 0),(2,.ref 2 0)] [(2,.box (YU.g i)),(1,.lst 291 4 true (I YU.g b)),(0,.box [.own 1])]))) (fun h=>?_) aY j) fun b=>?_;refine bz (cJ YU.g h) ?_;refine bo (e:=id) ?_ fun p=>?_;refine io ?_ rfl;refine bz (cJ YU.g h) ?_;refine bo (aW YU.g h _) fun x=>?_;refine bo (bW (A:=YU) (c:=YU.g) (m:=4) (g:=fun a=>[i64 a.First,i64 a.Count,i64 a.Actual,i64 a.Normal]) (fun _=>⟨rfl,rfl⟩) (jZ2 rfl) h _) fun a=>?_;refine bo (Ln d a) fun o=>?_;rfl;refine io ?_ rfl;refine bz (cJ YU.g h) ?_;refine bo (yG YU.g h (aU ((h.length:Int)-1))) fun q=>?_;rfl;refine bz (cJ YU.g b) ?_;refine bo (e:=id) ?_ fun v=>?_;refine io rfl ?_;refine bo (e:=id) ?_ fun u=>?_;refine io ?_ rfl;refine bo (Ln d i) fun r=>?_;refine bo (aW YU.g b _) fun s=>?_;refine bo (bW (A:=YU) (c:=YU.g) (m:=4) (g:=fun f=>[i64 f.First,i64 f.Count,i64 f.Actual,i64 f.Normal]) (fun _=>⟨rfl,rfl⟩) (jZ2 rfl) b _) fun f=>?_;refine bo (Ln d f) fun t=>?_;rfl;rfl;refine io rfl ?_;refine bo (cC true YU.g b [i]) fun w=>?_;rfl
def Zl (e:aA YU) (f:Int):aB Int:=
 if(decide (f<0))||(decide (f>128))then some 2 else if decide ((e.length:Int)>16)then some 9 else(aR (E:=(Int×(aA YU))⊕(aA YU)) (fun(⟨b,c⟩:Int×(aA YU))=>if decide (b<(e.length:Int))then(aT e b).bind fun a=>((if(((decide (a.Count<1))||(decide (a.Count>f)))||(decide (a.First<0)))||(decide (a.First>(aU (f-a.Count))))then some true else(Tz a.Actual).bind fun g=>some (!g):aB (Bool))).bind fun h=>((if h then some true else(Tz a.Normal).bind fun i=>some (!i):aB (Bool))).bind fun j=>if j||(a.Actual==a.Normal)then some (.inr (.inl (2,c)))else((if decide (b>0)then(aT e (aU (b-1))).bind fun k=>(Zk k a).bind fun l=>some (decide (l>0))else some false:aB (Bool))).bind fun m=>if m then some (.inr (.inl (25,c)))else(Lo a c).bind fun⟨n,d⟩=>if !n then some (.inr (.inl (21,d)))else some (.inl ((aU (b+1)),d))else some (.inr (.inr c))) aY (0,[])).bind fun o=>(match o with|.inl ⟨x25,x26⟩=>some x25|.inr x27=>some 0)
theorem mV1 [Inhabited Rc] {k} (d) (c:aA YU) (j:Int):OD k (d+3) 222 [.is 4 (I YU.g c),i64 j]=(Zl c j).map i64:=by
 refine oe rfl ?_;refine bz (eU rfl) ?_;refine io rfl ?_;refine bz lm ?_;refine io rfl ?_;refine bz lm ?_;refine bo (aJ (S:=Int×(aA YU)) (enc:=fun⟨f,b⟩=>(Q [(0,.is 4 (I YU.g c)),(1,i64 j),(6,.fn 226 [] [.ref 0 0]),(19,.is 4 (I YU.g c)),(20,i64 (c.length:Int)),(21,i64 f)] [(1,.lst 291 4 true (I YU.g b)),(0,.box [.own 1])])) (encE:=(fun|.inl ⟨h,i⟩=>(rq [(4,i64 h)] [(1,.lst 291 4 true (I YU.g i)),(0,.box [.own 1])])|.inr x27=>(xq 0 [] [(1,.lst 291 4 true (I YU.g x27)),(0,.box [.own 1])]))) (fun⟨f,b⟩=>?_) aY (0,[])) fun m=>?_;refine io ?_ rfl;refine bo rg fun a=>?_;refine bz (eU rfl) ?_;refine bz (eU rfl) ?_;refine bz (eU rfl) ?_;refine bo (e:=id) ?_ fun o=>?_;refine io rfl ?_;refine bo (eC1 (d+1) a.Actual) fun n=>?_;rfl;refine bo (e:=id) ?_ fun q=>?_;refine io rfl ?_;refine bo (eC1 (d+1) a.Normal) fun p=>?_;rfl;refine bz (eU rfl) ?_;refine io rfl ?_;refine bo (e:=id) ?_ fun s=>?_;refine io ?_ rfl;refine bo rg fun l=>?_;refine bo (mU1 (d+1) l a) fun r=>?_;rfl;refine io rfl ?_;refine bo (gP1 d a b) fun⟨t,u⟩=>?_;refine io rfl rfl;rcases m with⟨h,i⟩|x27;rfl;rfl
def Zm (a:YU) (b:Int):aB Bool:=
 some ((decide (b>=a.First))&&(decide ((aU (b-a.First))<a.Count)))
theorem mW1 [Inhabited Rc] {k} (d) (a:YU) (b:Int):OD k (d+1) 232 [.agg (YU.g a),i64 b]=(Zm a b).map bv:=by
 refine oe rfl ?_;refine bz (eN rfl) ?_;rfl
def Zn (c d:Int):aB Int:=
 (aR (E:=Int) (fun(⟨b,a⟩:Int×Int)=>if decide (a>0)then(Td .i64 b a).bind fun e=>some (.inl (a,e))else some (.inr b)) aY (c,d)).bind fun f=>some f
theorem mX1 [Inhabited Rc] {k} (d) (a b:Int):OD k (d+1) 233 [i64 a,i64 b]=(Zn a b).map i64:=by
 refine oe rfl ?_;refine bo (aJ (S:=Int×Int) (enc:=fun⟨c,e⟩=>(Q [(0,i64 c),(1,i64 e)] [])) (encE:=(fun(f:Int)=>(xq 0 [(0,i64 f)] []))) (fun⟨c,e⟩=>?_) aY (a,b)) fun f=>?_;refine io ?_ rfl;refine bo oi fun g=>?_;rfl;rfl
def Zo (m:aA YU) (n:Int):aB (Int×Int):=
 (aR (E:=Int×Int) (fun(⟨b,c,d⟩:Int×Int×Int)=>if decide (d<(m.length:Int))then(aT m d).bind fun a=>(Zm a n).bind fun f=>((if f then(Zn (aU (b*a.Normal)) (aU (c*a.Actual))).bind fun e=>(yH .i64 (aU (b*a.Normal)) e).bind fun g=>(yH .i64 (aU (c*a.Actual)) e).bind fun h=>some (g,h)else some (b,c):aB (Int×Int))).bind fun⟨i,j⟩=>some (.inl (i,j,(aU (d+1))))else some (.inr (b,c))) aY (1,1,0)).bind fun⟨k,l⟩=>some (k,l)
theorem mY1 [Inhabited Rc] {k} (d) (h:aA YU) (l:Int):OD k (d+2) 230 [.is 4 (I YU.g h),i64 l]=(Zo h l).map (fun⟨s,t⟩=>.tup [i64 s,i64 t]):=by
 refine oe rfl ?_;refine bz lm ?_;refine bo (aJ (S:=Int×Int×Int) (enc:=fun⟨b,c,f⟩=>(Q [(1,i64 l),(4,i64 b),(5,i64 c),(9,.is 4 (I YU.g h)),(10,i64 (h.length:Int)),(11,i64 f)] [])) (encE:=(fun(⟨m,n⟩:Int×Int)=>(xq 0 [(4,i64 m),(5,i64 n)] []))) (fun⟨b,c,f⟩=>?_) aY (1,1,0)) fun⟨m,n⟩=>?_;refine io ?_ rfl;refine bo rg fun a=>?_;refine bo (mW1 d a l) fun o=>?_;refine bo (e:=(fun(⟨i,j⟩:Int×Int)=>(nq [(1,i64 l),(4,i64 i),(5,i64 j),(9,.is 4 (I YU.g h)),(10,i64 (h.length:Int)),(11,i64 f)] [(0,.box (YU.g a))]))) ?_ fun⟨i,j⟩=>?_;refine io ?_ rfl;refine bo (mX1 d (aU (b*a.Normal)) (aU (c*a.Actual))) fun p=>?_;refine bo oi fun q=>?_;refine bo oi fun r=>?_;rfl;rfl;rfl
def Ua (d:aA YU) (e a:Int):aB (Int×Int):=
 if(decide (a<0))||(decide (a>7741440))then some (0,2)else(Zo d e).bind fun⟨b,c⟩=>(Td .i64 (aU (a*b)) c).bind fun f=>if f !=0 then some (0,16)else(yH .i64 (aU (a*b)) c).bind fun g=>some (g,0)
theorem eD1 [Inhabited Rc] {k} (d) (a:aA YU) (b c:Int):OD k (d+3) 223 [.is 4 (I YU.g a),i64 b,i64 c]=(Ua a b c).map (fun⟨e,f⟩=>.tup [i64 e,i64 f]):=by
 refine oe rfl ?_;refine bz (eU rfl) ?_;refine io rfl ?_;refine bo (mY1 d a b) fun⟨h,i⟩=>?_;refine bo oi fun j=>?_;refine io rfl ?_;refine bo oi fun l=>?_;rfl
def Ja (i:aA YU) (c:aA Int):aB ((aA Int)×Int):=
 (Zl i (c.length:Int)).bind fun j=>if j !=0 then some ([],j)else(tU 0 (c.length:Int) 0).bind fun k=>(aR (E:=(Int×(aA Int))⊕(aA Int)) (fun(⟨d,a⟩:Int×(aA Int))=>if decide (d<(c.length:Int))then(aT c d).bind fun e=>(Ua i d e).bind fun⟨f,b⟩=>if b !=0 then some (.inr (.inl (b,a)))else(jR true a [f]).bind fun g=>some (.inl ((aU (d+1)),g))else some (.inr (.inr a))) aY (0,k)).bind fun h=>(match h with|.inl ⟨x15,x16⟩=>some ([],x15)|.inr x17=>some (x17,0))
theorem eE1 [Inhabited Rc] {k} (d) (b:aA YU) (f:aA Int):OD k (d+4) 218 [.is 4 (I YU.g b),.is 1 (I cI f)]=(Ja b f).map (fun⟨p,q⟩=>.tup [.is 1 (I cI p),i64 q]):=by
 refine oe rfl ?_;refine bz lm ?_;refine bo (mV1 d b (f.length:Int)) fun r=>?_;refine io rfl ?_;refine bz lm ?_;refine bo (jA cI _ _ 0) fun o=>?_;refine bz lm ?_;refine bo (aJ (S:=Int×(aA Int)) (enc:=fun⟨l,a⟩=>(Q [(0,.is 4 (I YU.g b)),(7,.own 0),(22,.is 1 (I cI f)),(23,i64 (f.length:Int)),(24,i64 l)] [(0,.lst 3 1 true (I cI a))])) (encE:=(fun|.inl ⟨c,e⟩=>(rq [(4,.is 1 (I cI [])),(5,i64 c),(7,.own 0)] [(0,.lst 3 1 true (I cI e))])|.inr x17=>(xq 0 [(7,.own 0)] [(0,.lst 3 1 true (I cI x17))]))) (fun⟨l,a⟩=>?_) aY (0,o)) fun j=>?_;refine io ?_ rfl;refine bo rg fun h=>?_;refine bo (eD1 d b l h) fun⟨i,m⟩=>?_;refine io rfl ?_;refine bo (cC true cI a [i]) fun n=>?_;rfl;rcases j with⟨c,e⟩|x17;rfl;rfl
def Zp (d:aA YU) (n:Int) (o:aA Int):aB (Int×Bool):=
 (aT d n).bind fun m=>(aR (E:=Int⊕Int) (fun(⟨c,a⟩:Int×Int)=>(Iz m).bind fun e=>if decide (a<e)then(kU d (aU (n+1)) ((d).length)).bind fun f=>(aT o a).bind fun g=>(Ua f a g).bind fun⟨h,i⟩=>if i !=0 then some (.inr (.inl c))else some (.inl ((aU (c+h)),(aU (a+1))))else some (.inr (.inr c))) aY (0,m.First)).bind fun j=>(match j with|.inl x17=>some (0,false)|.inr x18=>(aR (E:=Int⊕Unit) (fun(b:Int)=>if decide (b<=8)then(rB .i64 3870720 (aU (b+1))).bind fun k=>if x18==(aU (m.Actual*k))then some (.inr (.inl b))else some (.inl (aU (b+1)))else some (.inr (.inr ()))) aY (-1)).bind fun l=>(match l with|.inl x23=>some (x23,true)|.inr _=>some (0,false)))
theorem mZ1 [Inhabited Rc] {k} (d) (i:aA YU) (n:Int) (p:aA Int):OD k (d+4) 224 [.is 4 (I YU.g i),i64 n,.is 1 (I cI p)]=(Zp i n p).map (fun⟨u,v⟩=>.tup [i64 u,bv v]):=by
 refine oe rfl ?_;refine bo rg fun a=>?_;refine bo (aJ (S:=Int×Int) (enc:=fun⟨c,b⟩=>(Q [(0,.is 4 (I YU.g i)),(1,i64 n),(2,.is 1 (I cI p)),(8,.ref 0 0),(9,i64 c),(10,i64 b)] [(0,.box (YU.g a))])) (encE:=(fun|.inl e=>(rq [(6,i64 0),(7,bv false),(8,.ref 0 0),(9,i64 e)] [(0,.box (YU.g a))])|.inr x18=>(xq 0 [(8,.ref 0 0),(9,i64 x18)] [(0,.box (YU.g a))]))) (fun⟨c,b⟩=>?_) aY (0,a.First)) fun m=>?_;refine bo (Ln (d+2) a) fun q=>?_;refine io ?_ rfl;refine bo (oO _ _ _) fun j=>?_;refine bo rg fun l=>?_;refine bo (eD1 d j b l) fun⟨r,s⟩=>?_;refine io rfl rfl;rcases m with e|x18;rfl;refine bo (aJ (S:=Int) (enc:=fun f=>(Q [(8,.ref 0 0),(9,i64 x18),(13,i64 f)] [(0,.box (YU.g a))])) (encE:=(fun|.inl h=>(rq [(6,i64 h),(7,bv true)] [(0,.box (YU.g a))])|.inr _=>(xq 2 [] [(0,.box (YU.g a))]))) (fun f=>?_) aY (-1)) fun o=>?_;refine io ?_ rfl;refine bo oi fun t=>?_;refine io rfl rfl;rcases o with h|_;rfl;rfl
def Zq (b:aA YU) (h:aA Int):aB ((aA Int)×Int):=
 (Ja b h).bind fun⟨k,i⟩=>if i !=0 then some ([],i)else(tU 0 (b.length:Int) 0).bind fun j=>(aR (E:=(aA Int)⊕(aA Int)) (fun(⟨g,a⟩:Int×(aA Int))=>if decide (g<(b.length:Int))then(Zp b g h).bind fun⟨c,d⟩=>if !d then some (.inr (.inl a))else(jR true a [c]).bind fun e=>some (.inl ((aU (g+1)),e))else some (.inr (.inr a))) aY (0,j)).bind fun f=>(match f with|.inl x14=>some ([],21)|.inr x15=>some (x15,0))
theorem nA1 [Inhabited Rc] {k} (d) (b:aA YU) (e:aA Int):OD k (d+5) 219 [.is 4 (I YU.g b),.is 1 (I cI e)]=(Zq b e).map (fun⟨n,o⟩=>.tup [.is 1 (I cI n),i64 o]):=by
 refine oe rfl ?_;refine bo (eE1 d b e) fun⟨p,q⟩=>?_;refine io rfl ?_;refine bz lm ?_;refine bo (jA cI _ _ 0) fun m=>?_;refine bz lm ?_;refine bo (aJ (S:=Int×(aA Int)) (enc:=fun⟨i,a⟩=>(Q [(0,.is 4 (I YU.g b)),(1,.is 1 (I cI e)),(8,.own 0),(25,i64 (b.length:Int)),(26,i64 i)] [(0,.lst 3 1 true (I cI a))])) (encE:=(fun|.inl c=>(rq [(4,.is 1 (I cI [])),(5,i64 21),(8,.own 0)] [(0,.lst 3 1 true (I cI c))])|.inr x15=>(xq 0 [(8,.own 0)] [(0,.lst 3 1 true (I cI x15))]))) (fun⟨i,a⟩=>?_) aY (0,m)) fun h=>?_;refine io ?_ rfl;refine bo (mZ1 d b i e) fun⟨f,j⟩=>?_;refine io rfl ?_;refine bo (cC true cI a [f]) fun l=>?_;rfl;rcases h with c|x15;rfl;rfl
def Ov (a:YO):aB ((aA Int)×Int):=
 (aR (E:=Int⊕Unit) (fun(c:Int)=>if decide (c<(a.Events.length:Int))then(aT a.Events c).bind fun f=>(Zd f).bind fun g=>if g !=0 then some (.inr (.inl g))else if(f.Kind==3)&&((decide (c>0))||(decide ((a.Events.length:Int)>1)))then some (.inr (.inl 11))else some (.inl (aU (c+1)))else some (.inr (.inr ()))) aY 0).bind fun j=>(match j with|.inl x7=>some ([],x7)|.inr _=>(Ou a.Events).bind fun h=>(Ja a.Tuplets h).bind fun⟨d,b⟩=>if b !=0 then some ([],b)else(Zq a.Tuplets h).bind fun⟨i,e⟩=>if e !=0 then some ([],21)else some (d,0))
theorem nB1 [Inhabited Rc] {k} (d) (a:YO):OD k (d+11) 215 [.agg (YO.g a)]=(Ov a).map (fun⟨n,o⟩=>.tup [.is 1 (I cI n),i64 o]):=by
 refine oe rfl ?_;refine bz lm ?_;refine bo (aJ (S:=Int) (enc:=fun b=>(Q [(1,.ref 0 0),(13,.is 13 (I YE.g a.Events)),(14,i64 (a.Events.length:Int)),(15,i64 b)] [(0,.box (YO.g a))])) (encE:=(fun|.inl c=>(rq [(1,.ref 0 0),(2,.is 1 (I cI [])),(3,i64 c)] [(0,.box (YO.g a))])|.inr _=>(xq 0 [(1,.ref 0 0)] [(0,.box (YO.g a))]))) (fun b=>?_) aY 0) fun m=>?_;refine io ?_ rfl;refine bo rg fun l=>?_;refine bo (Ot (d+2) l) fun p=>?_;refine io rfl ?_;refine bz (eN (bz (eU (bz lm rfl)) rfl)) ?_;refine io rfl rfl;rcases m with c|_;rfl;refine bo (mT1 d a.Events) fun e=>?_;refine bo (eE1 (d+6) a.Tuplets e) fun⟨f,h⟩=>?_;refine io rfl ?_;refine bo (nA1 (d+5) a.Tuplets e) fun⟨i,j⟩=>?_;refine io rfl rfl
def Ow (a:YO) (b:Int):aB ((aA Int)×Int):=
 if(decide (b<1))||(decide (b>15482880))then some ([],2)else if decide ((a.Events.length:Int)>128)then some ([],9)else(Zg a).bind fun d=>if d&&((a.Events.length:Int)==1)then(aT a.Events 0).bind fun e=>(Zd e).bind fun c=>if c !=0 then some ([],c)else if decide ((a.Tuplets.length:Int)>0)then some ([],21)else some ([b],0)else(Ov a).bind fun⟨f,g⟩=>some (f,g)
theorem nC1 [Inhabited Rc] {k} (d) (a:YO) (b:Int):OD k (d+12) 205 [.agg (YO.g a),i64 b]=(Ow a b).map (fun⟨e,f⟩=>.tup [.is 1 (I cI e),i64 f]):=by
 refine oe rfl ?_;refine bz (eU rfl) ?_;refine io rfl ?_;refine bz lm ?_;refine io rfl ?_;refine bo (mP1 (d+10) a) fun h=>?_;refine bz (eN (bz lm rfl)) ?_;refine io ?_ ?_;refine bo rg fun c=>?_;refine bo (Ot (d+3) c) fun i=>?_;refine io rfl ?_;refine bz lm ?_;refine io rfl rfl;refine bo (nB1 d a) fun⟨j,l⟩=>?_;rfl
def Zr (b:aA Int):aB Int:=
 (aR (E:=Int) (fun(⟨c,a⟩:Int×Int)=>if decide (a<(b.length:Int))then(aT b a).bind fun d=>some (.inl ((aU (c+d)),(aU (a+1))))else some (.inr c)) aY (0,0)).bind fun e=>some e
theorem nD1 [Inhabited Rc] {k} (d) (a:aA Int):OD k (d+1) 206 [.is 1 (I cI a)]=(Zr a).map i64:=by
 refine oe rfl ?_;refine bz lm ?_;refine bo (aJ (S:=Int×Int) (enc:=fun⟨b,c⟩=>(Q [(3,i64 b),(6,.is 1 (I cI a)),(7,i64 (a.length:Int)),(8,i64 c)] [])) (encE:=(fun(e:Int)=>(xq 0 [(3,i64 e)] []))) (fun⟨b,c⟩=>?_) aY (0,0)) fun e=>?_;refine io ?_ rfl;refine bo rg fun f=>?_;rfl;rfl
def Jb (e:YO) (b:Int):aB ((aA Int)×Int):=
 (Ow e b).bind fun⟨a,c⟩=>((if(c==0)&&(decide ((a.length:Int)>0))then(Zr a).bind fun f=>some (f !=b)else some false:aB (Bool))).bind fun g=>((if g then some 20 else some c:aB (Int))).bind fun d=>if d !=0 then some ([],d)else some (a,0)
theorem eF1 [Inhabited Rc] {k} (d) (a:YO) (b:Int):OD k (d+13) 168 [.agg (YO.g a),i64 b]=(Jb a b).map (fun⟨h,i⟩=>.tup [.is 1 (I cI h),i64 i]):=by
 refine oe rfl ?_;refine bo (nC1 d a b) fun⟨c,j⟩=>?_;refine bz (eN (bz lm rfl)) ?_;refine bo (e:=id) ?_ fun m=>?_;refine io ?_ rfl;refine bo (nD1 (d+11) c) fun l=>?_;rfl;refine bo (e:=(fun(f:Int)=>(nq [(6,.is 1 (I cI c)),(7,i64 f)] [(0,.box (YO.g a))]))) ?_ fun f=>?_;refine io rfl rfl;refine io rfl rfl
def Ub (a:YO) (b:Int):aB Int:=
 (Jb a b).bind fun⟨d,c⟩=>some c
theorem eG1 [Inhabited Rc] {k} (d) (a:YO) (b:Int):OD k (d+14) 133 [.agg (YO.g a),i64 b]=(Ub a b).map i64:=by
 refine oe rfl ?_;refine bo (eF1 d a b) fun⟨c,e⟩=>?_;rfl
def F73 (a:Int):aB Bool:=
 some ((a==11)||(a==20))
theorem nF1 [Inhabited Rc] {k} (d) (a:Int):OD k (d+1) 73 [i64 a]=(F73 a).map bv:=by
 refine oe rfl ?_;refine bz (eU rfl) ?_;rfl
def Zs (a:YO) (b:Int):aB Bool:=
 (Ty a.Events).bind fun c=>((if !c then(Ub a b).bind fun d=>(F73 d).bind fun e=>some e else some false:aB (Bool))).bind fun f=>some f
theorem nG1 [Inhabited Rc] {k} (d) (a:YO) (b:Int):OD k (d+15) 131 [.agg (YO.g a),.ip [.fn 128 [] []],.ip [.fn 73 [] []],.ip [i64 b]]=(Zs a b).map bv:=by
 refine oe rfl ?_;refine bo (eB1 (d+3) a.Events) fun f=>?_;refine bo (e:=id) ?_ fun i=>?_;refine io ?_ rfl;refine bo (eG1 d a b) fun c=>?_;refine bo (nF1 (d+13) c) fun h=>?_;rfl;rfl
def Zt (b:aA YO) (c:Int):aB Int:=
 (aR (E:=Int⊕Unit) (fun(a:Int)=>if decide (a<(b.length:Int))then(aT b a).bind fun d=>(Zs d c).bind fun e=>if e then some (.inr (.inl a))else some (.inl (aU (a+1)))else some (.inr (.inr ()))) aY 0).bind fun f=>(match f with|.inl x8=>some x8|.inr _=>some (-1))
theorem nH1 [Inhabited Rc] {k} (d) (a:aA YO) (b:Int):OD k (d+16) 182 [.is 2 (I YO.g a),.fn 131 [] [.ip [.fn 128 [] []],.ip [.fn 73 [] []],.ip [i64 b]]]=(Zt a b).map i64:=by
 refine oe rfl ?_;refine bz lm ?_;refine bo (aJ (S:=Int) (enc:=fun c=>(Q [(0,.is 2 (I YO.g a)),(1,.fn 131 [] [.ip [.fn 128 [] []],.ip [.fn 73 [] []],.ip [i64 b]]),(7,i64 (a.length:Int)),(8,i64 c)] [])) (encE:=(fun|.inl e=>(rq [(4,i64 e)] [])|.inr _=>(xq 0 [] []))) (fun c=>?_) aY 0) fun h=>?_;refine io ?_ rfl;refine bo rg fun f=>?_;refine bo (nG1 d f b) fun i=>?_;refine io rfl rfl;rcases h with e|_;rfl;rfl
def Zu (a:aA YO) (b:Int):aB Bool:=
 (Zt a b).bind fun c=>some (decide (c>=0))
theorem nI1 [Inhabited Rc] {k} (d) (a:aA YO) (b:Int):OD k (d+17) 130 [.is 2 (I YO.g a),.fn 131 [] [.ip [.fn 128 [] []],.ip [.fn 73 [] []],.ip [i64 b]]]=(Zu a b).map bv:=by
 refine oe rfl ?_;refine bo (nH1 d a b) fun c=>?_;rfl
def Zv (a:YW) (b:Int):aB Bool:=
 (Zu a.Voices b).bind fun c=>some c
theorem nJ1 [Inhabited Rc] {k} (d) (a:YW) (b:Int):OD k (d+18) 129 [.agg (YW.g a),.ip [.fn 128 [] []],.ip [.fn 73 [] []],.ip [i64 b]]=(Zv a b).map bv:=by
 refine oe rfl ?_;refine bo (nI1 d a.Voices b) fun c=>?_;rfl
def Zw (b:aA YW) (c:Int):aB Int:=
 (aR (E:=Int⊕Unit) (fun(a:Int)=>if decide (a<(b.length:Int))then(aT b a).bind fun d=>(Zv d c).bind fun e=>if e then some (.inr (.inl a))else some (.inl (aU (a+1)))else some (.inr (.inr ()))) aY 0).bind fun f=>(match f with|.inl x8=>some x8|.inr _=>some (-1))
theorem nK1 [Inhabited Rc] {k} (d) (a:aA YW) (b:Int):OD k (d+19) 179 [.is 2 (I YW.g a),.fn 129 [] [.ip [.fn 128 [] []],.ip [.fn 73 [] []],.ip [i64 b]]]=(Zw a b).map i64:=by
 refine oe rfl ?_;refine bz lm ?_;refine bo (aJ (S:=Int) (enc:=fun c=>(Q [(0,.is 2 (I YW.g a)),(1,.fn 129 [] [.ip [.fn 128 [] []],.ip [.fn 73 [] []],.ip [i64 b]]),(7,i64 (a.length:Int)),(8,i64 c)] [])) (encE:=(fun|.inl e=>(rq [(4,i64 e)] [])|.inr _=>(xq 0 [] []))) (fun c=>?_) aY 0) fun h=>?_;refine io ?_ rfl;refine bo rg fun f=>?_;refine bo (nJ1 d f b) fun i=>?_;refine io rfl rfl;rcases h with e|_;rfl;rfl
def Zx (a:aA YW) (b:Int):aB Bool:=
 (Zw a b).bind fun c=>some (decide (c>=0))
theorem nL1 [Inhabited Rc] {k} (d) (a:aA YW) (b:Int):OD k (d+20) 121 [.is 2 (I YW.g a),.fn 129 [] [.ip [.fn 128 [] []],.ip [.fn 73 [] []],.ip [i64 b]]]=(Zx a b).map bv:=by
 refine oe rfl ?_;refine bo (nK1 d a b) fun c=>?_;rfl
def Zy (e:Int) (a:YM):aB Bool:=
 (Dh a).bind fun⟨b,c⟩=>if c !=0 then some false else(Zx a.Cells b).bind fun d=>some d
theorem nM1 [Inhabited Rc] {k} (d) (b:Int) (a:YM):OD k (d+21) 127 [i64 b,.agg (YM.g a),.ip [.fn 73 [] []]]=(Zy b a).map bv:=by
 refine oe rfl ?_;refine bo (Gi (d+16) a) fun⟨c,e⟩=>?_;refine io rfl ?_;refine bo (nL1 d a.Cells c) fun f=>?_;rfl
def Bu (h:aA YV) (e:Y0) (i:Int):aB (aA YV):=
 (aR (E:=aA YV) (fun(⟨a,f⟩:Int×(aA YV))=>if decide (a<(e.Measures.length:Int))then(aT e.Measures a).bind fun g=>(Zy a g).bind fun b=>(hY b g.ID f e i).bind fun c=>some (.inl ((aU (a+1)),c))else some (.inr f)) aY (0,h)).bind fun d=>some d
theorem Zz [Inhabited Rc] {k} (d) (e:aA YV) (a:Y0) (b:Int):dC (XD k (d+22)) 66 [.ref 1 0,.fn 127 [] [.ref 3 0]] [(3,.box [.fn 73 [] []]),(2,.lst 120 3 false (I YV.g e)),(1,.box (ck a b (.own 2)))] 4 false=(Bu e a b).map (fun(h:aA YV)=>((.tup [],[(3,.box [.fn 73 [] []]),(2,.lst 120 3 false (I YV.g h)),(1,.box (ck a b (.own 2)))],0))):=by
 rw[xd (fn:=Xz) rfl];refine bz lm ?_;refine bo (aJ (S:=Int×(aA YV)) (enc:=fun⟨i,j⟩=>(Q [(0,.ref 1 0),(1,.fn 127 [] [.ref 3 0]),(10,.is 22 (I YM.g a.Measures)),(11,i64 (a.Measures.length:Int)),(12,i64 i)] [(3,.box [.fn 73 [] []]),(2,.lst 120 3 false (I YV.g j)),(1,.box (ck a b (.own 2)))])) (encE:=(fun(c:aA YV)=>(xq 0 [] [(3,.box [.fn 73 [] []]),(2,.lst 120 3 false (I YV.g c)),(1,.box (ck a b (.own 2)))]))) (fun⟨i,j⟩=>?_) aY (0,e)) fun c=>?_;refine io ?_ rfl;refine bo rg fun l=>?_;refine bo (nM1 d i l) fun f=>?_;refine bo (fS (d+20) f l.ID j a b) fun m=>?_;rfl;rfl
def aA1 (a:aA YV) (b:Y0) (c:Int):aB (aA YV):=
 (Bu a b c).bind fun d=>some d
theorem nN1 [Inhabited Rc] {k} (d) (c:aA YV) (a:Y0) (b:Int):dC (XD k (d+23)) 72 [.ref 1 0,.fn 73 [] []] [(2,.lst 120 3 false (I YV.g c)),(1,.box (ck a b (.own 2)))] 3 false=(aA1 c a b).map (fun(e:aA YV)=>((.tup [],[(2,.lst 120 3 false (I YV.g e)),(1,.box (ck a b (.own 2)))],0))):=by
 rw[xd (fn:=p72) rfl];refine bo (Zz d c a b) fun f=>?_;rfl
def aB1 (a:aA YV) (b:Y0) (c:Int):aB (aA YV):=
 (aA1 a b c).bind fun d=>some d
theorem nO1 [Inhabited Rc] {k} (d) (c:aA YV) (a:Y0) (b:Int):dC (XD k (d+24)) 34 [.ref 1 0] [(2,.lst 120 3 false (I YV.g c)),(1,.box (ck a b (.own 2)))] 3 false=(aB1 c a b).map (fun(e:aA YV)=>((.tup [],[(2,.lst 120 3 false (I YV.g e)),(1,.box (ck a b (.own 2)))],0))):=by
 rw[xd (fn:=p34) rfl];refine bo (nN1 d c a b) fun f=>?_;rfl
def F74 (a:Int):aB Bool:=
 ((if a !=0 then(F73 a).bind fun b=>some (!b)else some false:aB (Bool))).bind fun c=>some c
theorem yJ1 [Inhabited Rc] {k} (d) (a:Int):OD k (d+2) 74 [i64 a]=(F74 a).map bv:=by
 refine oe rfl ?_;refine bo (e:=id) ?_ fun c=>?_;refine io ?_ rfl;refine bo (nF1 d a) fun b=>?_;rfl;rfl
def Bv (a:YO) (b:Int):aB Bool:=
 (Ty a.Events).bind fun c=>((if !c then(Ub a b).bind fun d=>(F74 d).bind fun e=>some e else some false:aB (Bool))).bind fun f=>some f
theorem aC1 [Inhabited Rc] {k} (d) (a:YO) (b:Int):OD k (d+15) 131 [.agg (YO.g a),.ip [.fn 128 [] []],.ip [.fn 74 [] []],.ip [i64 b]]=(Bv a b).map bv:=by
 refine oe rfl ?_;refine bo (eB1 (d+3) a.Events) fun f=>?_;refine bo (e:=id) ?_ fun i=>?_;refine io ?_ rfl;refine bo (eG1 d a b) fun c=>?_;refine bo (yJ1 (d+12) c) fun h=>?_;rfl;rfl
def Bw (b:aA YO) (c:Int):aB Int:=
 (aR (E:=Int⊕Unit) (fun(a:Int)=>if decide (a<(b.length:Int))then(aT b a).bind fun d=>(Bv d c).bind fun e=>if e then some (.inr (.inl a))else some (.inl (aU (a+1)))else some (.inr (.inr ()))) aY 0).bind fun f=>(match f with|.inl x8=>some x8|.inr _=>some (-1))
theorem aD1 [Inhabited Rc] {k} (d) (a:aA YO) (b:Int):OD k (d+16) 182 [.is 2 (I YO.g a),.fn 131 [] [.ip [.fn 128 [] []],.ip [.fn 74 [] []],.ip [i64 b]]]=(Bw a b).map i64:=by
 refine oe rfl ?_;refine bz lm ?_;refine bo (aJ (S:=Int) (enc:=fun c=>(Q [(0,.is 2 (I YO.g a)),(1,.fn 131 [] [.ip [.fn 128 [] []],.ip [.fn 74 [] []],.ip [i64 b]]),(7,i64 (a.length:Int)),(8,i64 c)] [])) (encE:=(fun|.inl e=>(rq [(4,i64 e)] [])|.inr _=>(xq 0 [] []))) (fun c=>?_) aY 0) fun h=>?_;refine io ?_ rfl;refine bo rg fun f=>?_;refine bo (aC1 d f b) fun i=>?_;refine io rfl rfl;rcases h with e|_;rfl;rfl
def Bx (a:aA YO) (b:Int):aB Bool:=
 (Bw a b).bind fun c=>some (decide (c>=0))
theorem aE1 [Inhabited Rc] {k} (d) (a:aA YO) (b:Int):OD k (d+17) 130 [.is 2 (I YO.g a),.fn 131 [] [.ip [.fn 128 [] []],.ip [.fn 74 [] []],.ip [i64 b]]]=(Bx a b).map bv:=by
 refine oe rfl ?_;refine bo (aD1 d a b) fun c=>?_;rfl
def Bz (a:YW) (b:Int):aB Bool:=
 (Bx a.Voices b).bind fun c=>some c
theorem aF1 [Inhabited Rc] {k} (d) (a:YW) (b:Int):OD k (d+18) 129 [.agg (YW.g a),.ip [.fn 128 [] []],.ip [.fn 74 [] []],.ip [i64 b]]=(Bz a b).map bv:=by
 refine oe rfl ?_;refine bo (aE1 d a.Voices b) fun c=>?_;rfl
def Ca (b:aA YW) (c:Int):aB Int:=
 (aR (E:=Int⊕Unit) (fun(a:Int)=>if decide (a<(b.length:Int))then(aT b a).bind fun d=>(Bz d c).bind fun e=>if e then some (.inr (.inl a))else some (.inl (aU (a+1)))else some (.inr (.inr ()))) aY 0).bind fun f=>(match f with|.inl x8=>some x8|.inr _=>some (-1))
theorem aG1 [Inhabited Rc] {k} (d) (a:aA YW) (b:Int):OD k (d+19) 179 [.is 2 (I YW.g a),.fn 129 [] [.ip [.fn 128 [] []],.ip [.fn 74 [] []],.ip [i64 b]]]=(Ca a b).map i64:=by
 refine oe rfl ?_;refine bz lm ?_;refine bo (aJ (S:=Int) (enc:=fun c=>(Q [(0,.is 2 (I YW.g a)),(1,.fn 129 [] [.ip [.fn 128 [] []],.ip [.fn 74 [] []],.ip [i64 b]]),(7,i64 (a.length:Int)),(8,i64 c)] [])) (encE:=(fun|.inl e=>(rq [(4,i64 e)] [])|.inr _=>(xq 0 [] []))) (fun c=>?_) aY 0) fun h=>?_;refine io ?_ rfl;refine bo rg fun f=>?_;refine bo (aF1 d f b) fun i=>?_;refine io rfl rfl;rcases h with e|_;rfl;rfl
def Cb (a:aA YW) (b:Int):aB Bool:=
 (Ca a b).bind fun c=>some (decide (c>=0))
theorem aH1 [Inhabited Rc] {k} (d) (a:aA YW) (b:Int):OD k (d+20) 121 [.is 2 (I YW.g a),.fn 129 [] [.ip [.fn 128 [] []],.ip [.fn 74 [] []],.ip [i64 b]]]=(Cb a b).map bv:=by
 refine oe rfl ?_;refine bo (aG1 d a b) fun c=>?_;rfl
def Cc (e:Int) (a:YM):aB Bool:=
 (Dh a).bind fun⟨b,c⟩=>if c !=0 then some false else(Cb a.Cells b).bind fun d=>some d
theorem aI1 [Inhabited Rc] {k} (d) (b:Int) (a:YM):OD k (d+21) 127 [i64 b,.agg (YM.g a),.ip [.fn 74 [] []]]=(Cc b a).map bv:=by
 refine oe rfl ?_;refine bo (Gi (d+16) a) fun⟨c,e⟩=>?_;refine io rfl ?_;refine bo (aH1 d a.Cells c) fun f=>?_;rfl
def Cd (h:aA YV) (e:Y0) (i:Int):aB (aA YV):=
 (aR (E:=aA YV) (fun(⟨a,f⟩:Int×(aA YV))=>if decide (a<(e.Measures.length:Int))then(aT e.Measures a).bind fun g=>(Cc a g).bind fun b=>(hY b g.ID f e i).bind fun c=>some (.inl ((aU (a+1)),c))else some (.inr f)) aY (0,h)).bind fun d=>some d
theorem aJ1 [Inhabited Rc] {k} (d) (e:aA YV) (a:Y0) (b:Int):dC (XD k (d+22)) 66 [.ref 1 0,.fn 127 [] [.ref 3 0]] [(3,.box [.fn 74 [] []]),(2,.lst 120 3 false (I YV.g e)),(1,.box (ck a b (.own 2)))] 4 false=(Cd e a b).map (fun(h:aA YV)=>((.tup [],[(3,.box [.fn 74 [] []]),(2,.lst 120 3 false (I YV.g h)),(1,.box (ck a b (.own 2)))],0))):=by
 rw[xd (fn:=Xz) rfl];refine bz lm ?_;refine bo (aJ (S:=Int×(aA YV)) (enc:=fun⟨i,j⟩=>(Q [(0,.ref 1 0),(1,.fn 127 [] [.ref 3 0]),(10,.is 22 (I YM.g a.Measures)),(11,i64 (a.Measures.length:Int)),(12,i64 i)] [(3,.box [.fn 74 [] []]),(2,.lst 120 3 false (I YV.g j)),(1,.box (ck a b (.own 2)))])) (encE:=(fun(c:aA YV)=>(xq 0 [] [(3,.box [.fn 74 [] []]),(2,.lst 120 3 false (I YV.g c)),(1,.box (ck a b (.own 2)))]))) (fun⟨i,j⟩=>?_) aY (0,e)) fun c=>?_;refine io ?_ rfl;refine bo rg fun l=>?_;refine bo (aI1 d i l) fun f=>?_;refine bo (fS (d+20) f l.ID j a b) fun m=>?_;rfl;rfl
def Ce (a:aA YV) (b:Y0) (c:Int):aB (aA YV):=
 (Cd a b c).bind fun d=>some d
theorem aK1 [Inhabited Rc] {k} (d) (c:aA YV) (a:Y0) (b:Int):dC (XD k (d+23)) 72 [.ref 1 0,.fn 74 [] []] [(2,.lst 120 3 false (I YV.g c)),(1,.box (ck a b (.own 2)))] 3 false=(Ce c a b).map (fun(e:aA YV)=>((.tup [],[(2,.lst 120 3 false (I YV.g e)),(1,.box (ck a b (.own 2)))],0))):=by
 rw[xd (fn:=p72) rfl];refine bo (aJ1 d c a b) fun f=>?_;rfl
def aL1 (a:aA YV) (b:Y0) (c:Int):aB (aA YV):=
 (Ce a b c).bind fun d=>some d
theorem nP1 [Inhabited Rc] {k} (d) (c:aA YV) (a:Y0) (b:Int):dC (XD k (d+24)) 35 [.ref 1 0] [(2,.lst 120 3 false (I YV.g c)),(1,.box (ck a b (.own 2)))] 3 false=(aL1 c a b).map (fun(e:aA YV)=>((.tup [],[(2,.lst 120 3 false (I YV.g e)),(1,.box (ck a b (.own 2)))],0))):=by
 rw[xd (fn:=p35) rfl];refine bo (aK1 d c a b) fun f=>?_;rfl
def F76 (c:YP) (a:YE):aB Bool:=
 (Zd a).bind fun b=>some (b !=0)
theorem yK1 [Inhabited Rc] {k} (d) (b:YP) (a:YE):OD k (d+9) 76 [.agg (YP.g b),.agg (YE.g a)]=(F76 b a).map bv:=by
 refine oe rfl ?_;refine bo (Ot d a) fun c=>?_;rfl
def aM1 (t:aA YV) (s:Y0) (u:Int):aB (aA YV):=
 (aR (E:=aA YV) (fun(⟨b,m⟩:Int×(aA YV))=>if decide (b<(s.Measures.length:Int))then(aT s.Measures b).bind fun n=>(aR (E:=aA YV) (fun(⟨c,o⟩:Int×(aA YV))=>if decide (c<(n.Cells.length:Int))then(aT n.Cells c).bind fun p=>(aR (E:=aA YV) (fun(⟨d,q⟩:Int×(aA YV))=>if decide (d<(p.Voices.length:Int))then(aT p.Voices d).bind fun r=>(aR (E:=aA YV) (fun(⟨a,e⟩:Int×(aA YV))=>if decide (a<(r.Events.length:Int))then(aT r.Events a).bind fun f=>(F76 (YP.mk 4 0 c b d a 0) f).bind fun g=>(hY g f.ID e s u).bind fun h=>some (.inl ((aU (a+1)),h))else some (.inr e)) aY (0,q)).bind fun i=>some (.inl ((aU (d+1)),i))else some (.inr q)) aY (0,o)).bind fun j=>some (.inl ((aU (c+1)),j))else some (.inr o)) aY (0,m)).bind fun k=>some (.inl ((aU (b+1)),k))else some (.inr m)) aY (0,t)).bind fun l=>some l
theorem nQ1 [Inhabited Rc] {k} (d) (x:aA YV) (c:Y0) (i:Int):dC (XD k (d+10)) 75 [.ref 1 0,.fn 76 [] []] [(2,.lst 120 3 false (I YV.g x)),(1,.box (ck c i (.own 2)))] 3 false=(aM1 x c i).map (fun(w:aA YV)=>((.tup [],[(2,.lst 120 3 false (I YV.g w)),(1,.box (ck c i (.own 2)))],0))):=by
 rw[xd (fn:=p75) rfl];refine bz lm ?_;refine bo (aJ (S:=Int×(aA YV)) (enc:=fun⟨b,s⟩=>(Q [(0,.ref 1 0),(1,.fn 76 [] []),(16,.is 22 (I YM.g c.Measures)),(17,i64 (c.Measures.length:Int)),(18,i64 b)] [(2,.lst 120 3 false (I YV.g s)),(1,.box (ck c i (.own 2)))])) (encE:=(fun(r:aA YV)=>(xq 0 [] [(2,.lst 120 3 false (I YV.g r)),(1,.box (ck c i (.own 2)))]))) (fun⟨b,s⟩=>?_) aY (0,x)) fun r=>?_;refine io ?_ rfl;refine bo rg fun a=>?_;refine bz lm ?_;refine bo (aJ (S:=Int×(aA YV)) (enc:=fun⟨e,t⟩=>(Q [(0,.ref 1 0),(1,.fn 76 [] []),(4,i64 b),(16,.is 22 (I YM.g c.Measures)),(17,i64 (c.Measures.length:Int)),(18,i64 b),(24,.is 2 (I YW.g a.Cells)),(25,i64 (a.Cells.length:Int)),(26,i64 e)] [(3,.box (YM.g a)),(2,.lst 120 3 false (I YV.g t)),(1,.box (ck c i (.own 2)))])) (encE:=(fun(q:aA YV)=>(xq 2 [(0,.ref 1 0),(1,.fn 76 [] []),(16,.is 22 (I YM.g c.Measures)),(17,i64 (c.Measures.length:Int)),(18,i64 b)] [(3,.box (YM.g a)),(2,.lst 120 3 false (I YV.g q)),(1,.box (ck c i (.own 2)))]))) (fun⟨e,t⟩=>?_) aY (0,s)) fun q=>?_;refine io ?_ rfl;refine bo rg fun f=>?_;refine bz lm ?_;refine bo (aJ (S:=Int×(aA YV)) (enc:=fun⟨h,u⟩=>(Q [(0,.ref 1 0),(1,.fn 76 [] []),(4,i64 b),(6,i64 e),(16,.is 22 (I YM.g c.Measures)),(17,i64 (c.Measures.length:Int)),(18,i64 b),(24,.is 2 (I YW.g a.Cells)),(25,i64 (a.Cells.length:Int)),(26,i64 e),(32,.is 2 (I YO.g f.Voices)),(33,i64 (f.Voices.length:Int)),(34,i64 h)] [(4,.box (YW.g f)),(3,.box (YM.g a)),(2,.lst 120 3 false (I YV.g u)),(1,.box (ck c i (.own 2)))])) (encE:=(fun(p:aA YV)=>(xq 4 [(0,.ref 1 0),(1,.fn 76 [] []),(4,i64 b),(16,.is 22 (I YM.g c.Measures)),(17,i64 (c.Measures.length:Int)),(18,i64 b),(24,.is 2 (I YW.g a.Cells)),(25,i64 (a.Cells.length:Int)),(26,i64 e)] [(4,.box (YW.g f)),(3,.box (YM.g a)),(2,.lst 120 3 false (I YV.g p)),(1,.box (ck c i (.own 2)))]))) (fun⟨h,u⟩=>?_) aY (0,t)) fun p=>?_;refine io ?_ rfl;refine bo rg fun m=>?_;refine bz lm ?_;refine bo (aJ (S:=Int×(aA YV)) (enc:=fun⟨j,l⟩=>(Q [(0,.ref 1 0),(1,.fn 76 [] []),(4,i64 b),(6,i64 e),(8,i64 h),(16,.is 22 (I YM.g c.Measures)),(17,i64 (c.Measures.length:Int)),(18,i64 b),(24,.is 2 (I YW.g a.Cells)),(25,i64 (a.Cells.length:Int)),(26,i64 e),(32,.is 2 (I YO.g f.Voices)),(33,i64 (f.Voices.length:Int)),(34,i64 h),(40,.is 13 (I YE.g m.Events)),(41,i64 (m.Events.length:Int)),(42,i64 j)] [(5,.box (YO.g m)),(4,.box (YW.g f)),(3,.box (YM.g a)),(2,.lst 120 3 false (I YV.g l)),(1,.box (ck c i (.own 2)))])) (encE:=(fun(o:aA YV)=>(xq 6 [(0,.ref 1 0),(1,.fn 76 [] []),(4,i64 b),(6,i64 e),(16,.is 22 (I YM.g c.Measures)),(17,i64 (c.Measures.length:Int)),(18,i64 b),(24,.is 2 (I YW.g a.Cells)),(25,i64 (a.Cells.length:Int)),(26,i64 e),(32,.is 2 (I YO.g f.Voices)),(33,i64 (f.Voices.length:Int)),(34,i64 h)] [(5,.box (YO.g m)),(4,.box (YW.g f)),(3,.box (YM.g a)),(2,.lst 120 3 false (I YV.g o)),(1,.box (ck c i (.own 2)))]))) (fun⟨j,l⟩=>?_) aY (0,u)) fun o=>?_;refine io ?_ rfl;refine bo rg fun n=>?_;refine bo (yK1 d (YP.mk 4 0 e b h j 0) n) fun v=>?_;refine bo (fS (d+8) v n.ID l c i) fun y=>?_;rfl;rfl;rfl;rfl;rfl
end Go.P
namespace Go.P
open Go.Sim (Ex dQ CK)
open K (I Q rq nq xq ck)
def aN1 (a:aA YV) (b:Y0) (c:Int):aB (aA YV):=
 (aM1 a b c).bind fun d=>some d
theorem nR1 [Inhabited Rc] {k} (d) (c:aA YV) (a:Y0) (b:Int):dC (XD k (d+11)) 36 [.ref 1 0] [(2,.lst 120 3 false (I YV.g c)),(1,.box (ck a b (.own 2)))] 3 false=(aN1 c a b).map (fun(e:aA YV)=>((.tup [],[(2,.lst 120 3 false (I YV.g e)),(1,.box (ck a b (.own 2)))],0))):=by
 rw[xd (fn:=p36) rfl];refine bo (nQ1 d c a b) fun f=>?_;rfl
def F21 (c:Y0) (d:Int):aB (Int×Int×Int):=
 if decide (d<0)then some (0,0,2)else(aR (E:=(Int×Int)⊕Unit) (fun(⟨b,a⟩:Int×Int)=>if decide (a<(c.Parts.length:Int))then(aT c.Parts a).bind fun e=>if decide (b<(e.Staves.length:Int))then some (.inr (.inl (a,b)))else some (.inl ((aU (b-(e.Staves.length:Int))),(aU (a+1))))else some (.inr (.inr ()))) aY (d,0)).bind fun f=>(match f with|.inl ⟨x7,x8⟩=>some (x7,x8,0)|.inr _=>some (0,0,2))
theorem nS1 [Inhabited Rc] {k} (d) (a:Y0) (b:Int):OD k (d+1) 21 [.agg (Y0.g a),i64 b]=(F21 a b).map (fun⟨j,l,m⟩=>.tup [i64 j,i64 l,i64 m]):=by
 refine oe rfl ?_;refine io rfl ?_;refine bz lm ?_;refine bo (aJ (S:=Int×Int) (enc:=fun⟨c,e⟩=>(Q [(1,i64 c),(12,.is 6 (I YJ.g a.Parts)),(13,i64 (a.Parts.length:Int)),(14,i64 e)] [(0,.box (Y0.g a))])) (encE:=(fun|.inl ⟨f,h⟩=>(rq [(4,i64 f),(5,i64 h),(6,i64 0)] [(0,.box (Y0.g a))])|.inr _=>(xq 0 [] [(0,.box (Y0.g a))]))) (fun⟨c,e⟩=>?_) aY (b,0)) fun i=>?_;refine io ?_ rfl;refine bo rg fun n=>?_;refine bz lm ?_;refine io rfl ?_;refine bz lm ?_;rfl;rcases i with⟨f,h⟩|_;rfl;rfl
def F79 (a:YH) (b:Int):aB Bool:=
 (F80 a).bind fun⟨c,e⟩=>(yJ (aU (c+b)) 0 127).bind fun d=>some (!d)
theorem nU1 [Inhabited Rc] {k} (d) (a:YH) (b:Int):OD k (d+5) 79 [.agg (YH.g a),.ip [i64 b]]=(F79 a b).map bv:=by
 refine oe rfl ?_;refine bo (gO1 d a) fun⟨c,e⟩=>?_;refine bo (nK (d+3) (aU (c+b)) 0 127) fun f=>?_;rfl
def F82 (a:YB) (b:Int):aB Bool:=
 (F79 a.Pitch b).bind fun c=>some c
theorem yL1 [Inhabited Rc] {k} (d) (a:YB) (b:Int):OD k (d+6) 82 [.agg (YB.g a),.ip [.fn 79 [] [.ip [i64 b]]]]=(F82 a b).map bv:=by
 refine oe rfl ?_;refine bo (nU1 d a.Pitch b) fun c=>?_;rfl
def aO1 (b:aA YB) (c:Int):aB Int:=
 (aR (E:=Int⊕Unit) (fun(a:Int)=>if decide (a<(b.length:Int))then(aT b a).bind fun d=>(F82 d c).bind fun e=>if e then some (.inr (.inl a))else some (.inl (aU (a+1)))else some (.inr (.inr ()))) aY 0).bind fun f=>(match f with|.inl x8=>some x8|.inr _=>some (-1))
theorem nV1 [Inhabited Rc] {k} (d) (a:aA YB) (b:Int):OD k (d+7) 145 [.is 5 (I YB.g a),.fn 82 [] [.ip [.fn 79 [] [.ip [i64 b]]]]]=(aO1 a b).map i64:=by
 refine oe rfl ?_;refine bz lm ?_;refine bo (aJ (S:=Int) (enc:=fun c=>(Q [(0,.is 5 (I YB.g a)),(1,.fn 82 [] [.ip [.fn 79 [] [.ip [i64 b]]]]),(7,i64 (a.length:Int)),(8,i64 c)] [])) (encE:=(fun|.inl e=>(rq [(4,i64 e)] [])|.inr _=>(xq 0 [] []))) (fun c=>?_) aY 0) fun h=>?_;refine io ?_ rfl;refine bo rg fun f=>?_;refine bo (yL1 d f b) fun i=>?_;refine io rfl rfl;rcases h with e|_;rfl;rfl
def F81 (a:aA YB) (b:Int):aB Bool:=
 (aO1 a b).bind fun c=>some (decide (c>=0))
theorem yM1 [Inhabited Rc] {k} (d) (a:aA YB) (b:Int):OD k (d+8) 81 [.is 5 (I YB.g a),.fn 82 [] [.ip [.fn 79 [] [.ip [i64 b]]]]]=(F81 a b).map bv:=by
 refine oe rfl ?_;refine bo (nV1 d a b) fun c=>?_;rfl
def F84 (a:YD) (b:Int):aB Bool:=
 (F79 a.Pitch b).bind fun c=>some c
theorem yN1 [Inhabited Rc] {k} (d) (a:YD) (b:Int):OD k (d+6) 84 [.agg (YD.g a),.ip [.fn 79 [] [.ip [i64 b]]]]=(F84 a b).map bv:=by
 refine oe rfl ?_;refine bo (nU1 d a.Pitch b) fun c=>?_;rfl
def aP1 (b:aA YD) (c:Int):aB Int:=
 (aR (E:=Int⊕Unit) (fun(a:Int)=>if decide (a<(b.length:Int))then(aT b a).bind fun d=>(F84 d c).bind fun e=>if e then some (.inr (.inl a))else some (.inl (aU (a+1)))else some (.inr (.inr ()))) aY 0).bind fun f=>(match f with|.inl x8=>some x8|.inr _=>some (-1))
theorem nW1 [Inhabited Rc] {k} (d) (a:aA YD) (b:Int):OD k (d+7) 146 [.is 5 (I YD.g a),.fn 84 [] [.ip [.fn 79 [] [.ip [i64 b]]]]]=(aP1 a b).map i64:=by
 refine oe rfl ?_;refine bz lm ?_;refine bo (aJ (S:=Int) (enc:=fun c=>(Q [(0,.is 5 (I YD.g a)),(1,.fn 84 [] [.ip [.fn 79 [] [.ip [i64 b]]]]),(7,i64 (a.length:Int)),(8,i64 c)] [])) (encE:=(fun|.inl e=>(rq [(4,i64 e)] [])|.inr _=>(xq 0 [] []))) (fun c=>?_) aY 0) fun h=>?_;refine io ?_ rfl;refine bo rg fun f=>?_;refine bo (yN1 d f b) fun i=>?_;refine io rfl rfl;rcases h with e|_;rfl;rfl
def F83 (a:aA YD) (b:Int):aB Bool:=
 (aP1 a b).bind fun c=>some (decide (c>=0))
theorem yO1 [Inhabited Rc] {k} (d) (a:aA YD) (b:Int):OD k (d+8) 83 [.is 5 (I YD.g a),.fn 84 [] [.ip [.fn 79 [] [.ip [i64 b]]]]]=(F83 a b).map bv:=by
 refine oe rfl ?_;refine bo (nW1 d a b) fun c=>?_;rfl
def F78 (h:YP) (e:YE) (f:YK):aB Bool:=
 (Zd e).bind fun i=>if i !=0 then some false else(F21 f.s' h.Staff).bind fun⟨j,m,k⟩=>((if k==0 then(aT f.s'.Parts j).bind fun l=>some l.Transpose.Semitones else some 0:aB (Int))).bind fun g=>((if f.s'.Written then some (aU (0-g))else some g:aB (Int))).bind fun a=>(F81 e.Heads a).bind fun b=>((if b then some true else(F83 e.Graces a).bind fun c=>some c:aB (Bool))).bind fun d=>some d
theorem yP1 [Inhabited Rc] {k} (d) (c:YP) (b:YE) (f:YK):OD k (d+9) 78 [.agg (YP.g c),.agg (YE.g b),.ip [.ip (YK.g f)]]=(F78 c b f).map bv:=by
 refine oe rfl ?_;refine bo (Ot d b) fun m=>?_;refine io rfl ?_;refine bo (nS1 (d+7) f.s' c.Staff) fun⟨n,o,p⟩=>?_;refine bo (e:=(fun(h:Int)=>(nq [(2,.ip [.ip (YK.g f)]),(4,.ref 1 0),(6,.ref 2 0)] [(2,.box [i64 h]),(1,.box (YE.g b)),(0,.box (YP.g c))]))) ?_ fun h=>?_;refine io ?_ rfl;refine bo rg fun q=>?_;rfl;refine bo (e:=(fun(a:Int)=>(nq [(4,.ref 1 0),(6,.ref 2 0)] [(2,.box [i64 a]),(1,.box (YE.g b)),(0,.box (YP.g c))]))) ?_ fun a=>?_;refine io rfl rfl;refine bo (yM1 d b.Heads a) fun i=>?_;refine bo (e:=id) ?_ fun l=>?_;refine io rfl ?_;refine bo (yO1 d b.Graces a) fun j=>?_;rfl;rfl
def Cf (u:aA YV) (s:Y0) (t:Int):aB (aA YV):=
 (aR (E:=aA YV) (fun(⟨c,m⟩:Int×(aA YV))=>if decide (c<(s.Measures.length:Int))then(aT s.Measures c).bind fun n=>(aR (E:=aA YV) (fun(⟨d,o⟩:Int×(aA YV))=>if decide (d<(n.Cells.length:Int))then(aT n.Cells d).bind fun p=>(aR (E:=aA YV) (fun(⟨e,q⟩:Int×(aA YV))=>if decide (e<(p.Voices.length:Int))then(aT p.Voices e).bind fun r=>(aR (E:=aA YV) (fun(⟨a,b⟩:Int×(aA YV))=>if decide (a<(r.Events.length:Int))then(aT r.Events a).bind fun f=>(F78 (YP.mk 4 0 d c e a 0) f (YK.mk s t b)).bind fun g=>(hY g f.ID b s t).bind fun h=>some (.inl ((aU (a+1)),h))else some (.inr b)) aY (0,q)).bind fun i=>some (.inl ((aU (e+1)),i))else some (.inr q)) aY (0,o)).bind fun j=>some (.inl ((aU (d+1)),j))else some (.inr o)) aY (0,m)).bind fun k=>some (.inl ((aU (c+1)),k))else some (.inr m)) aY (0,u)).bind fun l=>some l
theorem aQ1 [Inhabited Rc] {k} (d) (x:aA YV) (c:Y0) (i:Int):dC (XD k (d+10)) 75 [.ref 1 0,.fn 78 [] [.ref 3 0]] [(3,.box [.ref 1 0]),(2,.lst 120 3 false (I YV.g x)),(1,.box (ck c i (.own 2)))] 4 false=(Cf x c i).map (fun(w:aA YV)=>((.tup [],[(3,.box [.ref 1 0]),(2,.lst 120 3 false (I YV.g w)),(1,.box (ck c i (.own 2)))],0))):=by
 rw[xd (fn:=p75) rfl];refine bz lm ?_;refine bo (aJ (S:=Int×(aA YV)) (enc:=fun⟨b,s⟩=>(Q [(0,.ref 1 0),(1,.fn 78 [] [.ref 3 0]),(16,.is 22 (I YM.g c.Measures)),(17,i64 (c.Measures.length:Int)),(18,i64 b)] [(3,.box [.ref 1 0]),(2,.lst 120 3 false (I YV.g s)),(1,.box (ck c i (.own 2)))])) (encE:=(fun(r:aA YV)=>(xq 0 [] [(3,.box [.ref 1 0]),(2,.lst 120 3 false (I YV.g r)),(1,.box (ck c i (.own 2)))]))) (fun⟨b,s⟩=>?_) aY (0,x)) fun r=>?_;refine io ?_ rfl;refine bo rg fun a=>?_;refine bz lm ?_;refine bo (aJ (S:=Int×(aA YV)) (enc:=fun⟨e,t⟩=>(Q [(0,.ref 1 0),(1,.fn 78 [] [.ref 3 0]),(4,i64 b),(16,.is 22 (I YM.g c.Measures)),(17,i64 (c.Measures.length:Int)),(18,i64 b),(24,.is 2 (I YW.g a.Cells)),(25,i64 (a.Cells.length:Int)),(26,i64 e)] [(4,.box (YM.g a)),(3,.box [.ref 1 0]),(2,.lst 120 3 false (I YV.g t)),(1,.box (ck c i (.own 2)))])) (encE:=(fun(q:aA YV)=>(xq 2 [(0,.ref 1 0),(1,.fn 78 [] [.ref 3 0]),(16,.is 22 (I YM.g c.Measures)),(17,i64 (c.Measures.length:Int)),(18,i64 b)] [(4,.box (YM.g a)),(3,.box [.ref 1 0]),(2,.lst 120 3 false (I YV.g q)),(1,.box (ck c i (.own 2)))]))) (fun⟨e,t⟩=>?_) aY (0,s)) fun q=>?_;refine io ?_ rfl;refine bo rg fun f=>?_;refine bz lm ?_;refine bo (aJ (S:=Int×(aA YV)) (enc:=fun⟨j,u⟩=>(Q [(0,.ref 1 0),(1,.fn 78 [] [.ref 3 0]),(4,i64 b),(6,i64 e),(16,.is 22 (I YM.g c.Measures)),(17,i64 (c.Measures.length:Int)),(18,i64 b),(24,.is 2 (I YW.g a.Cells)),(25,i64 (a.Cells.length:Int)),(26,i64 e),(32,.is 2 (I YO.g f.Voices)),(33,i64 (f.Voices.length:Int)),(34,i64 j)] [(5,.box (YW.g f)),(4,.box (YM.g a)),(3,.box [.ref 1 0]),(2,.lst 120 3 false (I YV.g u)),(1,.box (ck c i (.own 2)))])) (encE:=(fun(p:aA YV)=>(xq 4 [(0,.ref 1 0),(1,.fn 78 [] [.ref 3 0]),(4,i64 b),(16,.is 22 (I YM.g c.Measures)),(17,i64 (c.Measures.length:Int)),(18,i64 b),(24,.is 2 (I YW.g a.Cells)),(25,i64 (a.Cells.length:Int)),(26,i64 e)] [(5,.box (YW.g f)),(4,.box (YM.g a)),(3,.box [.ref 1 0]),(2,.lst 120 3 false (I YV.g p)),(1,.box (ck c i (.own 2)))]))) (fun⟨j,u⟩=>?_) aY (0,t)) fun p=>?_;refine io ?_ rfl;refine bo rg fun m=>?_;refine bz lm ?_;refine bo (aJ (S:=Int×(aA YV)) (enc:=fun⟨l,h⟩=>(Q [(0,.ref 1 0),(1,.fn 78 [] [.ref 3 0]),(4,i64 b),(6,i64 e),(8,i64 j),(16,.is 22 (I YM.g c.Measures)),(17,i64 (c.Measures.length:Int)),(18,i64 b),(24,.is 2 (I YW.g a.Cells)),(25,i64 (a.Cells.length:Int)),(26,i64 e),(32,.is 2 (I YO.g f.Voices)),(33,i64 (f.Voices.length:Int)),(34,i64 j),(40,.is 13 (I YE.g m.Events)),(41,i64 (m.Events.length:Int)),(42,i64 l)] [(6,.box (YO.g m)),(5,.box (YW.g f)),(4,.box (YM.g a)),(3,.box [.ref 1 0]),(2,.lst 120 3 false (I YV.g h)),(1,.box (ck c i (.own 2)))])) (encE:=(fun(o:aA YV)=>(xq 6 [(0,.ref 1 0),(1,.fn 78 [] [.ref 3 0]),(4,i64 b),(6,i64 e),(16,.is 22 (I YM.g c.Measures)),(17,i64 (c.Measures.length:Int)),(18,i64 b),(24,.is 2 (I YW.g a.Cells)),(25,i64 (a.Cells.length:Int)),(26,i64 e),(32,.is 2 (I YO.g f.Voices)),(33,i64 (f.Voices.length:Int)),(34,i64 j)] [(6,.box (YO.g m)),(5,.box (YW.g f)),(4,.box (YM.g a)),(3,.box [.ref 1 0]),(2,.lst 120 3 false (I YV.g o)),(1,.box (ck c i (.own 2)))]))) (fun⟨l,h⟩=>?_) aY (0,u)) fun o=>?_;refine io ?_ rfl;refine bo rg fun n=>?_;refine bo (yP1 d (YP.mk 4 0 e b j l 0) n (YK.mk c i h)) fun v=>?_;refine bo (fS (d+8) v n.ID h c i) fun y=>?_;rfl;rfl;rfl;rfl;rfl
def aR1 (a:aA YV) (b:Y0) (c:Int):aB (aA YV):=
 (Cf a b c).bind fun d=>some d
theorem nX1 [Inhabited Rc] {k} (d) (c:aA YV) (a:Y0) (b:Int):dC (XD k (d+11)) 37 [.ref 1 0] [(2,.lst 120 3 false (I YV.g c)),(1,.box (ck a b (.own 2)))] 3 false=(aR1 c a b).map (fun(e:aA YV)=>((.tup [],[(2,.lst 120 3 false (I YV.g e)),(1,.box (ck a b (.own 2)))],0))):=by
 rw[xd (fn:=p37) rfl];refine bo (aQ1 d c a b) fun f=>?_;rfl
def aS1 (a:YB):aB Bool:=
 some a.Tied
theorem nY1 [Inhabited Rc] {k} (d) (a:YB):OD k (d+1) 147 [.agg (YB.g a)]=(aS1 a).map bv:=by
 refine oe rfl ?_;rfl
def Cg (b:aA YB):aB Int:=
 (aR (E:=Int⊕Unit) (fun(a:Int)=>if decide (a<(b.length:Int))then(aT b a).bind fun c=>(aS1 c).bind fun d=>if d then some (.inr (.inl a))else some (.inl (aU (a+1)))else some (.inr (.inr ()))) aY 0).bind fun e=>(match e with|.inl x7=>some x7|.inr _=>some (-1))
theorem aT1 [Inhabited Rc] {k} (d) (a:aA YB):OD k (d+2) 145 [.is 5 (I YB.g a),.fn 147 [] []]=(Cg a).map i64:=by
 refine oe rfl ?_;refine bz lm ?_;refine bo (aJ (S:=Int) (enc:=fun b=>(Q [(0,.is 5 (I YB.g a)),(1,.fn 147 [] []),(7,i64 (a.length:Int)),(8,i64 b)] [])) (encE:=(fun|.inl c=>(rq [(4,i64 c)] [])|.inr _=>(xq 0 [] []))) (fun b=>?_) aY 0) fun f=>?_;refine io ?_ rfl;refine bo rg fun e=>?_;refine bo (nY1 d e) fun h=>?_;refine io rfl rfl;rcases f with c|_;rfl;rfl
def Lp (a:aA YB):aB Bool:=
 (Cg a).bind fun b=>some (decide (b>=0))
theorem gR1 [Inhabited Rc] {k} (d) (a:aA YB):OD k (d+3) 81 [.is 5 (I YB.g a),.fn 147 [] []]=(Lp a).map bv:=by
 refine oe rfl ?_;refine bo (aT1 d a) fun b=>?_;rfl
def F86 (a:YE):aB Bool:=
 ((if a.Kind==1 then(Lp a.Heads).bind fun b=>some b else some false:aB (Bool))).bind fun c=>some c
theorem oA1 [Inhabited Rc] {k} (d) (a:YE):OD k (d+4) 86 [.agg (YE.g a)]=(F86 a).map bv:=by
 refine oe rfl ?_;refine bo (e:=id) ?_ fun c=>?_;refine io ?_ rfl;refine bo (gR1 d a.Heads) fun b=>?_;rfl;rfl
def Ch (b:Y0) (a c g:Int):aB (aA YE):=
 ((if((decide (a<0))||(decide (a>=(b.Measures.length:Int))))||(decide (c<0))then some true else(aT b.Measures a).bind fun h=>some (decide (c>=(h.Cells.length:Int))):aB (Bool))).bind fun i=>((if i||(decide (g<0))then some true else(aT b.Measures a).bind fun j=>(aT j.Cells c).bind fun k=>some (decide (g>=(k.Voices.length:Int))):aB (Bool))).bind fun l=>if l then some []else(aT b.Measures a).bind fun d=>(aT d.Cells c).bind fun e=>(aT e.Voices g).bind fun f=>some f.Events
theorem Lq [Inhabited Rc] {k} (d) (a:Y0) (b c f:Int):OD k (d+1) 149 [.agg (Y0.g a),i64 b,i64 c,i64 f]=(Ch a b c f).map (fun l=>.is 13 (I YE.g l)):=by
 refine oe rfl ?_;refine bz (eU (bz lm rfl)) ?_;refine bz (eU rfl) ?_;refine bo (e:=id) ?_ fun n=>?_;refine io rfl ?_;refine bo rg fun m=>?_;refine bz lm ?_;rfl;refine bz (eU rfl) ?_;refine bo (e:=id) ?_ fun q=>?_;refine io rfl ?_;refine bo rg fun o=>?_;refine bo rg fun p=>?_;refine bz lm ?_;rfl;refine io rfl ?_;refine bo rg fun h=>?_;refine bo rg fun i=>?_;refine bo rg fun j=>?_;rfl
def Uc (b:Y0) (a:YP):aB Int:=
 if a.Kind !=4 then some 11 else((if decide (a.Event<0)then some true else(Ch b a.Measure a.Staff a.Voice).bind fun c=>some (decide (a.Event>=(c.length:Int))):aB (Bool))).bind fun d=>if d then some 2 else some 0
theorem eH1 [Inhabited Rc] {k} (d) (b:Y0) (a:YP):OD k (d+2) 148 [.agg (Y0.g b),.agg (YP.g a)]=(Uc b a).map i64:=by
 refine oe rfl ?_;refine io rfl ?_;refine bo (e:=id) ?_ fun f=>?_;refine io rfl ?_;refine bo (Lq d b a.Measure a.Staff a.Voice) fun c=>?_;refine bz lm ?_;rfl;refine io rfl rfl
def Ud (a b:Int) (c d:Int):aB YP:=
 some (YP.mk 4 0 b a c d 0)
theorem eI1 [Inhabited Rc] {k} (d) (a b:Int) (c e:Int):OD k (d+1) 150 [i64 a,i64 b,i64 c,i64 e]=(Ud a b c e).map (fun f=>.agg (YP.g f)):=by
 refine oe rfl ?_;rfl
def F87 (b:Y0) (a:YP):aB (YP×Bool):=
 (Uc b a).bind fun c=>if c !=0 then some ((YP.mk 0 0 0 0 0 0 0),false)else(Ch b a.Measure a.Staff a.Voice).bind fun d=>if decide ((aU (a.Event+1))<(d.length:Int))then(Ud a.Measure a.Staff a.Voice (aU (a.Event+1))).bind fun e=>some (e,true)else(Ch b (aU (a.Measure+1)) a.Staff a.Voice).bind fun f=>if decide ((f.length:Int)>0)then(Ud (aU (a.Measure+1)) a.Staff a.Voice 0).bind fun g=>some (g,true)else some ((YP.mk 0 0 0 0 0 0 0),false)
theorem oC1 [Inhabited Rc] {k} (d) (b:Y0) (a:YP):OD k (d+3) 87 [.agg (Y0.g b),.agg (YP.g a)]=(F87 b a).map (fun⟨c,e⟩=>.tup [.agg (YP.g c),bv e]):=by
 refine oe rfl ?_;refine bo (eH1 d b a) fun f=>?_;refine io rfl ?_;refine bo (Lq (d+1) b a.Measure a.Staff a.Voice) fun h=>?_;refine bz lm ?_;refine io ?_ ?_;refine bo (eI1 (d+1) a.Measure a.Staff a.Voice (aU (a.Event+1))) fun i=>?_;rfl;refine bo (Lq (d+1) b (aU (a.Measure+1)) a.Staff a.Voice) fun j=>?_;refine bz lm ?_;refine io ?_ rfl;refine bo (eI1 (d+1) (aU (a.Measure+1)) a.Staff a.Voice 0) fun l=>?_;rfl
def aU1 (a:YE):aB YE:=
 (pJ a.Heads).bind fun b=>(pJ a.Graces).bind fun c=>(pJ a.Lyrics).bind fun d=>some (YE.mk a.ID a.Kind a.Value b c a.Articulations a.Ornament a.Dynamic d a.Stem a.Beam)
theorem oD1 [Inhabited Rc] {k} (d) (a:YE):OD k (d+2) 151 [.agg (YE.g a)]=(aU1 a).map (fun b=>.agg (YE.g b)):=by
 refine oe rfl ?_;refine bo (pK 193 (d+1) 5 _ _ rfl rfl rfl) fun c=>?_;refine bo (pK 194 (d+1) 5 _ _ rfl rfl rfl) fun e=>?_;refine bo (pK 195 (d+1) 2 _ _ rfl rfl rfl) fun f=>?_;rfl
def F88 (b:Y0) (a:YP):aB (YE×Int):=
 (Uc b a).bind fun c=>if c !=0 then some ((YE.mk (YZ.mk 0 0) 0 (YA.mk 0 0) [] [] 0 0 0 [] 0 0),c)else(Ch b a.Measure a.Staff a.Voice).bind fun d=>(aT d a.Event).bind fun e=>(aU1 e).bind fun f=>some (f,0)
theorem yQ1 [Inhabited Rc] {k} (d) (b:Y0) (a:YP):OD k (d+3) 88 [.agg (Y0.g b),.agg (YP.g a)]=(F88 b a).map (fun⟨e,f⟩=>.tup [.agg (YE.g e),i64 f]):=by
 refine oe rfl ?_;refine bo (eH1 d b a) fun h=>?_;refine io rfl ?_;refine bo (Lq (d+1) b a.Measure a.Staff a.Voice) fun i=>?_;refine bo rg fun c=>?_;refine bo (oD1 d c) fun j=>?_;rfl
def aV1 (a b:YB):aB Bool:=
 some (((a.Pitch.Step==b.Pitch.Step)&&((a.Pitch.Alter==b.Pitch.Alter)&&((a.Pitch.Octave==b.Pitch.Octave)&&true)))!=false)
theorem oE1 [Inhabited Rc] {k} (d) (a b:YB):OD k (d+1) 152 [.agg (YB.g a),.ip (YB.g b)]=(aV1 a b).map bv:=by
 refine oe rfl ?_;rfl
def Ci (b:aA YB) (c:YB):aB Int:=
 (aR (E:=Int⊕Unit) (fun(a:Int)=>if decide (a<(b.length:Int))then(aT b a).bind fun d=>(aV1 d c).bind fun e=>if e then some (.inr (.inl a))else some (.inl (aU (a+1)))else some (.inr (.inr ()))) aY 0).bind fun f=>(match f with|.inl x8=>some x8|.inr _=>some (-1))
theorem aW1 [Inhabited Rc] {k} (d) (a:aA YB) (b:YB):OD k (d+2) 145 [.is 5 (I YB.g a),.fn 152 [] [.ip (YB.g b)]]=(Ci a b).map i64:=by
 refine oe rfl ?_;refine bz lm ?_;refine bo (aJ (S:=Int) (enc:=fun c=>(Q [(0,.is 5 (I YB.g a)),(1,.fn 152 [] [.ip (YB.g b)]),(7,i64 (a.length:Int)),(8,i64 c)] [])) (encE:=(fun|.inl e=>(rq [(4,i64 e)] [])|.inr _=>(xq 0 [] []))) (fun c=>?_) aY 0) fun h=>?_;refine io ?_ rfl;refine bo rg fun f=>?_;refine bo (oE1 d f b) fun i=>?_;refine io rfl rfl;rcases h with e|_;rfl;rfl
def Lr (a:aA YB) (b:YB):aB Bool:=
 (Ci a b).bind fun c=>some (decide (c>=0))
theorem gS1 [Inhabited Rc] {k} (d) (a:aA YB) (b:YB):OD k (d+3) 81 [.is 5 (I YB.g a),.fn 152 [] [.ip (YB.g b)]]=(Lr a b).map bv:=by
 refine oe rfl ?_;refine bo (aW1 d a b) fun c=>?_;rfl
def F89 (a f:YE):aB Bool:=
 if a.Kind !=1 then some true else(aR (E:=Unit⊕Unit) (fun(e:Int)=>if decide (e<(a.Heads.length:Int))then(aT a.Heads e).bind fun g=>((if g.Tied then((if f.Kind==1 then(Lr f.Heads g).bind fun h=>some h else some false:aB (Bool))).bind fun b=>some (!b)else some false:aB (Bool))).bind fun c=>if c then some (.inr (.inl ()))else some (.inl (aU (e+1)))else some (.inr (.inr ()))) aY 0).bind fun d=>(match d with|.inl _=>some false|.inr _=>some true)
theorem yR1 [Inhabited Rc] {k} (d) (a b:YE):OD k (d+4) 89 [.agg (YE.g a),.agg (YE.g b)]=(F89 a b).map bv:=by
 refine oe rfl ?_;refine io rfl ?_;refine bz lm ?_;refine bo (aJ (S:=Int) (enc:=fun f=>(Q [(3,.ref 1 0),(11,.is 5 (I YB.g a.Heads)),(12,i64 (a.Heads.length:Int)),(13,i64 f)] [(1,.box (YE.g b)),(0,.box (YE.g a))])) (encE:=(fun|.inl _=>(rq [(4,bv false)] [(1,.box (YE.g b)),(0,.box (YE.g a))])|.inr _=>(xq 0 [] [(1,.box (YE.g b)),(0,.box (YE.g a))]))) (fun f=>?_) aY 0) fun c=>?_;refine io ?_ rfl;refine bo rg fun j=>?_;refine bo (e:=id) ?_ fun i=>?_;refine io ?_ rfl;refine bo (e:=id) ?_ fun h=>?_;refine io ?_ rfl;refine bo (gS1 d b.Heads j) fun l=>?_;rfl;rfl;refine io rfl rfl;rcases c with _|_;rfl;rfl
def F85 (d:YP) (b:YE) (c:YK):aB Bool:=
 (F86 b).bind fun e=>if !e then some false else(F87 c.s' d).bind fun⟨f,g⟩=>(F88 c.s' f).bind fun⟨h,j⟩=>((if !g then some true else(F89 b h).bind fun i=>some (!i):aB (Bool))).bind fun a=>some a
theorem yS1 [Inhabited Rc] {k} (d) (c:YP) (a:YE) (b:YK):OD k (d+5) 85 [.agg (YP.g c),.agg (YE.g a),.ip [.ip (YK.g b)]]=(F85 c a b).map bv:=by
 refine oe rfl ?_;refine bo (oA1 d a) fun j=>?_;refine io rfl ?_;refine bo (oC1 (d+1) b.s' c) fun⟨h,l⟩=>?_;refine bo (yQ1 (d+1) b.s' h) fun⟨i,m⟩=>?_;refine bo (e:=id) ?_ fun f=>?_;refine io rfl ?_;refine bo (yR1 d a i) fun n=>?_;rfl;rfl
def Cj (u:aA YV) (s:Y0) (t:Int):aB (aA YV):=
 (aR (E:=aA YV) (fun(⟨c,m⟩:Int×(aA YV))=>if decide (c<(s.Measures.length:Int))then(aT s.Measures c).bind fun n=>(aR (E:=aA YV) (fun(⟨d,o⟩:Int×(aA YV))=>if decide (d<(n.Cells.length:Int))then(aT n.Cells d).bind fun p=>(aR (E:=aA YV) (fun(⟨e,q⟩:Int×(aA YV))=>if decide (e<(p.Voices.length:Int))then(aT p.Voices e).bind fun r=>(aR (E:=aA YV) (fun(⟨a,b⟩:Int×(aA YV))=>if decide (a<(r.Events.length:Int))then(aT r.Events a).bind fun f=>(F85 (YP.mk 4 0 d c e a 0) f (YK.mk s t b)).bind fun g=>(hY g f.ID b s t).bind fun h=>some (.inl ((aU (a+1)),h))else some (.inr b)) aY (0,q)).bind fun i=>some (.inl ((aU (e+1)),i))else some (.inr q)) aY (0,o)).bind fun j=>some (.inl ((aU (d+1)),j))else some (.inr o)) aY (0,m)).bind fun k=>some (.inl ((aU (c+1)),k))else some (.inr m)) aY (0,u)).bind fun l=>some l
theorem aX1 [Inhabited Rc] {k} (d) (x:aA YV) (c:Y0) (i:Int):dC (XD k (d+6)) 75 [.ref 1 0,.fn 85 [] [.ref 3 0]] [(3,.box [.ref 1 0]),(2,.lst 120 3 false (I YV.g x)),(1,.box (ck c i (.own 2)))] 4 false=(Cj x c i).map (fun(w:aA YV)=>((.tup [],[(3,.box [.ref 1 0]),(2,.lst 120 3 false (I YV.g w)),(1,.box (ck c i (.own 2)))],0))):=by
 rw[xd (fn:=p75) rfl];refine bz lm ?_;refine bo (aJ (S:=Int×(aA YV)) (enc:=fun⟨b,s⟩=>(Q [(0,.ref 1 0),(1,.fn 85 [] [.ref 3 0]),(16,.is 22 (I YM.g c.Measures)),(17,i64 (c.Measures.length:Int)),(18,i64 b)] [(3,.box [.ref 1 0]),(2,.lst 120 3 false (I YV.g s)),(1,.box (ck c i (.own 2)))])) (encE:=(fun(r:aA YV)=>(xq 0 [] [(3,.box [.ref 1 0]),(2,.lst 120 3 false (I YV.g r)),(1,.box (ck c i (.own 2)))]))) (fun⟨b,s⟩=>?_) aY (0,x)) fun r=>?_;refine io ?_ rfl;refine bo rg fun a=>?_;refine bz lm ?_;refine bo (aJ (S:=Int×(aA YV)) (enc:=fun⟨e,t⟩=>(Q [(0,.ref 1 0),(1,.fn 85 [] [.ref 3 0]),(4,i64 b),(16,.is 22 (I YM.g c.Measures)),(17,i64 (c.Measures.length:Int)),(18,i64 b),(24,.is 2 (I YW.g a.Cells)),(25,i64 (a.Cells.length:Int)),(26,i64 e)] [(4,.box (YM.g a)),(3,.box [.ref 1 0]),(2,.lst 120 3 false (I YV.g t)),(1,.box (ck c i (.own 2)))])) (encE:=(fun(q:aA YV)=>(xq 2 [(0,.ref 1 0),(1,.fn 85 [] [.ref 3 0]),(16,.is 22 (I YM.g c.Measures)),(17,i64 (c.Measures.length:Int)),(18,i64 b)] [(4,.box (YM.g a)),(3,.box [.ref 1 0]),(2,.lst 120 3 false (I YV.g q)),(1,.box (ck c i (.own 2)))]))) (fun⟨e,t⟩=>?_) aY (0,s)) fun q=>?_;refine io ?_ rfl;refine bo rg fun f=>?_;refine bz lm ?_;refine bo (aJ (S:=Int×(aA YV)) (enc:=fun⟨j,u⟩=>(Q [(0,.ref 1 0),(1,.fn 85 [] [.ref 3 0]),(4,i64 b),(6,i64 e),(16,.is 22 (I YM.g c.Measures)),(17,i64 (c.Measures.length:Int)),(18,i64 b),(24,.is 2 (I YW.g a.Cells)),(25,i64 (a.Cells.length:Int)),(26,i64 e),(32,.is 2 (I YO.g f.Voices)),(33,i64 (f.Voices.length:Int)),(34,i64 j)] [(5,.box (YW.g f)),(4,.box (YM.g a)),(3,.box [.ref 1 0]),(2,.lst 120 3 false (I YV.g u)),(1,.box (ck c i (.own 2)))])) (encE:=(fun(p:aA YV)=>(xq 4 [(0,.ref 1 0),(1,.fn 85 [] [.ref 3 0]),(4,i64 b),(16,.is 22 (I YM.g c.Measures)),(17,i64 (c.Measures.length:Int)),(18,i64 b),(24,.is 2 (I YW.g a.Cells)),(25,i64 (a.Cells.length:Int)),(26,i64 e)] [(5,.box (YW.g f)),(4,.box (YM.g a)),(3,.box [.ref 1 0]),(2,.lst 120 3 false (I YV.g p)),(1,.box (ck c i (.own 2)))]))) (fun⟨j,u⟩=>?_) aY (0,t)) fun p=>?_;refine io ?_ rfl;refine bo rg fun m=>?_;refine bz lm ?_;refine bo (aJ (S:=Int×(aA YV)) (enc:=fun⟨l,h⟩=>(Q [(0,.ref 1 0),(1,.fn 85 [] [.ref 3 0]),(4,i64 b),(6,i64 e),(8,i64 j),(16,.is 22 (I YM.g c.Measures)),(17,i64 (c.Measures.length:Int)),(18,i64 b),(24,.is 2 (I YW.g a.Cells)),(25,i64 (a.Cells.length:Int)),(26,i64 e),(32,.is 2 (I YO.g f.Voices)),(33,i64 (f.Voices.length:Int)),(34,i64 j),(40,.is 13 (I YE.g m.Events)),(41,i64 (m.Events.length:Int)),(42,i64 l)] [(6,.box (YO.g m)),(5,.box (YW.g f)),(4,.box (YM.g a)),(3,.box [.ref 1 0]),(2,.lst 120 3 false (I YV.g h)),(1,.box (ck c i (.own 2)))])) (encE:=(fun(o:aA YV)=>(xq 6 [(0,.ref 1 0),(1,.fn 85 [] [.ref 3 0]),(4,i64 b),(6,i64 e),(16,.is 22 (I YM.g c.Measures)),(17,i64 (c.Measures.length:Int)),(18,i64 b),(24,.is 2 (I YW.g a.Cells)),(25,i64 (a.Cells.length:Int)),(26,i64 e),(32,.is 2 (I YO.g f.Voices)),(33,i64 (f.Voices.length:Int)),(34,i64 j)] [(6,.box (YO.g m)),(5,.box (YW.g f)),(4,.box (YM.g a)),(3,.box [.ref 1 0]),(2,.lst 120 3 false (I YV.g o)),(1,.box (ck c i (.own 2)))]))) (fun⟨l,h⟩=>?_) aY (0,u)) fun o=>?_;refine io ?_ rfl;refine bo rg fun n=>?_;refine bo (yS1 d (YP.mk 4 0 e b j l 0) n (YK.mk c i h)) fun v=>?_;refine bo (fS (d+4) v n.ID h c i) fun y=>?_;rfl;rfl;rfl;rfl;rfl
def aY1 (a:aA YV) (b:Y0) (c:Int):aB (aA YV):=
 (Cj a b c).bind fun d=>some d
theorem oF1 [Inhabited Rc] {k} (d) (c:aA YV) (a:Y0) (b:Int):dC (XD k (d+7)) 38 [.ref 1 0] [(2,.lst 120 3 false (I YV.g c)),(1,.box (ck a b (.own 2)))] 3 false=(aY1 c a b).map (fun(e:aA YV)=>((.tup [],[(2,.lst 120 3 false (I YV.g e)),(1,.box (ck a b (.own 2)))],0))):=by
 rw[xd (fn:=p38) rfl];refine bo (aX1 d c a b) fun f=>?_;rfl
def aZ1 (a:YE) (b:Int):aB Bool:=
 ((if decide (b>=(a.Lyrics.length:Int))then some true else(aT a.Lyrics b).bind fun c=>some (((c.Text==(⟨#[]⟩:ByteArray))&&((c.Link==0)&&true))!=false):aB (Bool))).bind fun d=>some d
theorem oG1 [Inhabited Rc] {k} (d) (a:YE) (b:Int):OD k (d+1) 153 [.agg (YE.g a),i64 b]=(aZ1 a b).map bv:=by
 refine oe rfl ?_;refine bz lm ?_;refine bo (e:=id) ?_ fun f=>?_;refine io rfl ?_;refine bo rg fun c=>?_;rfl;rfl
def bA1 (v P U:Int) (W:aA (YP×Bool)) (X:aA YV) (V:Y0) (Y:Int):aB (aA (YP×Bool)):=
 (aR (E:=Int×Int×Int×Int×Int×YY×(aA (YP×Bool))) (fun(⟨e,n,o,p,q,r,s,t⟩:Int×Int×Int×Int×Int×Int×YY×(aA (YP×Bool)))=>if decide (e<(V.Measures.length:Int))then(aT V.Measures e).bind fun u=>((if decide (v>=(u.Cells.length:Int))then some true else(aT u.Cells v).bind fun R=>some (decide (P>=(R.Voices.length:Int))):aB (Bool))).bind fun S=>if S then some (.inl ((aU (e+1)),n,o,p,q,r,s,t))else(aT u.Cells v).bind fun T=>(aT T.Voices P).bind fun O=>(aR (E:=Int×Int×Int×Int×Int×YY×(aA (YP×Bool))) (fun(⟨a,f,g,h,i,j,b,c⟩:Int×Int×Int×Int×Int×Int×YY×(aA (YP×Bool)))=>if decide (a<(O.Events.length:Int))then(aT O.Events a).bind fun k=>(aZ1 k U).bind fun w=>if w then some (.inl ((aU (a+1)),f,g,h,i,j,b,c))else(aT k.Lyrics U).bind fun d=>((if(b.Link==1)&&(d.Text.toList==(⟨#[]⟩:ByteArray).toList)then some (Bq c (YP.mk f 0 g h i j 0) true)else some c:aB (aA (YP×Bool)))).bind fun l=>((if((d.Text.toList==(⟨#[]⟩:ByteArray).toList)&&(d.Link==2))&&(b.Link !=2)then some (Bq l (YP.mk 4 0 v e P a 0) true)else some l:aB (aA (YP×Bool)))).bind fun x=>some (.inl ((aU (a+1)),4,v,e,P,a,d,x))else some (.inr (f,g,h,i,j,b,c))) aY (0,n,o,p,q,r,s,t)).bind fun⟨y,z,A,B,C,D,F⟩=>some (.inl ((aU (e+1)),y,z,A,B,C,D,F))else some (.inr (n,o,p,q,r,s,t))) aY (0,0,0,0,0,0,(YY.mk (⟨#[]⟩:ByteArray) 0),W)).bind fun⟨G,H,J,K,L,M,m⟩=>((if M.Link==1 then some (Bq m (YP.mk G 0 H J K L 0) true)else some m:aB (aA (YP×Bool)))).bind fun N=>some N
theorem oH1 [Inhabited Rc] {k} (d) (y z O:Int) (Z:aA (YP×Bool)) (A:aA YV) (c:Y0) (B:Int):dC (XD k (d+2)) 90 [.ref 1 0,i64 y,i64 z,i64 O,.map 3] [(3,.mp (I (dD (eA YP.g) bv) Z)),(2,.lst 120 3 false (I YV.g A)),(1,.box (ck c B (.own 2)))] 4 false=(bA1 y z O Z A c B).map (fun(Y:aA (YP×Bool))=>((.tup [],[(3,.mp (I (dD (eA YP.g) bv) Y)),(2,.lst 120 3 false (I YV.g A)),(1,.box (ck c B (.own 2)))],0))):=by
 rw[xd (fn:=p90) rfl];refine bz lm ?_;refine bo (aJ (S:=Int×Int×Int×Int×Int×Int×YY×(aA (YP×Bool))) (enc:=fun⟨a,P,R,T,U,V,W,X⟩=>(Q [(1,i64 y),(2,i64 z),(3,i64 O),(4,.map 3),(10,.ref 4 0),(11,.ref 5 0),(22,.is 22 (I YM.g c.Measures)),(23,i64 (c.Measures.length:Int)),(24,i64 a)] [(5,.box [i64 P,i64 0,i64 R,i64 T,i64 U,i64 V,i64 0]),(4,.box (YY.g W)),(3,.mp (I (dD (eA YP.g) bv) X)),(2,.lst 120 3 false (I YV.g A)),(1,.box (ck c B (.own 2)))])) (encE:=(fun(⟨n,o,p,q,r,w,x⟩:Int×Int×Int×Int×Int×YY×(aA (YP×Bool)))=>(xq 0 [(4,.map 3),(10,.ref 4 0),(11,.ref 5 0)] [(5,.box [i64 n,i64 0,i64 o,i64 p,i64 q,i64 r,i64 0]),(4,.box (YY.g w)),(3,.mp (I (dD (eA YP.g) bv) x)),(2,.lst 120 3 false (I YV.g A)),(1,.box (ck c B (.own 2)))]))) (fun⟨a,P,R,T,U,V,W,X⟩=>?_) aY (0,0,0,0,0,0,(YY.mk (⟨#[]⟩:ByteArray) 0),Z)) fun⟨n,o,p,q,r,w,x⟩=>?_;refine io ?_ rfl;refine bo rg fun C=>?_;refine bz lm ?_;refine bo (e:=id) ?_ fun b4=>?_;refine io rfl ?_;refine bo rg fun b0=>?_;refine bz lm ?_;rfl;refine io rfl ?_;refine bo rg fun b5=>?_;refine bo rg fun s=>?_;refine bz lm ?_;refine bo (aJ (S:=Int×Int×Int×Int×Int×Int×YY×(aA (YP×Bool))) (enc:=fun⟨b,f,h,i,j,l,m,t⟩=>(Q [(1,i64 y),(2,i64 z),(3,i64 O),(4,.map 3),(10,.ref 4 0),(11,.ref 5 0),(12,i64 a),(22,.is 22 (I YM.g c.Measures)),(23,i64 (c.Measures.length:Int)),(24,i64 a),(54,.is 13 (I YE.g s.Events)),(55,i64 (s.Events.length:Int)),(56,i64 b)] [(6,.box (YM.g C)),(5,.box [i64 f,i64 0,i64 h,i64 i,i64 j,i64 l,i64 0]),(4,.box (YY.g m)),(3,.mp (I (dD (eA YP.g) bv) t)),(2,.lst 120 3 false (I YV.g A)),(1,.box (ck c B (.own 2)))])) (encE:=(fun(⟨F,G,H,J,K,L,M⟩:Int×Int×Int×Int×Int×YY×(aA (YP×Bool)))=>(xq 2 [(1,i64 y),(2,i64 z),(3,i64 O),(4,.map 3),(10,.ref 4 0),(11,.ref 5 0),(22,.is 22 (I YM.g c.Measures)),(23,i64 (c.Measures.length:Int)),(24,i64 a)] [(6,.box (YM.g C)),(5,.box [i64 F,i64 0,i64 G,i64 H,i64 J,i64 K,i64 0]),(4,.box (YY.g L)),(3,.mp (I (dD (eA YP.g) bv) M)),(2,.lst 120 3 false (I YV.g A)),(1,.box (ck c B (.own 2)))]))) (fun⟨b,f,h,i,j,l,m,t⟩=>?_) aY (0,P,R,T,U,V,W,X)) fun⟨F,G,H,J,K,L,M⟩=>?_;refine io ?_ rfl;refine bo rg fun u=>?_;refine bo (oG1 d u O) fun a0=>?_;refine io rfl ?_;refine bo rg fun D=>?_;refine bz (eN rfl) ?_;refine bo (e:=(fun(v:aA (YP×Bool))=>(nq [(1,i64 y),(2,i64 z),(3,i64 O),(4,.map 3),(10,.ref 4 0),(11,.ref 5 0),(12,i64 a),(16,.ref 8 0),(17,.ref 9 0),(22,.is 22 (I YM.g c.Measures)),(23,i64 (c.Measures.length:Int)),(24,i64 a),(54,.is 13 (I YE.g s.Events)),(55,i64 (s.Events.length:Int)),(56,i64 b)] [(9,.box (YY.g D)),(8,.box [i64 4,i64 0,i64 y,i64 a,i64 z,i64 b,i64 0]),(7,.box (YE.g u)),(6,.box (YM.g C)),(5,.box [i64 f,i64 0,i64 h,i64 i,i64 j,i64 l,i64 0]),(4,.box (YY.g m)),(3,.mp (I (dD (eA YP.g) bv) v)),(2,.lst 120 3 false (I YV.g A)),(1,.box (ck c B (.own 2)))]))) ?_ fun v=>?_;refine io ?_ rfl;refine bz (jS gG bv t (YP.mk f 0 h i j l 0) true) ?_;rfl;refine bz (eN rfl) ?_;refine bz (eN rfl) ?_;refine bo (e:=(fun(E:aA (YP×Bool))=>(nq [(1,i64 y),(2,i64 z),(3,i64 O),(4,.map 3),(10,.ref 4 0),(11,.ref 5 0),(12,i64 a),(16,.ref 8 0),(17,.ref 9 0),(22,.is 22 (I YM.g c.Measures)),(23,i64 (c.Measures.length:Int)),(24,i64 a),(54,.is 13 (I YE.g s.Events)),(55,i64 (s.Events.length:Int)),(56,i64 b)] [(9,.box (YY.g D)),(8,.box [i64 4,i64 0,i64 y,i64 a,i64 z,i64 b,i64 0]),(7,.box (YE.g u)),(6,.box (YM.g C)),(5,.box [i64 f,i64 0,i64 h,i64 i,i64 j,i64 l,i64 0]),(4,.box (YY.g m)),(3,.mp (I (dD (eA YP.g) bv) E)),(2,.lst 120 3 false (I YV.g A)),(1,.box (ck c B (.own 2)))]))) ?_ fun E=>?_;refine io ?_ rfl;refine bz (jS gG bv v (YP.mk 4 0 y a z b 0) true) ?_;rfl;rfl;rfl;refine bo (e:=(fun(N:aA (YP×Bool))=>(nq [] [(5,.box [i64 n,i64 0,i64 o,i64 p,i64 q,i64 r,i64 0]),(4,.box (YY.g w)),(3,.mp (I (dD (eA YP.g) bv) N)),(2,.lst 120 3 false (I YV.g A)),(1,.box (ck c B (.own 2)))]))) ?_ fun N=>?_;refine io ?_ rfl;refine bz (jS gG bv x (YP.mk n 0 o p q r 0) true) ?_;rfl;rfl
def F91 (a:YP) (c:YE) (b:aA (YP×Bool)):aB Bool:=
 some (yI b a false)
theorem yT1 [Inhabited Rc] {k} (d) (a:YP) (c:YE) (b:aA (YP×Bool)):OD k (d+1) 91 [.agg (YP.g a),.agg (YE.g c),.ip [.im (I (dD (eA YP.g) bv) b)]]=(F91 a c b).map bv:=by
 refine oe rfl ?_;refine bz (xI gG bv b a false) ?_;rfl
def Ck (t:aA (YP×Bool)) (u:aA YV) (s:Y0) (v:Int):aB (aA YV):=
 (aR (E:=aA YV) (fun(⟨b,m⟩:Int×(aA YV))=>if decide (b<(s.Measures.length:Int))then(aT s.Measures b).bind fun n=>(aR (E:=aA YV) (fun(⟨c,o⟩:Int×(aA YV))=>if decide (c<(n.Cells.length:Int))then(aT n.Cells c).bind fun p=>(aR (E:=aA YV) (fun(⟨d,q⟩:Int×(aA YV))=>if decide (d<(p.Voices.length:Int))then(aT p.Voices d).bind fun r=>(aR (E:=aA YV) (fun(⟨a,e⟩:Int×(aA YV))=>if decide (a<(r.Events.length:Int))then(aT r.Events a).bind fun f=>(F91 (YP.mk 4 0 c b d a 0) f t).bind fun g=>(hY g f.ID e s v).bind fun h=>some (.inl ((aU (a+1)),h))else some (.inr e)) aY (0,q)).bind fun i=>some (.inl ((aU (d+1)),i))else some (.inr q)) aY (0,o)).bind fun j=>some (.inl ((aU (c+1)),j))else some (.inr o)) aY (0,m)).bind fun k=>some (.inl ((aU (b+1)),k))else some (.inr m)) aY (0,u)).bind fun l=>some l
theorem bB1 [Inhabited Rc] {k} (d) (i:aA (YP×Bool)) (y:aA YV) (c:Y0) (j:Int):dC (XD k (d+2)) 75 [.ref 1 0,.fn 91 [] [.ref 4 0]] [(4,.box [.map 3]),(3,.mp (I (dD (eA YP.g) bv) i)),(2,.lst 120 3 false (I YV.g y)),(1,.box (ck c j (.own 2)))] 5 false=(Ck i y c j).map (fun(x:aA YV)=>((.tup [],[(4,.box [.map 3]),(3,.mp (I (dD (eA YP.g) bv) i)),(2,.lst 120 3 false (I YV.g x)),(1,.box (ck c j (.own 2)))],0))):=by
 rw[xd (fn:=p75) rfl];refine bz lm ?_;refine bo (aJ (S:=Int×(aA YV)) (enc:=fun⟨b,t⟩=>(Q [(0,.ref 1 0),(1,.fn 91 [] [.ref 4 0]),(16,.is 22 (I YM.g c.Measures)),(17,i64 (c.Measures.length:Int)),(18,i64 b)] [(4,.box [.map 3]),(3,.mp (I (dD (eA YP.g) bv) i)),(2,.lst 120 3 false (I YV.g t)),(1,.box (ck c j (.own 2)))])) (encE:=(fun(s:aA YV)=>(xq 0 [] [(4,.box [.map 3]),(3,.mp (I (dD (eA YP.g) bv) i)),(2,.lst 120 3 false (I YV.g s)),(1,.box (ck c j (.own 2)))]))) (fun⟨b,t⟩=>?_) aY (0,y)) fun s=>?_;refine io ?_ rfl;refine bo rg fun a=>?_;refine bz lm ?_;refine bo (aJ (S:=Int×(aA YV)) (enc:=fun⟨e,u⟩=>(Q [(0,.ref 1 0),(1,.fn 91 [] [.ref 4 0]),(4,i64 b),(16,.is 22 (I YM.g c.Measures)),(17,i64 (c.Measures.length:Int)),(18,i64 b),(24,.is 2 (I YW.g a.Cells)),(25,i64 (a.Cells.length:Int)),(26,i64 e)] [(5,.box (YM.g a)),(4,.box [.map 3]),(3,.mp (I (dD (eA YP.g) bv) i)),(2,.lst 120 3 false (I YV.g u)),(1,.box (ck c j (.own 2)))])) (encE:=(fun(r:aA YV)=>(xq 2 [(0,.ref 1 0),(1,.fn 91 [] [.ref 4 0]),(16,.is 22 (I YM.g c.Measures)),(17,i64 (c.Measures.length:Int)),(18,i64 b)] [(5,.box (YM.g a)),(4,.box [.map 3]),(3,.mp (I (dD (eA YP.g) bv) i)),(2,.lst 120 3 false (I YV.g r)),(1,.box (ck c j (.own 2)))]))) (fun⟨e,u⟩=>?_) aY (0,t)) fun r=>?_;refine io ?_ rfl;refine bo rg fun f=>?_;refine bz lm ?_;refine bo (aJ (S:=Int×(aA YV)) (enc:=fun⟨h,v⟩=>(Q [(0,.ref 1 0),(1,.fn 91 [] [.ref 4 0]),(4,i64 b),(6,i64 e),(16,.is 22 (I YM.g c.Measures)),(17,i64 (c.Measures.length:Int)),(18,i64 b),(24,.is 2 (I YW.g a.Cells)),(25,i64 (a.Cells.length:Int)),(26,i64 e),(32,.is 2 (I YO.g f.Voices)),(33,i64 (f.Voices.length:Int)),(34,i64 h)] [(6,.box (YW.g f)),(5,.box (YM.g a)),(4,.box [.map 3]),(3,.mp (I (dD (eA YP.g) bv) i)),(2,.lst 120 3 false (I YV.g v)),(1,.box (ck c j (.own 2)))])) (encE:=(fun(q:aA YV)=>(xq 4 [(0,.ref 1 0),(1,.fn 91 [] [.ref 4 0]),(4,i64 b),(16,.is 22 (I YM.g c.Measures)),(17,i64 (c.Measures.length:Int)),(18,i64 b),(24,.is 2 (I YW.g a.Cells)),(25,i64 (a.Cells.length:Int)),(26,i64 e)] [(6,.box (YW.g f)),(5,.box (YM.g a)),(4,.box [.map 3]),(3,.mp (I (dD (eA YP.g) bv) i)),(2,.lst 120 3 false (I YV.g q)),(1,.box (ck c j (.own 2)))]))) (fun⟨h,v⟩=>?_) aY (0,u)) fun q=>?_;refine io ?_ rfl;refine bo rg fun n=>?_;refine bz lm ?_;refine bo (aJ (S:=Int×(aA YV)) (enc:=fun⟨l,m⟩=>(Q [(0,.ref 1 0),(1,.fn 91 [] [.ref 4 0]),(4,i64 b),(6,i64 e),(8,i64 h),(16,.is 22 (I YM.g c.Measures)),(17,i64 (c.Measures.length:Int)),(18,i64 b),(24,.is 2 (I YW.g a.Cells)),(25,i64 (a.Cells.length:Int)),(26,i64 e),(32,.is 2 (I YO.g f.Voices)),(33,i64 (f.Voices.length:Int)),(34,i64 h),(40,.is 13 (I YE.g n.Events)),(41,i64 (n.Events.length:Int)),(42,i64 l)] [(7,.box (YO.g n)),(6,.box (YW.g f)),(5,.box (YM.g a)),(4,.box [.map 3]),(3,.mp (I (dD (eA YP.g) bv) i)),(2,.lst 120 3 false (I YV.g m)),(1,.box (ck c j (.own 2)))])) (encE:=(fun(p:aA YV)=>(xq 6 [(0,.ref 1 0),(1,.fn 91 [] [.ref 4 0]),(4,i64 b),(6,i64 e),(16,.is 22 (I YM.g c.Measures)),(17,i64 (c.Measures.length:Int)),(18,i64 b),(24,.is 2 (I YW.g a.Cells)),(25,i64 (a.Cells.length:Int)),(26,i64 e),(32,.is 2 (I YO.g f.Voices)),(33,i64 (f.Voices.length:Int)),(34,i64 h)] [(7,.box (YO.g n)),(6,.box (YW.g f)),(5,.box (YM.g a)),(4,.box [.map 3]),(3,.mp (I (dD (eA YP.g) bv) i)),(2,.lst 120 3 false (I YV.g p)),(1,.box (ck c j (.own 2)))]))) (fun⟨l,m⟩=>?_) aY (0,v)) fun p=>?_;refine io ?_ rfl;refine bo rg fun o=>?_;refine bo (yT1 d (YP.mk 4 0 e b h l 0) o i) fun w=>?_;refine bo (fS d w o.ID m c j) fun z=>?_;rfl;rfl;rfl;rfl;rfl
def bC1 (m:aA YV) (g:Y0) (n:Int):aB (aA YV):=
 (F20 g).bind fun o=>(aR (E:=aA (YP×Bool)) (fun(⟨a,d⟩:Int×(aA (YP×Bool)))=>if decide (a<o)then(aR (E:=aA (YP×Bool)) (fun(⟨b,e⟩:Int×(aA (YP×Bool)))=>if decide (b<2)then(aR (E:=aA (YP×Bool)) (fun(⟨c,f⟩:Int×(aA (YP×Bool)))=>if decide (c<4)then(bA1 a b c f m g n).bind fun h=>some (.inl ((aU (c+1)),h))else some (.inr f)) aY (0,e)).bind fun i=>some (.inl ((aU (b+1)),i))else some (.inr e)) aY (0,d)).bind fun j=>some (.inl ((aU (a+1)),j))else some (.inr d)) aY (0,[])).bind fun k=>(Ck k m g n).bind fun l=>some l
theorem oI1 [Inhabited Rc] {k} (d) (f:aA YV) (c:Y0) (e:Int):dC (XD k (d+3)) 39 [.ref 1 0] [(2,.lst 120 3 false (I YV.g f)),(1,.box (ck c e (.own 2)))] 3 false=(bC1 f c e).map (fun(q:aA YV)=>((.tup [],[(2,.lst 120 3 false (I YV.g q)),(1,.box (ck c e (.own 2)))],0))):=by
 rw[xd (fn:=p39) rfl];refine bo (gN1 (d+1) c) fun p=>?_;refine bo (aJ (S:=Int×(aA (YP×Bool))) (enc:=fun⟨a,h⟩=>(Q [(0,.ref 1 0),(2,.ref 4 0),(13,i64 p),(14,i64 a)] [(4,.box [.map 3]),(3,.mp (I (dD (eA YP.g) bv) h)),(2,.lst 120 3 false (I YV.g f)),(1,.box (ck c e (.own 2)))])) (encE:=(fun(m:aA (YP×Bool))=>(xq 0 [(0,.ref 1 0),(2,.ref 4 0)] [(4,.box [.map 3]),(3,.mp (I (dD (eA YP.g) bv) m)),(2,.lst 120 3 false (I YV.g f)),(1,.box (ck c e (.own 2)))]))) (fun⟨a,h⟩=>?_) aY (0,[])) fun m=>?_;refine io ?_ rfl;refine bo (aJ (S:=Int×(aA (YP×Bool))) (enc:=fun⟨b,i⟩=>(Q [(0,.ref 1 0),(2,.ref 4 0),(4,i64 a),(13,i64 p),(14,i64 a),(17,i64 b)] [(4,.box [.map 3]),(3,.mp (I (dD (eA YP.g) bv) i)),(2,.lst 120 3 false (I YV.g f)),(1,.box (ck c e (.own 2)))])) (encE:=(fun(o:aA (YP×Bool))=>(xq 2 [(0,.ref 1 0),(2,.ref 4 0),(13,i64 p),(14,i64 a)] [(4,.box [.map 3]),(3,.mp (I (dD (eA YP.g) bv) o)),(2,.lst 120 3 false (I YV.g f)),(1,.box (ck c e (.own 2)))]))) (fun⟨b,i⟩=>?_) aY (0,h)) fun o=>?_;refine io ?_ rfl;refine bo (aJ (S:=Int×(aA (YP×Bool))) (enc:=fun⟨j,l⟩=>(Q [(0,.ref 1 0),(2,.ref 4 0),(4,i64 a),(5,i64 b),(13,i64 p),(14,i64 a),(17,i64 b),(20,i64 j)] [(4,.box [.map 3]),(3,.mp (I (dD (eA YP.g) bv) l)),(2,.lst 120 3 false (I YV.g f)),(1,.box (ck c e (.own 2)))])) (encE:=(fun(n:aA (YP×Bool))=>(xq 4 [(0,.ref 1 0),(2,.ref 4 0),(4,i64 a),(13,i64 p),(14,i64 a),(17,i64 b)] [(4,.box [.map 3]),(3,.mp (I (dD (eA YP.g) bv) n)),(2,.lst 120 3 false (I YV.g f)),(1,.box (ck c e (.own 2)))]))) (fun⟨j,l⟩=>?_) aY (0,i)) fun n=>?_;refine io ?_ rfl;refine bo (oH1 d a b j l f c e) fun r=>?_;rfl;rfl;rfl;refine bo (bB1 d m f c e) fun s=>?_;rfl
def Cl (a:Y0):aB Unit:=
 some ()
theorem bD1 [Inhabited Rc] {k} (d) (a:Y0):dC (XD k (d+1)) 25 [.ref 0 0] [(0,.box (Y0.g a))] 4 true=(Cl a).map (fun(_:Unit)=>((.fn 53 [] [.ref 4 0],[(4,.box [.ref 0 0]),(0,.box (Y0.g a))],5))):=by
 rw[xd (fn:=p25) rfl];rfl
def uS (d e:Int) (f g:Int) (h i j:Int) (b:YJ) (k:Bool) (c:YP) (a:YZ):aB (Unit⊕Unit):=
 if((b.ID.Site==a.Site)&&((b.ID.Number==a.Number)&&true))!=false then some (.inl ())else some (.inr ())
theorem Ue [Inhabited Rc] {k} (d) (c e:Int) (f h:Int) (i j l:Int) (n:YJ) (m:Bool) (b:YP) (a:YZ):tW (XD k (d+1)) 5 [.agg [i64 c,i64 e,i64 f,i64 h,i64 i,i64 j,i64 l],.ip (YJ.g n)] [(5,.loop 22 [(3,.ref 1 0),(4,.ref 2 0),(5,.ref 3 0)] [13,14] bM bN false none),(3,.box [bv m]),(2,.box (YP.g b)),(1,.box (YZ.g a))] 6=(uS c e f h i j l n m b a).map (fun|.inl _=>((bv false,[(5,.loop 22 [(3,.ref 1 0),(4,.ref 2 0),(5,.ref 3 0)] [13,14] bM bN false (some .ret)),(3,.box [bv true]),(2,.box [i64 c,i64 e,i64 f,i64 h,i64 i,i64 j,i64 l]),(1,.box (YZ.g a))],0))|.inr _=>((bv true,[(5,.loop 22 [(3,.ref 1 0),(4,.ref 2 0),(5,.ref 3 0)] [13,14] bM bN false none),(3,.box [bv m]),(2,.box (YP.g b)),(1,.box (YZ.g a))],0))):=by
 rw[yd];refine bz (Tp lG) ?_;refine io rfl rfl
def nZ (d e:Int) (f g:Int) (h i j:Int) (b:YF) (k:Bool) (c:YP) (a:YZ):aB (Unit⊕Unit):=
 if((b.ID.Site==a.Site)&&((b.ID.Number==a.Number)&&true))!=false then some (.inl ())else some (.inr ())
theorem Jc [Inhabited Rc] {k} (d) (c e:Int) (f h:Int) (i j l:Int) (n:YF) (m:Bool) (b:YP) (a:YZ):tW (XD k (d+1)) 5 [.agg [i64 c,i64 e,i64 f,i64 h,i64 i,i64 j,i64 l],.ip (YF.g n)] [(5,.loop 22 [(3,.ref 1 0),(4,.ref 2 0),(5,.ref 3 0)] [13,14] bM bN false none),(3,.box [bv m]),(2,.box (YP.g b)),(1,.box (YZ.g a))] 6=(nZ c e f h i j l n m b a).map (fun|.inl _=>((bv false,[(5,.loop 22 [(3,.ref 1 0),(4,.ref 2 0),(5,.ref 3 0)] [13,14] bM bN false (some .ret)),(3,.box [bv true]),(2,.box [i64 c,i64 e,i64 f,i64 h,i64 i,i64 j,i64 l]),(1,.box (YZ.g a))],0))|.inr _=>((bv true,[(5,.loop 22 [(3,.ref 1 0),(4,.ref 2 0),(5,.ref 3 0)] [13,14] bM bN false none),(3,.box [bv m]),(2,.box (YP.g b)),(1,.box (YZ.g a))],0))):=by
 rw[yd];refine bz (Tp lG) ?_;refine io rfl rfl
def oA (d e:Int) (f g:Int) (h i j:Int) (b:YM) (k:Bool) (c:YP) (a:YZ):aB (Unit⊕Unit):=
 if((b.ID.Site==a.Site)&&((b.ID.Number==a.Number)&&true))!=false then some (.inl ())else some (.inr ())
theorem Jd [Inhabited Rc] {k} (d) (c e:Int) (f h:Int) (i j l:Int) (n:YM) (m:Bool) (b:YP) (a:YZ):tW (XD k (d+1)) 5 [.agg [i64 c,i64 e,i64 f,i64 h,i64 i,i64 j,i64 l],.ip (YM.g n)] [(5,.loop 22 [(3,.ref 1 0),(4,.ref 2 0),(5,.ref 3 0)] [13,14] bM bN false none),(3,.box [bv m]),(2,.box (YP.g b)),(1,.box (YZ.g a))] 6=(oA c e f h i j l n m b a).map (fun|.inl _=>((bv false,[(5,.loop 22 [(3,.ref 1 0),(4,.ref 2 0),(5,.ref 3 0)] [13,14] bM bN false (some .ret)),(3,.box [bv true]),(2,.box [i64 c,i64 e,i64 f,i64 h,i64 i,i64 j,i64 l]),(1,.box (YZ.g a))],0))|.inr _=>((bv true,[(5,.loop 22 [(3,.ref 1 0),(4,.ref 2 0),(5,.ref 3 0)] [13,14] bM bN false none),(3,.box [bv m]),(2,.box (YP.g b)),(1,.box (YZ.g a))],0))):=by
 rw[yd];refine bz (Tp lG) ?_;refine io rfl rfl
def oB (d e:Int) (f g:Int) (h i j:Int) (b:YE) (k:Bool) (c:YP) (a:YZ):aB (Unit⊕Unit):=
 if((b.ID.Site==a.Site)&&((b.ID.Number==a.Number)&&true))!=false then some (.inl ())else some (.inr ())
theorem Je [Inhabited Rc] {k} (d) (c e:Int) (f h:Int) (i j l:Int) (n:YE) (m:Bool) (b:YP) (a:YZ):tW (XD k (d+1)) 5 [.agg [i64 c,i64 e,i64 f,i64 h,i64 i,i64 j,i64 l],.ip (YE.g n)] [(5,.loop 22 [(3,.ref 1 0),(4,.ref 2 0),(5,.ref 3 0)] [13,14] bM bN false none),(3,.box [bv m]),(2,.box (YP.g b)),(1,.box (YZ.g a))] 6=(oB c e f h i j l n m b a).map (fun|.inl _=>((bv false,[(5,.loop 22 [(3,.ref 1 0),(4,.ref 2 0),(5,.ref 3 0)] [13,14] bM bN false (some .ret)),(3,.box [bv true]),(2,.box [i64 c,i64 e,i64 f,i64 h,i64 i,i64 j,i64 l]),(1,.box (YZ.g a))],0))|.inr _=>((bv true,[(5,.loop 22 [(3,.ref 1 0),(4,.ref 2 0),(5,.ref 3 0)] [13,14] bM bN false none),(3,.box [bv m]),(2,.box (YP.g b)),(1,.box (YZ.g a))],0))):=by
 rw[yd];refine bz (Tp lG) ?_;refine io rfl rfl
def oC (d e:Int) (f g:Int) (h i j:Int) (b:YN) (k:Bool) (c:YP) (a:YZ):aB (Unit⊕Unit):=
 if((b.ID.Site==a.Site)&&((b.ID.Number==a.Number)&&true))!=false then some (.inl ())else some (.inr ())
theorem Jf [Inhabited Rc] {k} (d) (c e:Int) (f h:Int) (i j l:Int) (n:YN) (m:Bool) (b:YP) (a:YZ):tW (XD k (d+1)) 5 [.agg [i64 c,i64 e,i64 f,i64 h,i64 i,i64 j,i64 l],.ip (YN.g n)] [(5,.loop 22 [(3,.ref 1 0),(4,.ref 2 0),(5,.ref 3 0)] [13,14] bM bN false none),(3,.box [bv m]),(2,.box (YP.g b)),(1,.box (YZ.g a))] 6=(oC c e f h i j l n m b a).map (fun|.inl _=>((bv false,[(5,.loop 22 [(3,.ref 1 0),(4,.ref 2 0),(5,.ref 3 0)] [13,14] bM bN false (some .ret)),(3,.box [bv true]),(2,.box [i64 c,i64 e,i64 f,i64 h,i64 i,i64 j,i64 l]),(1,.box (YZ.g a))],0))|.inr _=>((bv true,[(5,.loop 22 [(3,.ref 1 0),(4,.ref 2 0),(5,.ref 3 0)] [13,14] bM bN false none),(3,.box [bv m]),(2,.box (YP.g b)),(1,.box (YZ.g a))],0))):=by
 rw[yd];refine bz (Tp lG) ?_;refine io rfl rfl
def Cm (g:Y0) (v:Bool) (F:YP) (G:YZ):aB (YP⊕Unit):=
 (aR (E:=(Int×Int×Int)⊕Unit) (fun(⟨H,f⟩:Int×Int)=>if decide (f<(g.Parts.length:Int))then(aT g.Parts f).bind fun J=>(uS 1 f 0 0 0 0 0 J v F G).bind fun K=>(match K with|.inl _=>some (.inr (.inl (1,f,0)))|.inr _=>(aT g.Parts f).bind fun L=>(aR (E:=(Int×Int)⊕Int) (fun(⟨h,i⟩:Int×Int)=>if decide (i<(L.Staves.length:Int))then(aT g.Parts f).bind fun M=>(aT M.Staves i).bind fun N=>(nZ 2 0 h 0 0 0 0 N v F G).bind fun O=>(match O with|.inl _=>some (.inr (.inl (h,h)))|.inr _=>some (.inl ((aU (h+1)),(aU (i+1)))))else some (.inr (.inr h))) aY (H,0)).bind fun P=>(match P with|.inl ⟨x33,x34⟩=>some (.inr (.inl (2,0,x34)))|.inr x35=>some (.inl (x35,(aU (f+1))))))else some (.inr (.inr ()))) aY (0,0)).bind fun R=>(match R with|.inl ⟨x37,x38,x39⟩=>some (.inl (YP.mk x37 x38 x39 0 0 0 0))|.inr _=>(aR (E:=(Int×Int×Int×Int×Int)⊕Unit) (fun(a:Int)=>if decide (a<(g.Measures.length:Int))then(aT g.Measures a).bind fun j=>(oA 3 0 0 a 0 0 0 j v F G).bind fun k=>(match k with|.inl _=>some (.inr (.inl (3,0,a,0,0)))|.inr _=>(aT g.Measures a).bind fun l=>(aR (E:=(Int×Int×Int)⊕Unit) (fun(b:Int)=>if decide (b<(l.Cells.length:Int))then(aT g.Measures a).bind fun m=>(aT m.Cells b).bind fun n=>(aR (E:=(Int×Int)⊕Unit) (fun(c:Int)=>if decide (c<(n.Voices.length:Int))then(aT g.Measures a).bind fun o=>(aT o.Cells b).bind fun p=>(aT p.Voices c).bind fun q=>(aR (E:=Int⊕Unit) (fun(d:Int)=>if decide (d<(q.Events.length:Int))then(aT g.Measures a).bind fun r=>(aT r.Cells b).bind fun s=>(aT s.Voices c).bind fun t=>(aT t.Events d).bind fun u=>(oB 4 0 b a c d 0 u v F G).bind fun w=>(match w with|.inl _=>some (.inr (.inl d))|.inr _=>some (.inl (aU (d+1))))else some (.inr (.inr ()))) aY 0).bind fun x=>(match x with|.inl x201=>some (.inr (.inl (c,x201)))|.inr _=>some (.inl (aU (c+1))))else some (.inr (.inr ()))) aY 0).bind fun y=>(match y with|.inl ⟨x203,x204⟩=>some (.inr (.inl (b,x203,x204)))|.inr _=>some (.inl (aU (b+1))))else some (.inr (.inr ()))) aY 0).bind fun z=>(match z with|.inl ⟨x206,x207,x208⟩=>some (.inr (.inl (4,x206,a,x207,x208)))|.inr _=>some (.inl (aU (a+1)))))else some (.inr (.inr ()))) aY 0).bind fun A=>(match A with|.inl ⟨x210,x211,x212,x213,x214⟩=>some (.inl (YP.mk x210 0 x211 x212 x213 x214 0))|.inr _=>(aR (E:=Int⊕Unit) (fun(e:Int)=>if decide (e<(g.Spanners.length:Int))then(aT g.Spanners e).bind fun B=>(oC 5 0 0 0 0 0 e B v F G).bind fun C=>(match C with|.inl _=>some (.inr (.inl e))|.inr _=>some (.inl (aU (e+1))))else some (.inr (.inr ()))) aY 0).bind fun D=>(match D with|.inl x221=>some (.inl (YP.mk 5 0 0 0 0 0 x221))|.inr _=>some (.inr ()))))
theorem bE1 [Inhabited Rc] {k} (d) (c:Y0) (i:Bool) (j:YP) (e:YZ):dC (XD k (d+2)) 53 [.yld 5,.ref 4 0] [(5,.loop 22 [(3,.ref 1 0),(4,.ref 2 0),(5,.ref 3 0)] [13,14] bM bN false none),(4,.box [.ref 0 0]),(0,.box (Y0.g c)),(3,.box [bv i]),(2,.box (YP.g j)),(1,.box (YZ.g e))] 6 false=(Cm c i j e).map (fun|.inl x223=>((.tup [],[(5,.loop 22 [(3,.ref 1 0),(4,.ref 2 0),(5,.ref 3 0)] [13,14] bM bN false (some .ret)),(4,.box [.ref 0 0]),(0,.box (Y0.g c)),(3,.box [bv true]),(2,.box (YP.g x223)),(1,.box (YZ.g e))],0))|.inr _=>((.tup [],[(5,.loop 22 [(3,.ref 1 0),(4,.ref 2 0),(5,.ref 3 0)] [13,14] bM bN false none),(4,.box [.ref 0 0]),(0,.box (Y0.g c)),(3,.box [bv i]),(2,.box (YP.g j)),(1,.box (YZ.g e))],0))):=by
 rw[xd (fn:=p53) rfl];refine bz lm ?_;refine bo (aJ (S:=Int×Int) (enc:=fun⟨B,l⟩=>(Q [(0,.yld 5),(1,.ref 4 0),(3,i64 B),(15,i64 (c.Parts.length:Int)),(16,i64 l)] [(5,.loop 22 [(3,.ref 1 0),(4,.ref 2 0),(5,.ref 3 0)] [13,14] bM bN false none),(4,.box [.ref 0 0]),(0,.box (Y0.g c)),(3,.box [bv i]),(2,.box (YP.g j)),(1,.box (YZ.g e))])) (encE:=(fun|.inl ⟨V,W,X⟩=>(rq [(0,.yld 5),(1,.ref 4 0)] [(5,.loop 22 [(3,.ref 1 0),(4,.ref 2 0),(5,.ref 3 0)] [13,14] bM bN false (some .ret)),(4,.box [.ref 0 0]),(0,.box (Y0.g c)),(3,.box [bv true]),(2,.box [i64 V,i64 W,i64 X,i64 0,i64 0,i64 0,i64 0]),(1,.box (YZ.g e))])|.inr _=>(xq 0 [(0,.yld 5),(1,.ref 4 0)] [(5,.loop 22 [(3,.ref 1 0),(4,.ref 2 0),(5,.ref 3 0)] [13,14] bM bN false none),(4,.box [.ref 0 0]),(0,.box (Y0.g c)),(3,.box [bv i]),(2,.box (YP.g j)),(1,.box (YZ.g e))]))) (fun⟨B,l⟩=>?_) aY (0,0)) fun b6=>?_;refine io ?_ rfl;refine bo rg fun Y=>?_;refine bo (Ue d 1 l 0 0 0 0 0 Y i j e) fun Z=>?_;rcases Z with _|_;rfl;refine bo rg fun a0=>?_;refine bz lm ?_;refine bo (aJ (S:=Int×Int) (enc:=fun⟨C,R⟩=>(Q [(0,.yld 5),(1,.ref 4 0),(3,i64 C),(4,i64 l),(15,i64 (c.Parts.length:Int)),(16,i64 l),(39,i64 (a0.Staves.length:Int)),(40,i64 R)] [(5,.loop 22 [(3,.ref 1 0),(4,.ref 2 0),(5,.ref 3 0)] [13,14] bM bN false none),(3,.box [bv i]),(2,.box (YP.g j)),(1,.box (YZ.g e)),(4,.box [.ref 0 0]),(0,.box (Y0.g c))])) (encE:=(fun|.inl ⟨T,U⟩=>(rq [(0,.yld 5),(1,.ref 4 0),(3,i64 T),(15,i64 (c.Parts.length:Int)),(16,i64 l)] [(5,.loop 22 [(3,.ref 1 0),(4,.ref 2 0),(5,.ref 3 0)] [13,14] bM bN false (some .ret)),(3,.box [bv true]),(2,.box [i64 2,i64 0,i64 U,i64 0,i64 0,i64 0,i64 0]),(1,.box (YZ.g e)),(4,.box [.ref 0 0]),(0,.box (Y0.g c))])|.inr x35=>(xq 2 [(0,.yld 5),(1,.ref 4 0),(3,i64 x35),(15,i64 (c.Parts.length:Int)),(16,i64 l)] [(5,.loop 22 [(3,.ref 1 0),(4,.ref 2 0),(5,.ref 3 0)] [13,14] bM bN false none),(3,.box [bv i]),(2,.box (YP.g j)),(1,.box (YZ.g e)),(4,.box [.ref 0 0]),(0,.box (Y0.g c))]))) (fun⟨C,R⟩=>?_) aY (B,0)) fun b5=>?_;refine io ?_ rfl;refine bo rg fun d4=>?_;refine bo rg fun b0=>?_;refine bo (Jc d 2 0 C 0 0 0 0 b0 i j e) fun b4=>?_;rcases b4 with _|_;rfl;rfl;rcases b5 with⟨T,U⟩|x35;rfl;rfl;rcases b6 with⟨V,W,X⟩|_;rfl;refine bz lm ?_;refine bo (aJ (S:=Int) (enc:=fun a=>(Q [(0,.yld 5),(1,.ref 4 0),(67,i64 (c.Measures.length:Int)),(68,i64 a)] [(5,.loop 22 [(3,.ref 1 0),(4,.ref 2 0),(5,.ref 3 0)] [13,14] bM bN false none),(4,.box [.ref 0 0]),(0,.box (Y0.g c)),(3,.box [bv i]),(2,.box (YP.g j)),(1,.box (YZ.g e))])) (encE:=(fun|.inl ⟨v,w,x,y,z⟩=>(rq [(0,.yld 5),(1,.ref 4 0)] [(5,.loop 22 [(3,.ref 1 0),(4,.ref 2 0),(5,.ref 3 0)] [13,14] bM bN false (some .ret)),(4,.box [.ref 0 0]),(0,.box (Y0.g c)),(3,.box [bv true]),(2,.box [i64 v,i64 0,i64 w,i64 x,i64 y,i64 z,i64 0]),(1,.box (YZ.g e))])|.inr _=>(xq 4 [(0,.yld 5),(1,.ref 4 0)] [(5,.loop 22 [(3,.ref 1 0),(4,.ref 2 0),(5,.ref 3 0)] [13,14] bM bN false none),(4,.box [.ref 0 0]),(0,.box (Y0.g c)),(3,.box [bv i]),(2,.box (YP.g j)),(1,.box (YZ.g e))]))) (fun a=>?_) aY 0) fun M=>?_;refine io ?_ rfl;refine bo rg fun D=>?_;refine bo (Jd d 3 0 0 a 0 0 0 D i j e) fun E=>?_;rcases E with _|_;rfl;refine bo rg fun h=>?_;refine bz lm ?_;refine bo (aJ (S:=Int) (enc:=fun b=>(Q [(0,.yld 5),(1,.ref 4 0),(6,i64 a),(67,i64 (c.Measures.length:Int)),(68,i64 a),(91,i64 (h.Cells.length:Int)),(92,i64 b)] [(5,.loop 22 [(3,.ref 1 0),(4,.ref 2 0),(5,.ref 3 0)] [13,14] bM bN false none),(3,.box [bv i]),(2,.box (YP.g j)),(1,.box (YZ.g e)),(4,.box [.ref 0 0]),(0,.box (Y0.g c))])) (encE:=(fun|.inl ⟨s,t,u⟩=>(rq [(0,.yld 5),(1,.ref 4 0),(67,i64 (c.Measures.length:Int)),(68,i64 a)] [(5,.loop 22 [(3,.ref 1 0),(4,.ref 2 0),(5,.ref 3 0)] [13,14] bM bN false (some .ret)),(3,.box [bv true]),(2,.box [i64 4,i64 0,i64 s,i64 a,i64 t,i64 u,i64 0]),(1,.box (YZ.g e)),(4,.box [.ref 0 0]),(0,.box (Y0.g c))])|.inr _=>(xq 6 [(0,.yld 5),(1,.ref 4 0),(67,i64 (c.Measures.length:Int)),(68,i64 a)] [(5,.loop 22 [(3,.ref 1 0),(4,.ref 2 0),(5,.ref 3 0)] [13,14] bM bN false none),(3,.box [bv i]),(2,.box (YP.g j)),(1,.box (YZ.g e)),(4,.box [.ref 0 0]),(0,.box (Y0.g c))]))) (fun b=>?_) aY 0) fun L=>?_;refine io ?_ rfl;refine bo rg fun b7=>?_;refine bo rg fun m=>?_;refine bz lm ?_;refine bo (aJ (S:=Int) (enc:=fun f=>(Q [(0,.yld 5),(1,.ref 4 0),(6,i64 a),(7,i64 b),(67,i64 (c.Measures.length:Int)),(68,i64 a),(91,i64 (h.Cells.length:Int)),(92,i64 b),(107,i64 (m.Voices.length:Int)),(108,i64 f)] [(5,.loop 22 [(3,.ref 1 0),(4,.ref 2 0),(5,.ref 3 0)] [13,14] bM bN false none),(3,.box [bv i]),(2,.box (YP.g j)),(1,.box (YZ.g e)),(4,.box [.ref 0 0]),(0,.box (Y0.g c))])) (encE:=(fun|.inl ⟨q,r⟩=>(rq [(0,.yld 5),(1,.ref 4 0),(6,i64 a),(67,i64 (c.Measures.length:Int)),(68,i64 a),(91,i64 (h.Cells.length:Int)),(92,i64 b)] [(5,.loop 22 [(3,.ref 1 0),(4,.ref 2 0),(5,.ref 3 0)] [13,14] bM bN false (some .ret)),(3,.box [bv true]),(2,.box [i64 4,i64 0,i64 b,i64 a,i64 q,i64 r,i64 0]),(1,.box (YZ.g e)),(4,.box [.ref 0 0]),(0,.box (Y0.g c))])|.inr _=>(xq 8 [(0,.yld 5),(1,.ref 4 0),(6,i64 a),(67,i64 (c.Measures.length:Int)),(68,i64 a),(91,i64 (h.Cells.length:Int)),(92,i64 b)] [(5,.loop 22 [(3,.ref 1 0),(4,.ref 2 0),(5,.ref 3 0)] [13,14] bM bN false none),(3,.box [bv i]),(2,.box (YP.g j)),(1,.box (YZ.g e)),(4,.box [.ref 0 0]),(0,.box (Y0.g c))]))) (fun f=>?_) aY 0) fun K=>?_;refine io ?_ rfl;refine bo rg fun b8=>?_;refine bo rg fun b9=>?_;refine bo rg fun F=>?_;refine bz lm ?_;refine bo (aJ (S:=Int) (enc:=fun n=>(Q [(0,.yld 5),(1,.ref 4 0),(6,i64 a),(7,i64 b),(8,i64 f),(67,i64 (c.Measures.length:Int)),(68,i64 a),(91,i64 (h.Cells.length:Int)),(92,i64 b),(107,i64 (m.Voices.length:Int)),(108,i64 f),(127,i64 (F.Events.length:Int)),(128,i64 n)] [(5,.loop 22 [(3,.ref 1 0),(4,.ref 2 0),(5,.ref 3 0)] [13,14] bM bN false none),(3,.box [bv i]),(2,.box (YP.g j)),(1,.box (YZ.g e)),(4,.box [.ref 0 0]),(0,.box (Y0.g c))])) (encE:=(fun|.inl p=>(rq [(0,.yld 5),(1,.ref 4 0),(6,i64 a),(7,i64 b),(67,i64 (c.Measures.length:Int)),(68,i64 a),(91,i64 (h.Cells.length:Int)),(92,i64 b),(107,i64 (m.Voices.length:Int)),(108,i64 f)] [(5,.loop 22 [(3,.ref 1 0),(4,.ref 2 0),(5,.ref 3 0)] [13,14] bM bN false (some .ret)),(3,.box [bv true]),(2,.box [i64 4,i64 0,i64 b,i64 a,i64 f,i64 p,i64 0]),(1,.box (YZ.g e)),(4,.box [.ref 0 0]),(0,.box (Y0.g c))])|.inr _=>(xq 10 [(0,.yld 5),(1,.ref 4 0),(6,i64 a),(7,i64 b),(67,i64 (c.Measures.length:Int)),(68,i64 a),(91,i64 (h.Cells.length:Int)),(92,i64 b),(107,i64 (m.Voices.length:Int)),(108,i64 f)] [(5,.loop 22 [(3,.ref 1 0),(4,.ref 2 0),(5,.ref 3 0)] [13,14] bM bN false none),(3,.box [bv i]),(2,.box (YP.g j)),(1,.box (YZ.g e)),(4,.box [.ref 0 0]),(0,.box (Y0.g c))]))) (fun n=>?_) aY 0) fun J=>?_;refine io ?_ rfl;refine bo rg fun d1=>?_;refine bo rg fun d2=>?_;refine bo rg fun d3=>?_;refine bo rg fun G=>?_;refine bo (Je d 4 0 b a f n 0 G i j e) fun H=>?_;rcases H with _|_;rfl;rfl;rcases J with p|_;rfl;rfl;rcases K with⟨q,r⟩|_;rfl;rfl;rcases L with⟨s,t,u⟩|_;rfl;rfl;rcases M with⟨v,w,x,y,z⟩|_;rfl;refine bz lm ?_;refine bo (aJ (S:=Int) (enc:=fun o=>(Q [(0,.yld 5),(1,.ref 4 0),(166,i64 (c.Spanners.length:Int)),(167,i64 o)] [(5,.loop 22 [(3,.ref 1 0),(4,.ref 2 0),(5,.ref 3 0)] [13,14] bM bN false none),(4,.box [.ref 0 0]),(0,.box (Y0.g c)),(3,.box [bv i]),(2,.box (YP.g j)),(1,.box (YZ.g e))])) (encE:=(fun|.inl A=>(rq [] [(5,.loop 22 [(3,.ref 1 0),(4,.ref 2 0),(5,.ref 3 0)] [13,14] bM bN false (some .ret)),(4,.box [.ref 0 0]),(0,.box (Y0.g c)),(3,.box [bv true]),(2,.box [i64 5,i64 0,i64 0,i64 0,i64 0,i64 0,i64 A]),(1,.box (YZ.g e))])|.inr _=>(xq 12 [] [(5,.loop 22 [(3,.ref 1 0),(4,.ref 2 0),(5,.ref 3 0)] [13,14] bM bN false none),(4,.box [.ref 0 0]),(0,.box (Y0.g c)),(3,.box [bv i]),(2,.box (YP.g j)),(1,.box (YZ.g e))]))) (fun o=>?_) aY 0) fun P=>?_;refine io ?_ rfl;refine bo rg fun N=>?_;refine bo (Jf d 5 0 0 0 0 0 o N i j e) fun O=>?_;rcases O with _|_;rfl;rfl;rcases P with A|_;rfl;rfl
end Go.P
namespace Go.P
open Go.Sim (Ex dQ CK)
open K (I Q rq nq xq ck)
def F11 (b:Y0) (a:YZ):aB (YP×Bool):=
 if((a.Site==0)&&((a.Number==0)&&true))!=false then some ((YP.mk 0 0 0 0 0 0 0),false)else(Cl b).bind fun _=>(Cm b false (YP.mk 0 0 0 0 0 0 0) a).bind fun c=>(match c with|.inl x3=>some (x3,true)|.inr _=>some ((YP.mk 0 0 0 0 0 0 0),false))
theorem yU1 [Inhabited Rc] {k} (d) (a:Y0) (b:YZ):OD k (d+3) 11 [.agg (Y0.g a),.agg (YZ.g b)]=(F11 a b).map (fun⟨e,f⟩=>.tup [.agg (YP.g e),bv f]):=by
 refine oe rfl ?_;refine io rfl ?_;refine bo (bD1 (d+1) a) fun _=>?_;refine bo (bE1 d a false (YP.mk 0 0 0 0 0 0 0) b) fun c=>?_;rcases c with h|_;rfl;rfl
def Ox (c:aA Int):aB (aA Int):=
 (tU (c.length:Int) (c.length:Int) 0).bind fun k=>(aR (E:=aA Int) (fun(⟨b,a⟩:Int×(aA Int))=>if decide (b<(c.length:Int))then(cE a (aU (b-1))).bind fun d=>(cX a d).bind fun e=>(aT c (aU (b-1))).bind fun f=>(cE a b).bind fun g=>(kT a g (fun j=>(aU (e+f)))).bind fun h=>some (.inl ((aU (b+1)),h))else some (.inr a)) aY (1,k)).bind fun i=>some i
theorem oJ1 [Inhabited Rc] {k} (d) (h:aA Int):OD k (d+1) 169 [.is 1 (I cI h)]=(Ox h).map (fun r=>.is 1 (I cI r)):=by
 refine oe rfl ?_;refine bz lm ?_;refine bo (jA cI _ _ 0) fun q=>?_;refine bo (aJ (S:=Int×(aA Int)) (enc:=fun⟨j,a⟩=>(Q [(0,.is 1 (I cI h)),(3,.own 0),(4,i64 j)] [(0,.lst 3 1 true (I cI a))])) (encE:=(fun(e:aA Int)=>(xq 0 [(3,.own 0)] [(0,.lst 3 1 true (I cI e))]))) (fun⟨j,a⟩=>?_) aY (1,q)) fun e=>?_;refine bz lm ?_;refine io ?_ rfl;refine bo (aW cI a _) fun l=>?_;refine bo (bY (A:=Int) (c:=cI) (g:=fun b=>i64 b) (fun _=>rfl) a _) fun b=>?_;refine bo rg fun i=>?_;refine bo (aW cI a _) fun n=>?_;refine bo (eT (A:=Int) (c:=cI) (m:=1) (f:=fun o=>(aU (b+i))) (fun _=>⟨rfl,rfl⟩) (jZ2 rfl) a _) fun p=>?_;rfl;rfl
def Jg (b:YO) (c:Int):aB ((aA Int)×Int):=
 (Jb b c).bind fun⟨d,a⟩=>if a !=0 then some ([],a)else(Ox d).bind fun e=>some (e,0)
theorem eJ1 [Inhabited Rc] {k} (d) (a:YO) (b:Int):OD k (d+14) 107 [.agg (YO.g a),i64 b]=(Jg a b).map (fun⟨e,f⟩=>.tup [.is 1 (I cI e),i64 f]):=by
 refine oe rfl ?_;refine bo (eF1 d a b) fun⟨c,h⟩=>?_;refine io rfl ?_;refine bo (oJ1 (d+12) c) fun i=>?_;rfl
def Uf (d:YK) (g:YZ):aB (YQ×Bool):=
 (F11 d.s' g).bind fun⟨a,h⟩=>if(!h)||(a.Kind !=4)then some ((YQ.mk 0 0 0 0),false)else(aT d.s'.Measures a.Measure).bind fun e=>(Dh e).bind fun⟨i,l⟩=>(aT e.Cells a.Staff).bind fun j=>(aT j.Voices a.Voice).bind fun k=>(Jg k i).bind fun⟨b,f⟩=>if decide (a.Event>=(b.length:Int))then some ((YQ.mk 0 0 0 0),false)else(aT b a.Event).bind fun c=>some ((YQ.mk a.Measure c a.Staff a.Voice),true)
theorem eK1 [Inhabited Rc] {k} (d) (a:YK) (b:YZ):OD k (d+15) 154 [.ip (YK.g a),.agg (YZ.g b)]=(Uf a b).map (fun⟨l,m⟩=>.tup [.agg (YQ.g l),bv m]):=by
 refine oe rfl ?_;refine bo (yU1 (d+11) a.s' b) fun⟨n,o⟩=>?_;refine bz (eU rfl) ?_;refine io rfl ?_;refine bo rg fun h=>?_;refine bo (Gi (d+10) h) fun⟨i,p⟩=>?_;refine bo rg fun q=>?_;refine bo rg fun j=>?_;refine bo (eJ1 d j i) fun⟨c,e⟩=>?_;refine bz lm ?_;refine io rfl ?_;refine bo rg fun f=>?_;rfl
def Jh (a b:Int):aB Bool:=
 some ((decide (a>=0))&&(decide (a<=b)))
theorem Ls [Inhabited Rc] {k} (d) (a b:Int):OD k (d+1) 211 [i64 a,i64 b]=(Jh a b).map bv:=by
 refine oe rfl ?_;refine bz (eN rfl) ?_;rfl
def Ug (a:YQ):aB Bool:=
 (Jh a.Measure 1023).bind fun b=>((if b then(Jh a.At 4398046511104).bind fun c=>some c else some false:aB (Bool))).bind fun d=>((if d then(Jh a.Staff 127).bind fun e=>some e else some false:aB (Bool))).bind fun f=>((if f then(Jh a.Voice 1).bind fun g=>some g else some false:aB (Bool))).bind fun h=>some h
theorem eL1 [Inhabited Rc] {k} (d) (a:YQ):OD k (d+2) 196 [.agg (YQ.g a)]=(Ug a).map bv:=by
 refine oe rfl ?_;refine bo (Ls d a.Measure 1023) fun b=>?_;refine bo (e:=id) ?_ fun f=>?_;refine io ?_ rfl;refine bo (Ls d a.At 4398046511104) fun c=>?_;rfl;refine bo (e:=id) ?_ fun i=>?_;refine io ?_ rfl;refine bo (Ls d a.Staff 127) fun h=>?_;rfl;refine bo (e:=id) ?_ fun l=>?_;refine io ?_ rfl;refine bo (Ls d a.Voice 1) fun j=>?_;rfl;rfl
def Uh (a:Int):aB Bool:=
 some ((a==1)||(a==7))
theorem eM1 [Inhabited Rc] {k} (d) (a:Int):OD k (d+1) 197 [i64 a]=(Uh a).map bv:=by
 refine oe rfl ?_;refine bz (eU rfl) ?_;rfl
def Oy (a:Int):aB Bool:=
 some (a !=a)
theorem eN1 [Inhabited Rc] {k} (d) (a:Int):OD k (d+1) 172 [i64 a]=(Oy a).map bv:=by
 refine oe rfl ?_;rfl
def oH (a b:Int):aB Int:=
 (Oy a).bind fun d=>(Oy b).bind fun c=>if d then if c then some 0 else some (-1)else if c then some 1 else if decide (a<b)then some (-1)else if decide (a>b)then some 1 else some 0
theorem nL [Inhabited Rc] {k} (d) (a b:Int):OD k (d+2) 112 [i64 a,i64 b]=(oH a b).map i64:=by
 refine oe rfl ?_;refine bo (eN1 d a) fun c=>?_;refine bo (eN1 d b) fun e=>?_;refine io ?_ ?_;refine io rfl rfl;refine io rfl ?_;refine io rfl ?_;refine io rfl rfl
def Ji (b:aA Int):aB Int:=
 (aR (E:=Int⊕Unit) (fun(a:Int)=>if decide (a<(b.length:Int))then(aT b a).bind fun c=>if c !=0 then some (.inr (.inl c))else some (.inl (aU (a+1)))else some (.inr (.inr ()))) aY 0).bind fun d=>(match d with|.inl x5=>some x5|.inr _=>some 0)
theorem eO1 [Inhabited Rc] {k} (d) (a:aA Int):OD k (d+1) 111 [.is 1 (I cI a)]=(Ji a).map i64:=by
 refine oe rfl ?_;refine bz lm ?_;refine bo (aJ (S:=Int) (enc:=fun b=>(Q [(3,i64 0),(6,.is 1 (I cI a)),(7,i64 (a.length:Int)),(8,i64 b)] [])) (encE:=(fun|.inl c=>(rq [(2,i64 c),(3,i64 0)] [])|.inr _=>(xq 0 [(3,i64 0)] []))) (fun b=>?_) aY 0) fun e=>?_;refine io ?_ rfl;refine bo rg fun f=>?_;refine io rfl rfl;rcases e with c|_;rfl;rfl
def yK (a b:YQ):aB Int:=
 (oH a.Measure b.Measure).bind fun c=>(oH a.At b.At).bind fun d=>(Ji [c,d]).bind fun e=>some e
theorem xM [Inhabited Rc] {k} (d) (a b:YQ):OD k (d+3) 198 [.agg (YQ.g a),.agg (YQ.g b)]=(yK a b).map i64:=by
 refine oe rfl ?_;refine bo (nL d a.Measure b.Measure) fun c=>?_;refine bo (nL d a.At b.At) fun e=>?_;refine bo (eO1 (d+1) [c,e]) fun f=>?_;rfl
def bF1 (a:YS):aB Int:=
 if(decide (a.Kind<1))||(decide (a.Kind>7))then some 11 else(Ug a.From).bind fun b=>((if !b then some true else(Ug a.To).bind fun c=>some (!c):aB (Bool))).bind fun d=>if d then some 2 else((if a.From.Staff !=a.To.Staff then some true else(Uh a.Kind).bind fun e=>some (e&&(a.From.Voice !=a.To.Voice)):aB (Bool))).bind fun f=>if f then some 23 else(yK a.From a.To).bind fun g=>if decide (g>=0)then some 25 else some 0
theorem oK1 [Inhabited Rc] {k} (d) (a:YS):OD k (d+4) 155 [.agg (YS.g a)]=(bF1 a).map i64:=by
 refine oe rfl ?_;refine bz (eU rfl) ?_;refine io rfl ?_;refine bo (eL1 (d+1) a.From) fun b=>?_;refine bo (e:=id) ?_ fun f=>?_;refine io rfl ?_;refine bo (eL1 (d+1) a.To) fun c=>?_;rfl;refine io rfl ?_;refine bo (e:=id) ?_ fun i=>?_;refine io rfl ?_;refine bo (eM1 (d+2) a.Kind) fun h=>?_;refine bz (eN rfl) ?_;rfl;refine io rfl ?_;refine bo (xM d a.From a.To) fun j=>?_;refine io rfl rfl
def Ui (p:aA YV) (g:Y0) (q:Int):aB ((aA Bool)×(aA YS)):=
 (aR (E:=(aA Bool)×(aA YS)) (fun(⟨b,c,d⟩:Int×(aA Bool)×(aA YS))=>if decide (b<(g.Spanners.length:Int))then(aT g.Spanners b).bind fun a=>(Uf (YK.mk g q p) a.From).bind fun⟨e,h⟩=>(Uf (YK.mk g q p) a.To).bind fun⟨f,i⟩=>(jR false d [(YS.mk a.Kind e f)]).bind fun j=>((if(!h)||(!i)then some true else(bF1 (YS.mk a.Kind e f)).bind fun k=>some (k !=0):aB (Bool))).bind fun l=>(jR false c [l]).bind fun m=>some (.inl ((aU (b+1)),m,j))else some (.inr (c,d))) aY (0,[],[])).bind fun⟨n,o⟩=>some (n,o)
theorem eP1 [Inhabited Rc] {k} (d) (c:aA YV) (b:Y0) (i:Int):dC (XD k (d+16)) 92 [.ref 1 0] [(2,.lst 120 3 false (I YV.g c)),(1,.box (ck b i (.own 2)))] 3 true=(Ui c b i).map (fun(⟨q,r⟩:(aA Bool)×(aA YS))=>((.tup [.own 3,.own 4],[(4,.lst 4 1 false (I cB q)),(3,.lst 184 9 false (I YS.g r)),(2,.lst 120 3 false (I YV.g c)),(1,.box (ck b i (.own 2)))],5))):=by
 rw[xd (fn:=p92) rfl];refine bz lm ?_;refine bo (aJ (S:=Int×(aA Bool)×(aA YS)) (enc:=fun⟨j,f,h⟩=>(Q [(0,.ref 1 0),(4,.own 3),(5,.own 4),(17,.is 7 (I YN.g b.Spanners)),(18,i64 (b.Spanners.length:Int)),(19,i64 j)] [(4,.lst 4 1 false (I cB f)),(3,.lst 184 9 false (I YS.g h)),(2,.lst 120 3 false (I YV.g c)),(1,.box (ck b i (.own 2)))])) (encE:=(fun(⟨n,o⟩:(aA Bool)×(aA YS))=>(xq 0 [(4,.own 3),(5,.own 4)] [(4,.lst 4 1 false (I cB n)),(3,.lst 184 9 false (I YS.g o)),(2,.lst 120 3 false (I YV.g c)),(1,.box (ck b i (.own 2)))]))) (fun⟨j,f,h⟩=>?_) aY (0,[],[])) fun⟨n,o⟩=>?_;refine io ?_ rfl;refine bo rg fun a=>?_;refine bo (eK1 d (YK.mk b i c) a.From) fun⟨l,s⟩=>?_;refine bo (eK1 d (YK.mk b i c) a.To) fun⟨m,t⟩=>?_;refine bo (cC false YS.g h [(YS.mk a.Kind l m)]) fun u=>?_;refine bz (eU rfl) ?_;refine bo (e:=id) ?_ fun p=>?_;refine io rfl ?_;refine bo (oK1 (d+11) (YS.mk a.Kind l m)) fun v=>?_;rfl;refine bo (cC false cB f [p]) fun w=>?_;rfl;rfl
def bG1 (i:aA YV) (c:Y0) (j:Int):aB (aA YV):=
 (Ui i c j).bind fun⟨k,l⟩=>(aR (E:=aA YV) (fun(⟨a,b⟩:Int×(aA YV))=>if decide (a<(c.Spanners.length:Int))then(aT c.Spanners a).bind fun d=>(cE k a).bind fun e=>(cX k e).bind fun f=>(hY f d.ID b c j).bind fun g=>some (.inl ((aU (a+1)),g))else some (.inr b)) aY (0,i)).bind fun h=>some h
theorem oL1 [Inhabited Rc] {k} (d) (j:aA YV) (a:Y0) (f:Int):dC (XD k (d+17)) 40 [.ref 1 0] [(2,.lst 120 3 false (I YV.g j)),(1,.box (ck a f (.own 2)))] 3 false=(bG1 j a f).map (fun(n:aA YV)=>((.tup [],[(2,.lst 120 3 false (I YV.g n)),(1,.box (ck a f (.own 2)))],0))):=by
 rw[xd (fn:=p40) rfl];refine bo (eP1 d j a f) fun⟨l,o⟩=>?_;refine bz lm ?_;refine bo (aJ (S:=Int×(aA YV)) (enc:=fun⟨h,b⟩=>(Q [(0,.ref 1 0),(3,.own 4),(15,.is 7 (I YN.g a.Spanners)),(16,i64 (a.Spanners.length:Int)),(17,i64 h)] [(4,.lst 4 1 false (I cB l)),(3,.lst 184 9 false (I YS.g o)),(2,.lst 120 3 false (I YV.g b)),(1,.box (ck a f (.own 2)))])) (encE:=(fun(i:aA YV)=>(xq 0 [] [(4,.lst 4 1 false (I cB l)),(3,.lst 184 9 false (I YS.g o)),(2,.lst 120 3 false (I YV.g i)),(1,.box (ck a f (.own 2)))]))) (fun⟨h,b⟩=>?_) aY (0,j)) fun i=>?_;refine io ?_ rfl;refine bo rg fun m=>?_;refine bo (aW cB l _) fun p=>?_;refine bo (bY (A:=Bool) (c:=cB) (g:=fun e=>bv e) (fun _=>rfl) l _) fun e=>?_;refine bo (fS (d+15) e m.ID b a f) fun q=>?_;rfl;rfl
def Oz (a:Int):aB Int:=
 if(decide (a<1))||(decide (a>7))then some 0 else(aT [1,2,2,4,4,6,7] (aU (a-1))).bind fun b=>some b
theorem Uj [Inhabited Rc] {k} (d) (a:Int):OD k (d+1) 199 [i64 a]=(Oz a).map i64:=by
 refine oe rfl ?_;refine bz (eU rfl) ?_;refine io rfl ?_;refine bo (pI .i64 [1,2,2,4,4,6,7] (aU (a-1)) rfl) fun b=>?_;rfl
def bH1 (a b:YS):aB Bool:=
 (Oz a.Kind).bind fun c=>((if decide (c>0)then(Oz a.Kind).bind fun d=>(Oz b.Kind).bind fun e=>some (d==e)else some false:aB (Bool))).bind fun f=>((if f&&(a.From.Staff==b.From.Staff)then(Uh a.Kind).bind fun g=>some ((!g)||(a.From.Voice==b.From.Voice))else some false:aB (Bool))).bind fun h=>some h
theorem oM1 [Inhabited Rc] {k} (d) (a b:YS):OD k (d+2) 156 [.agg (YS.g a),.agg (YS.g b)]=(bH1 a b).map bv:=by
 refine oe rfl ?_;refine bo (Uj d a.Kind) fun c=>?_;refine bo (e:=id) ?_ fun i=>?_;refine io ?_ rfl;refine bo (Uj d a.Kind) fun f=>?_;refine bo (Uj d b.Kind) fun h=>?_;rfl;refine bz (eN rfl) ?_;refine bo (e:=id) ?_ fun l=>?_;refine io ?_ rfl;refine bo (eM1 d a.Kind) fun j=>?_;refine bz (eU rfl) ?_;rfl;rfl
def bI1 (a b:YS):aB Bool:=
 (yK a.To b.From).bind fun c=>((if decide (c<0)then some true else(yK b.To a.From).bind fun d=>some (decide (d<0)):aB (Bool))).bind fun e=>some e
theorem oN1 [Inhabited Rc] {k} (d) (a b:YS):OD k (d+4) 160 [.agg (YS.g a),.agg (YS.g b)]=(bI1 a b).map bv:=by
 refine oe rfl ?_;refine bo (xM d a.To b.From) fun c=>?_;refine bo (e:=id) ?_ fun h=>?_;refine io rfl ?_;refine bo (xM d b.To a.From) fun f=>?_;rfl;rfl
def Pa (a b:YS):aB Bool:=
 (bI1 a b).bind fun c=>some (!c)
theorem Uk [Inhabited Rc] {k} (d) (a b:YS):OD k (d+5) 159 [.agg (YS.g a),.agg (YS.g b)]=(Pa a b).map bv:=by
 refine oe rfl ?_;refine bo (oN1 d a b) fun c=>?_;rfl
def Ul (a b:YS):aB Bool:=
 (yK a.To b.From).bind fun c=>((if decide (c<=0)then some true else(yK b.To a.From).bind fun d=>some (decide (d<=0)):aB (Bool))).bind fun e=>some e
theorem eQ1 [Inhabited Rc] {k} (d) (a b:YS):OD k (d+4) 158 [.agg (YS.g a),.agg (YS.g b)]=(Ul a b).map bv:=by
 refine oe rfl ?_;refine bo (xM d a.To b.From) fun c=>?_;refine bo (e:=id) ?_ fun h=>?_;refine io rfl ?_;refine bo (xM d b.To a.From) fun f=>?_;rfl;rfl
def Pb (a b:YS):aB Bool:=
 (Ul a b).bind fun c=>some (!c)
theorem Um [Inhabited Rc] {k} (d) (a b:YS):OD k (d+5) 157 [.agg (YS.g a),.agg (YS.g b)]=(Pb a b).map bv:=by
 refine oe rfl ?_;refine bo (eQ1 d a b) fun c=>?_;rfl
def Un (a b:YS):aB Bool:=
 (yK a.From b.From).bind fun c=>((if decide (c>=0)then(yK a.To b.To).bind fun d=>some (decide (d<=0))else some false:aB (Bool))).bind fun e=>some e
theorem eR1 [Inhabited Rc] {k} (d) (a b:YS):OD k (d+4) 200 [.agg (YS.g a),.agg (YS.g b)]=(Un a b).map bv:=by
 refine oe rfl ?_;refine bo (xM d a.From b.From) fun c=>?_;refine bo (e:=id) ?_ fun h=>?_;refine io ?_ rfl;refine bo (xM d a.To b.To) fun f=>?_;rfl;rfl
def bJ1 (a b:YS):aB Bool:=
 (Ul a b).bind fun c=>((if !c then(Un a b).bind fun d=>(Un b a).bind fun e=>some ((d==e)!=false)else some false:aB (Bool))).bind fun f=>some f
theorem oO1 [Inhabited Rc] {k} (d) (a b:YS):OD k (d+5) 161 [.agg (YS.g a),.agg (YS.g b)]=(bJ1 a b).map bv:=by
 refine oe rfl ?_;refine bo (eQ1 d a b) fun c=>?_;refine bo (e:=id) ?_ fun i=>?_;refine io ?_ rfl;refine bo (eR1 d a b) fun f=>?_;refine bo (eR1 d b a) fun h=>?_;rfl;rfl
def F93 (a b:YS):aB Bool:=
 (bH1 a b).bind fun d=>if !d then some false else if(aU (a.Kind-1))==6 then(Pa a b).bind fun e=>some e else if(aU (a.Kind-1))==5 then(Pb a b).bind fun f=>some f else if(aU (a.Kind-1))==4 then(Pa a b).bind fun g=>some g else if(aU (a.Kind-1))==3 then(Pa a b).bind fun h=>some h else if(aU (a.Kind-1))==2 then(Pb a b).bind fun i=>some i else if(aU (a.Kind-1))==1 then(Pb a b).bind fun j=>some j else if(aU (a.Kind-1))==0 then(bJ1 a b).bind fun c=>some c else none
theorem yV1 [Inhabited Rc] {k} (d) (a b:YS):OD k (d+6) 93 [.agg (YS.g a),.agg (YS.g b)]=(F93 a b).map bv:=by
 refine oe rfl ?_;refine bo (oM1 (d+3) a b) fun e=>?_;refine io rfl ?_;refine io ?_ ?_;refine bo (Uk d a b) fun f=>?_;rfl;refine io ?_ ?_;refine bo (Um d a b) fun h=>?_;rfl;refine io ?_ ?_;refine bo (Uk d a b) fun i=>?_;rfl;refine io ?_ ?_;refine bo (Uk d a b) fun j=>?_;rfl;refine io ?_ ?_;refine bo (Um d a b) fun l=>?_;rfl;refine io ?_ ?_;refine bo (Um d a b) fun m=>?_;rfl;refine io ?_ ?_;refine bo (oO1 d a b) fun c=>?_;rfl;rfl
def bK1 (w:aA YV) (e:Y0) (x:Int):aB (aA YV):=
 (Ui w e x).bind fun⟨f,g⟩=>(aR (E:=aA YV) (fun(⟨a,c⟩:Int×(aA YV))=>if decide (a<(e.Spanners.length:Int))then(aT e.Spanners a).bind fun h=>(aR (E:=Bool) (fun(⟨d,b⟩:Bool×Int)=>((if decide (b<a)then(cE f a).bind fun i=>(cX f i).bind fun j=>some (!j)else some false:aB (Bool))).bind fun k=>if k&&(!d)then(cE f b).bind fun l=>(cX f l).bind fun m=>((if !m then(cE g b).bind fun n=>(cX g n).bind fun o=>(cE g a).bind fun p=>(cX g p).bind fun q=>(F93 o q).bind fun r=>some r else some false:aB (Bool))).bind fun s=>some (.inl (s,(aU (b+1))))else some (.inr d)) aY (false,0)).bind fun t=>(hY t h.ID c e x).bind fun u=>some (.inl ((aU (a+1)),u))else some (.inr c)) aY (0,w)).bind fun v=>some v
theorem oP1 [Inhabited Rc] {k} (d) (v:aA YV) (f:Y0) (j:Int):dC (XD k (d+17)) 41 [.ref 1 0] [(2,.lst 120 3 false (I YV.g v)),(1,.box (ck f j (.own 2)))] 3 false=(bK1 v f j).map (fun(w:aA YV)=>((.tup [],[(2,.lst 120 3 false (I YV.g w)),(1,.box (ck f j (.own 2)))],0))):=by
 rw[xd (fn:=p41) rfl];refine bo (eP1 d v f j) fun⟨l,n⟩=>?_;refine bz lm ?_;refine bo (aJ (S:=Int×(aA YV)) (enc:=fun⟨h,i⟩=>(Q [(0,.ref 1 0),(2,.own 3),(3,.own 4),(17,.is 7 (I YN.g f.Spanners)),(18,i64 (f.Spanners.length:Int)),(19,i64 h)] [(4,.lst 4 1 false (I cB l)),(3,.lst 184 9 false (I YS.g n)),(2,.lst 120 3 false (I YV.g i)),(1,.box (ck f j (.own 2)))])) (encE:=(fun(u:aA YV)=>(xq 0 [] [(4,.lst 4 1 false (I cB l)),(3,.lst 184 9 false (I YS.g n)),(2,.lst 120 3 false (I YV.g u)),(1,.box (ck f j (.own 2)))]))) (fun⟨h,i⟩=>?_) aY (0,v)) fun u=>?_;refine io ?_ rfl;refine bo rg fun o=>?_;refine bo (aJ (S:=Bool×Int) (enc:=fun⟨q,r⟩=>(Q [(0,.ref 1 0),(2,.own 3),(3,.own 4),(4,i64 h),(5,.ref 5 0),(6,bv q),(7,i64 r),(17,.is 7 (I YN.g f.Spanners)),(18,i64 (f.Spanners.length:Int)),(19,i64 h)] [(5,.box (YN.g o)),(4,.lst 4 1 false (I cB l)),(3,.lst 184 9 false (I YS.g n)),(2,.lst 120 3 false (I YV.g i)),(1,.box (ck f j (.own 2)))])) (encE:=(fun(p:Bool)=>(xq 2 [(0,.ref 1 0),(2,.own 3),(3,.own 4),(5,.ref 5 0),(6,bv p),(17,.is 7 (I YN.g f.Spanners)),(18,i64 (f.Spanners.length:Int)),(19,i64 h)] [(5,.box (YN.g o)),(4,.lst 4 1 false (I cB l)),(3,.lst 184 9 false (I YS.g n)),(2,.lst 120 3 false (I YV.g i)),(1,.box (ck f j (.own 2)))]))) (fun⟨q,r⟩=>?_) aY (false,0)) fun p=>?_;refine bo (e:=id) ?_ fun y=>?_;refine io ?_ rfl;refine bo (aW cB l _) fun x=>?_;refine bo (bY (A:=Bool) (c:=cB) (g:=fun s=>bv s) (fun _=>rfl) l _) fun s=>?_;rfl;refine bz (eN rfl) ?_;refine io ?_ rfl;refine bo (aW cB l _) fun z=>?_;refine bo (bY (A:=Bool) (c:=cB) (g:=fun t=>bv t) (fun _=>rfl) l _) fun t=>?_;refine bo (e:=id) ?_ fun E=>?_;refine io ?_ rfl;refine bo (aW YS.g n _) fun B=>?_;refine bo (bW (A:=YS) (c:=YS.g) (m:=9) (g:=fun a=>[i64 a.Kind,i64 a.From.Measure,i64 a.From.At,i64 a.From.Staff,i64 a.From.Voice,i64 a.To.Measure,i64 a.To.At,i64 a.To.Staff,i64 a.To.Voice]) (fun _=>⟨rfl,rfl⟩) (jZ2 rfl) n _) fun a=>?_;refine bo (aW YS.g n _) fun C=>?_;refine bo (bW (A:=YS) (c:=YS.g) (m:=9) (g:=fun b=>[i64 b.Kind,i64 b.From.Measure,i64 b.From.At,i64 b.From.Staff,i64 b.From.Voice,i64 b.To.Measure,i64 b.To.At,i64 b.To.Staff,i64 b.To.Voice]) (fun _=>⟨rfl,rfl⟩) (jZ2 rfl) n _) fun b=>?_;refine bo (yV1 (d+10) a b) fun D=>?_;rfl;rfl;refine bo (fS (d+15) p o.ID i f j) fun F=>?_;rfl;rfl
def F94 (f:Int) (a:YM):aB Bool:=
 ((if a.RepeatEnd !=0 then(yJ a.RepeatEnd 2 8).bind fun b=>some (!b)else some false:aB (Bool))).bind fun c=>((if c then some true else(yJ a.Endings 0 255).bind fun d=>some (!d):aB (Bool))).bind fun e=>some e
theorem yW1 [Inhabited Rc] {k} (d) (b:Int) (a:YM):OD k (d+2) 94 [i64 b,.agg (YM.g a)]=(F94 b a).map bv:=by
 refine oe rfl ?_;refine bo (e:=id) ?_ fun f=>?_;refine io ?_ rfl;refine bo (nK d a.RepeatEnd 2 8) fun c=>?_;rfl;refine bo (e:=id) ?_ fun i=>?_;refine io rfl ?_;refine bo (nK d a.Endings 0 255) fun h=>?_;rfl;rfl
def Cn (h:aA YV) (e:Y0) (i:Int):aB (aA YV):=
 (aR (E:=aA YV) (fun(⟨a,f⟩:Int×(aA YV))=>if decide (a<(e.Measures.length:Int))then(aT e.Measures a).bind fun g=>(F94 a g).bind fun b=>(hY b g.ID f e i).bind fun c=>some (.inl ((aU (a+1)),c))else some (.inr f)) aY (0,h)).bind fun d=>some d
theorem bL1 [Inhabited Rc] {k} (d) (e:aA YV) (a:Y0) (b:Int):dC (XD k (d+3)) 66 [.ref 1 0,.fn 94 [] []] [(2,.lst 120 3 false (I YV.g e)),(1,.box (ck a b (.own 2)))] 3 false=(Cn e a b).map (fun(h:aA YV)=>((.tup [],[(2,.lst 120 3 false (I YV.g h)),(1,.box (ck a b (.own 2)))],0))):=by
 rw[xd (fn:=Xz) rfl];refine bz lm ?_;refine bo (aJ (S:=Int×(aA YV)) (enc:=fun⟨i,j⟩=>(Q [(0,.ref 1 0),(1,.fn 94 [] []),(10,.is 22 (I YM.g a.Measures)),(11,i64 (a.Measures.length:Int)),(12,i64 i)] [(2,.lst 120 3 false (I YV.g j)),(1,.box (ck a b (.own 2)))])) (encE:=(fun(c:aA YV)=>(xq 0 [] [(2,.lst 120 3 false (I YV.g c)),(1,.box (ck a b (.own 2)))]))) (fun⟨i,j⟩=>?_) aY (0,e)) fun c=>?_;refine io ?_ rfl;refine bo rg fun l=>?_;refine bo (yW1 d i l) fun f=>?_;refine bo (fS (d+1) f l.ID j a b) fun m=>?_;rfl;rfl
def bM1 (a:Int):aB Int:=
 ((if decide (a>=4294967296)then(rB .u64 a 32).bind fun h=>some (h,32)else some (a,0):aB (Int×Int))).bind fun⟨d,f⟩=>((if decide (d>=65536)then(rB .u64 d 16).bind fun i=>some (i,(aU (f+16)))else some (d,f):aB (Int×Int))).bind fun⟨e,g⟩=>((if decide (e>=256)then(rB .u64 e 8).bind fun j=>some (j,(aU (g+8)))else some (e,g):aB (Int×Int))).bind fun⟨k,b⟩=>(mZ (⟨#[0,1,2,2,3,3,3,3,4,4,4,4,4,4,4,4,5,5,5,5,5,5,5,5,5,5,5,5,5,5,5,5,6,6,6,6,6,6,6,6,6,6,6,6,6,6,6,6,6,6,6,6,6,6,6,6,6,6,6,6,6,6,6,6,7,7,7,7,7,7,7,7,7,7,7,7,7,7,7,7,7,7,7,7,7,7,7,7,7,7,7,7,7,7,7,7,7,7,7,7,7,7,7,7,7,7,7,7,7,7,7,7,7,7,7,7,7,7,7,7,7,7,7,7,7,7,7,7,8,8,8,8,8,8,8,8,8,8,8,8,8,8,8,8,8,8,8,8,8,8,8,8,8,8,8,8,8,8,8,8,8,8,8,8,8,8,8,8,8,8,8,8,8,8,8,8,8,8,8,8,8,8,8,8,8,8,8,8,8,8,8,8,8,8,8,8,8,8,8,8,8,8,8,8,8,8,8,8,8,8,8,8,8,8,8,8,8,8,8,8,8,8,8,8,8,8,8,8,8,8,8,8,8,8,8,8,8,8,8,8,8,8,8,8,8,8,8,8,8,8,8,8,8,8,8,8]⟩:ByteArray) (IntKind.wrap .u8 (k))).bind fun c=>some (aU (b+(aU (c))))
theorem oQ1 [Inhabited Rc] {k} (d) (b:Int):OD k (d+1) 213 [.v (.int .u64 b)]=(bM1 b).map i64:=by
 refine oe rfl ?_;refine bo (e:=(fun(⟨c,f⟩:Int×Int)=>(nq [(0,.v (.int .u64 c)),(2,i64 f)] []))) ?_ fun⟨c,f⟩=>?_;refine io ?_ rfl;refine bo oi fun l=>?_;rfl;refine bo (e:=(fun(⟨g,h⟩:Int×Int)=>(nq [(0,.v (.int .u64 g)),(2,i64 h)] []))) ?_ fun⟨g,h⟩=>?_;refine io ?_ rfl;refine bo oi fun m=>?_;rfl;refine bo (e:=(fun(⟨i,a⟩:Int×Int)=>(nq [(0,.v (.int .u64 i)),(2,i64 a)] []))) ?_ fun⟨i,a⟩=>?_;refine io ?_ rfl;refine bo oi fun n=>?_;rfl;refine bo oi fun j=>?_;rfl
def Jj (a:Int):aB Int:=
 (bM1 a).bind fun b=>some b
theorem Lt [Inhabited Rc] {k} (d) (a:Int):OD k (d+2) 201 [.v (.int .u64 a)]=(Jj a).map i64:=by
 refine oe rfl ?_;refine bo (oQ1 d a) fun b=>?_;rfl
def F96 (a:YG):aB Bool:=
 ((if decide (a.passes>0)then(Xr .i64 1 (aU (a.passes-1))).bind fun b=>some (a.ending==b)else some false:aB (Bool))).bind fun c=>some c
theorem Pc [Inhabited Rc] {k} (d) (a:YG):OD k (d+1) 96 [.agg (YG.g a)]=(F96 a).map bv:=by
 refine oe rfl ?_;refine bo (e:=id) ?_ fun c=>?_;refine io ?_ rfl;refine bo oi fun b=>?_;rfl;rfl
def bO1 (a:YG) (b:YM):aB (YG×Bool):=
 if b.RepeatStart||(a.body==0)then some (a,false)else if b.Endings !=a.ending then if((a.ending !=0)&&(!a.ended))||((Bp .i64 b.Endings a.used)!=0)then some (a,false)else(Jj (IntKind.wrap .u64 (b.Endings))).bind fun k=>if a.passes==0 then if((Bp .i64 b.Endings 1)==0)||(decide ((aU (k-1))>6))then some ((YG.mk a.started a.body (Iw .i64 a.used b.Endings) b.Endings false a.passes),false)else if b.RepeatEnd !=0 then(F96 (YG.mk a.started a.body (Iw .i64 a.used b.Endings) b.Endings false a.passes)).bind fun l=>((if l||((a.passes !=0)&&(b.RepeatEnd !=a.passes))then some true else(Jj (IntKind.wrap .u64 (b.Endings))).bind fun m=>some (decide (m>=b.RepeatEnd)):aB (Bool))).bind fun n=>if n then some ((YG.mk a.started a.body (Iw .i64 a.used b.Endings) b.Endings false a.passes),false)else some ((YG.mk a.started a.body (Iw .i64 a.used b.Endings) b.Endings true b.RepeatEnd),true)else some ((YG.mk a.started a.body (Iw .i64 a.used b.Endings) b.Endings false a.passes),true)else((if decide ((aU (k-1))>=a.passes)then some true else((if(aU (k-1))==(aU (a.passes-1))then(F96 (YG.mk a.started a.body (Iw .i64 a.used b.Endings) b.Endings false a.passes)).bind fun o=>((if !o then some true else(Xr .i64 1 a.passes).bind fun p=>some ((Iw .i64 a.used b.Endings)!=(aU (p-1))):aB (Bool))).bind fun q=>some q else some false:aB (Bool))).bind fun c=>some c:aB (Bool))).bind fun d=>if d then some ((YG.mk a.started a.body (Iw .i64 a.used b.Endings) b.Endings false a.passes),false)else if b.RepeatEnd !=0 then(F96 (YG.mk a.started a.body (Iw .i64 a.used b.Endings) b.Endings false a.passes)).bind fun e=>((if e||((a.passes !=0)&&(b.RepeatEnd !=a.passes))then some true else(Jj (IntKind.wrap .u64 (b.Endings))).bind fun f=>some (decide (f>=b.RepeatEnd)):aB (Bool))).bind fun g=>if g then some ((YG.mk a.started a.body (Iw .i64 a.used b.Endings) b.Endings false a.passes),false)else some ((YG.mk a.started a.body (Iw .i64 a.used b.Endings) b.Endings true b.RepeatEnd),true)else some ((YG.mk a.started a.body (Iw .i64 a.used b.Endings) b.Endings false a.passes),true)else if a.ended then some (a,false)else if b.RepeatEnd !=0 then(F96 a).bind fun h=>((if h||((a.passes !=0)&&(b.RepeatEnd !=a.passes))then some true else(Jj (IntKind.wrap .u64 (a.ending))).bind fun i=>some (decide (i>=b.RepeatEnd)):aB (Bool))).bind fun j=>if j then some (a,false)else some ((YG.mk a.started a.body a.used a.ending true b.RepeatEnd),true)else some (a,true)
theorem oR1 [Inhabited Rc] {k} (d) (a:YG) (b:YM):OD k (d+3) 162 [.agg (YG.g a),.agg (YM.g b)]=(bO1 a b).map (fun⟨o,p⟩=>.tup [.agg (YG.g o),bv p]):=by
 refine oe rfl ?_;refine bz (eU rfl) ?_;refine io rfl ?_;refine io ?_ ?_;refine bz (eN rfl) ?_;refine bz (eU rfl) ?_;refine io rfl ?_;refine bo (Lt d (IntKind.wrap .u64 (b.Endings))) fun q=>?_;refine io ?_ ?_;refine bz (eU rfl) ?_;refine io rfl ?_;refine io ?_ rfl;refine bo (Pc (d+1) (YG.mk a.started a.body (Iw .i64 a.used b.Endings) b.Endings false a.passes)) fun r=>?_;refine bz (eU (bz (eN rfl) rfl)) ?_;refine bo (e:=id) ?_ fun t=>?_;refine io rfl ?_;refine bo (Lt d (IntKind.wrap .u64 (b.Endings))) fun s=>?_;rfl;refine io rfl rfl;refine bo (e:=id) ?_ fun f=>?_;refine io rfl ?_;refine bo (e:=id) ?_ fun c=>?_;refine io ?_ rfl;refine bo (Pc (d+1) (YG.mk a.started a.body (Iw .i64 a.used b.Endings) b.Endings false a.passes)) fun u=>?_;refine bo (e:=id) ?_ fun w=>?_;refine io rfl ?_;refine bo oi fun v=>?_;rfl;rfl;rfl;refine io rfl ?_;refine io ?_ rfl;refine bo (Pc (d+1) (YG.mk a.started a.body (Iw .i64 a.used b.Endings) b.Endings false a.passes)) fun h=>?_;refine bz (eU (bz (eN rfl) rfl)) ?_;refine bo (e:=id) ?_ fun j=>?_;refine io rfl ?_;refine bo (Lt d (IntKind.wrap .u64 (b.Endings))) fun i=>?_;rfl;refine io rfl rfl;refine io rfl ?_;refine io ?_ rfl;refine bo (Pc (d+1) a) fun l=>?_;refine bz (eU (bz (eN rfl) rfl)) ?_;refine bo (e:=id) ?_ fun n=>?_;refine io rfl ?_;refine bo (Lt d (IntKind.wrap .u64 (a.ending))) fun m=>?_;rfl;refine io rfl rfl
def F95 (a:YG) (b:YM):aB (YG×Bool):=
 if b.Endings !=0 then(bO1 a b).bind fun⟨e,f⟩=>some (e,f)else if a.ending !=0 then(F96 a).bind fun g=>if !g then some (a,false)else if b.RepeatStart then if false then some ((YG.mk false 0 0 0 false 0),false)else((if b.RepeatEnd !=0 then some (false,0)else some (true,1):aB (Bool×Int))).bind fun⟨h,i⟩=>some ((YG.mk h i 0 0 false 0),true)else((if b.RepeatEnd !=0 then some 0 else some 1:aB (Int))).bind fun j=>some ((YG.mk false j 0 0 false 0),true)else if b.RepeatStart then if a.started then some (a,false)else((if b.RepeatEnd !=0 then some (false,0)else some (true,1):aB (Bool×Int))).bind fun⟨k,c⟩=>some ((YG.mk k c 0 0 false 0),true)else((if b.RepeatEnd !=0 then some (YG.mk false 0 0 0 false 0)else some (YG.mk a.started (aU (a.body+1)) a.used a.ending a.ended a.passes):aB (YG))).bind fun d=>some (d,true)
theorem yX1 [Inhabited Rc] {k} (d) (f:YG) (a:YM):OD k (d+4) 95 [.agg (YG.g f),.agg (YM.g a)]=(F95 f a).map (fun⟨m,n⟩=>.tup [.agg (YG.g m),bv n]):=by
 refine oe rfl ?_;refine io ?_ ?_;refine bo (oR1 d f a) fun⟨o,p⟩=>?_;rfl;refine io ?_ ?_;refine bo (Pc (d+2) f) fun q=>?_;refine io rfl ?_;refine io ?_ ?_;refine io rfl ?_;refine bo (e:=(fun(⟨h,i⟩:Bool×Int)=>(nq [(2,.ref 0 0),(4,.ref 2 0)] [(2,.box [bv false,i64 0,i64 0,i64 0,bv false,i64 0]),(1,.box (YM.g a)),(0,.box [bv h,i64 i,i64 0,i64 0,bv false,i64 0])]))) ?_ fun⟨h,i⟩=>?_;refine io rfl rfl;rfl;refine bo (e:=(fun(j:Int)=>(nq [(2,.ref 0 0),(4,.ref 2 0)] [(2,.box [bv false,i64 0,i64 0,i64 0,bv false,i64 0]),(1,.box (YM.g a)),(0,.box [bv false,i64 j,i64 0,i64 0,bv false,i64 0])]))) ?_ fun j=>?_;refine io rfl rfl;rfl;refine io ?_ ?_;refine io rfl ?_;refine bo (e:=(fun(⟨l,b⟩:Bool×Int)=>(nq [(2,.ref 0 0),(4,.ref 2 0)] [(2,.box [bv false,i64 0,i64 0,i64 0,bv false,i64 0]),(1,.box (YM.g a)),(0,.box [bv l,i64 b,i64 0,i64 0,bv false,i64 0])]))) ?_ fun⟨l,b⟩=>?_;refine io rfl rfl;rfl;refine bo (e:=(fun(c:YG)=>(nq [(2,.ref 0 0),(4,.ref 2 0)] [(2,.box [bv false,i64 0,i64 0,i64 0,bv false,i64 0]),(1,.box (YM.g a)),(0,.box (YG.g c))]))) ?_ fun c=>?_;refine io rfl rfl;rfl
def bP1 (p:aA YV) (a:Y0) (n:Int):aB (aA YV):=
 (Cn p a n).bind fun e=>if decide ((e.length:Int)>(p.length:Int))then some e else(aR (E:=(YG×(aA YV))⊕YG) (fun(⟨o,b⟩:Int×YG)=>if decide (o<(a.Measures.length:Int))then(aT a.Measures o).bind fun c=>(F95 b c).bind fun⟨d,f⟩=>if !f then(hY true c.ID e a n).bind fun g=>some (.inr (.inl (d,g)))else some (.inl ((aU (o+1)),d))else some (.inr (.inr b))) aY (0,(YG.mk false 0 0 0 false 0))).bind fun h=>(match h with|.inl ⟨x15,x16⟩=>some x16|.inr x17=>((if x17.started&&(x17.ending==0)then some true else((if x17.ending !=0 then(F96 x17).bind fun i=>some (!i)else some false:aB (Bool))).bind fun j=>some j:aB (Bool))).bind fun k=>(aT a.Measures (aU ((a.Measures.length:Int)-1))).bind fun l=>(hY k l.ID e a n).bind fun m=>some m)
theorem oS1 [Inhabited Rc] {k} (d) (l:aA YV) (a:Y0) (b:Int):dC (XD k (d+5)) 42 [.ref 1 0] [(2,.lst 120 3 false (I YV.g l)),(1,.box (ck a b (.own 2)))] 3 false=(bP1 l a b).map (fun(p:aA YV)=>((.tup [],[(2,.lst 120 3 false (I YV.g p)),(1,.box (ck a b (.own 2)))],0))):=by
 rw[xd (fn:=p42) rfl];refine bz (cJ YV.g l) ?_;refine bo (bL1 (d+1) l a b) fun j=>?_;refine bz (cJ YV.g j) ?_;refine io rfl ?_;refine bz lm ?_;refine bo (aJ (S:=Int×YG) (enc:=fun⟨q,c⟩=>(Q [(0,.ref 1 0),(3,.ref 3 0),(26,.is 22 (I YM.g a.Measures)),(27,i64 (a.Measures.length:Int)),(28,i64 q)] [(3,.box (YG.g c)),(2,.lst 120 3 false (I YV.g j)),(1,.box (ck a b (.own 2)))])) (encE:=(fun|.inl ⟨h,i⟩=>(rq [(3,.ref 3 0)] [(3,.box (YG.g h)),(2,.lst 120 3 false (I YV.g i)),(1,.box (ck a b (.own 2)))])|.inr x17=>(xq 0 [(0,.ref 1 0),(3,.ref 3 0)] [(3,.box (YG.g x17)),(2,.lst 120 3 false (I YV.g j)),(1,.box (ck a b (.own 2)))]))) (fun⟨q,c⟩=>?_) aY (0,(YG.mk false 0 0 0 false 0))) fun m=>?_;refine io ?_ rfl;refine bo rg fun f=>?_;refine bo (yX1 d c f) fun⟨r,s⟩=>?_;refine io ?_ rfl;refine bo (fS (d+3) true f.ID j a b) fun t=>?_;rfl;rcases m with⟨h,i⟩|x17;rfl;refine bz (eN rfl) ?_;refine bo (e:=id) ?_ fun n=>?_;refine io rfl ?_;refine bo (e:=id) ?_ fun v=>?_;refine io ?_ rfl;refine bo (Pc (d+3) x17) fun u=>?_;rfl;rfl;refine bz lm ?_;refine bo rg fun o=>?_;refine bo (fS (d+3) n o.ID j a b) fun w=>?_;rfl
def F98 (a b:YM):aB Bool:=
 some (((b.Jump !=0)&&(a.Jump !=0))||((Bp .i64 b.Labels a.Labels)!=0))
theorem yY1 [Inhabited Rc] {k} (d) (a b:YM):OD k (d+1) 98 [.agg (YM.g a),.ip (YM.g b)]=(F98 a b).map bv:=by
 refine oe rfl ?_;refine bz (eN rfl) ?_;refine bz (eU rfl) ?_;rfl
def bQ1 (b:aA YM) (c:YM):aB Int:=
 (aR (E:=Int⊕Unit) (fun(a:Int)=>if decide (a<(b.length:Int))then(aT b a).bind fun d=>(F98 d c).bind fun e=>if e then some (.inr (.inl a))else some (.inl (aU (a+1)))else some (.inr (.inr ()))) aY 0).bind fun f=>(match f with|.inl x8=>some x8|.inr _=>some (-1))
theorem oT1 [Inhabited Rc] {k} (d) (a:aA YM) (b:YM):OD k (d+2) 163 [.is 22 (I YM.g a),.fn 98 [] [.ip (YM.g b)]]=(bQ1 a b).map i64:=by
 refine oe rfl ?_;refine bz lm ?_;refine bo (aJ (S:=Int) (enc:=fun c=>(Q [(0,.is 22 (I YM.g a)),(1,.fn 98 [] [.ip (YM.g b)]),(7,i64 (a.length:Int)),(8,i64 c)] [])) (encE:=(fun|.inl e=>(rq [(4,i64 e)] [])|.inr _=>(xq 0 [] []))) (fun c=>?_) aY 0) fun h=>?_;refine io ?_ rfl;refine bo rg fun f=>?_;refine bo (yY1 d f b) fun i=>?_;refine io rfl rfl;rcases h with e|_;rfl;rfl
def F99 (a:aA YM) (b:YM):aB Bool:=
 (bQ1 a b).bind fun c=>some (decide (c>=0))
theorem yZ1 [Inhabited Rc] {k} (d) (a:aA YM) (b:YM):OD k (d+3) 99 [.is 22 (I YM.g a),.fn 98 [] [.ip (YM.g b)]]=(F99 a b).map bv:=by
 refine oe rfl ?_;refine bo (oT1 d a b) fun c=>?_;rfl
def bR1 (a:YM) (b:Int):aB Bool:=
 some ((Bp .i64 a.Labels b)!=0)
theorem oU1 [Inhabited Rc] {k} (d) (a:YM) (b:Int):OD k (d+1) 202 [.agg (YM.g a),.ip [i64 b]]=(bR1 a b).map bv:=by
 refine oe rfl ?_;rfl
def Co (b:aA YM) (c:Int):aB Int:=
 (aR (E:=Int⊕Unit) (fun(a:Int)=>if decide (a<(b.length:Int))then(aT b a).bind fun d=>(bR1 d c).bind fun e=>if e then some (.inr (.inl a))else some (.inl (aU (a+1)))else some (.inr (.inr ()))) aY 0).bind fun f=>(match f with|.inl x8=>some x8|.inr _=>some (-1))
theorem bS1 [Inhabited Rc] {k} (d) (a:aA YM) (b:Int):OD k (d+2) 163 [.is 22 (I YM.g a),.fn 202 [] [.ip [i64 b]]]=(Co a b).map i64:=by
 refine oe rfl ?_;refine bz lm ?_;refine bo (aJ (S:=Int) (enc:=fun c=>(Q [(0,.is 22 (I YM.g a)),(1,.fn 202 [] [.ip [i64 b]]),(7,i64 (a.length:Int)),(8,i64 c)] [])) (encE:=(fun|.inl e=>(rq [(4,i64 e)] [])|.inr _=>(xq 0 [] []))) (fun c=>?_) aY 0) fun h=>?_;refine io ?_ rfl;refine bo rg fun f=>?_;refine bo (oU1 d f b) fun i=>?_;refine io rfl rfl;rcases h with e|_;rfl;rfl
def Pd (a:YK) (b:Int):aB Int:=
 (Co a.s'.Measures b).bind fun c=>some c
theorem Uo [Inhabited Rc] {k} (d) (a:YK) (b:Int):OD k (d+3) 165 [.ip (YK.g a),i64 b]=(Pd a b).map i64:=by
 refine oe rfl ?_;refine bo (bS1 d a.s'.Measures b) fun c=>?_;rfl
def Pe (a:Int) (b:YK) (c:Int):aB Bool:=
 (Pd b a).bind fun d=>(yJ d 0 c).bind fun e=>some e
theorem Up [Inhabited Rc] {k} (d) (a:Int) (b:YK) (c:Int):OD k (d+4) 164 [i64 a,.ip [.ip (YK.g b)],.ip [i64 c]]=(Pe a b c).map bv:=by
 refine oe rfl ?_;refine bo (Uo d b a) fun e=>?_;refine bo (nK (d+2) e 0 c) fun f=>?_;rfl
def bT1 (b:YK) (a f:Int):aB Bool:=
 ((if decide (a>=4)then(Pe 1 b f).bind fun g=>some (!g)else some false:aB (Bool))).bind fun h=>if h then some false else((if a==2 then some (a==2)else some (a==5):aB (Bool))).bind fun i=>if i then(Pe 4 b f).bind fun j=>some j else((if a==3 then some (a==3)else some (a==6):aB (Bool))).bind fun k=>if k then(Pe 8 b f).bind fun l=>((if l then(Pd b 2).bind fun c=>(Pd b 8).bind fun d=>some (decide (c>d))else some false:aB (Bool))).bind fun e=>some e else some true
theorem oV1 [Inhabited Rc] {k} (d) (a:YK) (c b:Int):OD k (d+5) 100 [.ip (YK.g a),i64 c,i64 b]=(bT1 a c b).map bv:=by
 refine oe rfl ?_;refine bo (e:=id) ?_ fun n=>?_;refine io ?_ rfl;refine bo (Up d 1 a b) fun m=>?_;rfl;refine io rfl ?_;refine bo (e:=(fun(f:Bool)=>(nq [(3,.ref 0 0),(7,.fn 164 [] [.ref 0 0,.ref 1 0]),(16,i64 c),(17,bv f)] [(1,.box [i64 b]),(0,.box [.ip (YK.g a)])]))) ?_ fun f=>?_;refine io rfl rfl;refine io ?_ ?_;refine bo (Up d 4 a b) fun o=>?_;rfl;refine bo (e:=(fun(h:Bool)=>(nq [(3,.ref 0 0),(7,.fn 164 [] [.ref 0 0,.ref 1 0]),(22,bv h)] [(1,.box [i64 b]),(0,.box [.ip (YK.g a)])]))) ?_ fun h=>?_;refine io rfl rfl;refine io ?_ rfl;refine bo (Up d 8 a b) fun p=>?_;refine bo (e:=id) ?_ fun l=>?_;refine io ?_ rfl;refine bo (Uo (d+1) a 2) fun i=>?_;refine bo (Uo (d+1) a 8) fun j=>?_;rfl;rfl
def F97 (c:Int) (a:YM) (d:YK):aB Bool:=
 (yJ a.Jump 0 6).bind fun e=>((if !e then some true else(yJ a.Labels 0 15).bind fun f=>some (!f):aB (Bool))).bind fun g=>if g||(((a.Jump !=0)||(a.Labels !=0))&&((a.RepeatEnd !=0)||(a.Endings !=0)))then some true else(kU d.s'.Measures 0 c).bind fun h=>(F99 h a).bind fun i=>((if i then some true else(bT1 d a.Jump c).bind fun j=>some (!j):aB (Bool))).bind fun b=>some b
theorem zB1 [Inhabited Rc] {k} (d) (b:Int) (a:YM) (c:YK):OD k (d+6) 97 [i64 b,.agg (YM.g a),.ip [.ip (YK.g c)]]=(F97 b a c).map bv:=by
 refine oe rfl ?_;refine bo (nK (d+4) a.Jump 0 6) fun i=>?_;refine bo (e:=id) ?_ fun l=>?_;refine io rfl ?_;refine bo (nK (d+4) a.Labels 0 15) fun j=>?_;rfl;refine bz (eU (bz (eU rfl) (bz (eN (bz (eU rfl) rfl)) rfl))) ?_;refine io rfl ?_;refine bo (rA _ _ _ _) fun h=>?_;refine bo (yZ1 (d+2) h a) fun m=>?_;refine bo (e:=id) ?_ fun f=>?_;refine io rfl ?_;refine bo (oV1 d c a.Jump b) fun n=>?_;rfl;rfl
def Cp (i:aA YV) (a:Y0) (g:Int):aB (aA YV):=
 (aR (E:=aA YV) (fun(⟨b,f⟩:Int×(aA YV))=>if decide (b<(a.Measures.length:Int))then(aT a.Measures b).bind fun h=>(F97 b h (YK.mk a g f)).bind fun c=>(hY c h.ID f a g).bind fun d=>some (.inl ((aU (b+1)),d))else some (.inr f)) aY (0,i)).bind fun e=>some e
theorem bU1 [Inhabited Rc] {k} (d) (f:aA YV) (a:Y0) (b:Int):dC (XD k (d+7)) 66 [.ref 1 0,.fn 97 [] [.ref 3 0]] [(3,.box [.ref 1 0]),(2,.lst 120 3 false (I YV.g f)),(1,.box (ck a b (.own 2)))] 4 false=(Cp f a b).map (fun(i:aA YV)=>((.tup [],[(3,.box [.ref 1 0]),(2,.lst 120 3 false (I YV.g i)),(1,.box (ck a b (.own 2)))],0))):=by
 rw[xd (fn:=Xz) rfl];refine bz lm ?_;refine bo (aJ (S:=Int×(aA YV)) (enc:=fun⟨j,e⟩=>(Q [(0,.ref 1 0),(1,.fn 97 [] [.ref 3 0]),(10,.is 22 (I YM.g a.Measures)),(11,i64 (a.Measures.length:Int)),(12,i64 j)] [(3,.box [.ref 1 0]),(2,.lst 120 3 false (I YV.g e)),(1,.box (ck a b (.own 2)))])) (encE:=(fun(c:aA YV)=>(xq 0 [] [(3,.box [.ref 1 0]),(2,.lst 120 3 false (I YV.g c)),(1,.box (ck a b (.own 2)))]))) (fun⟨j,e⟩=>?_) aY (0,f)) fun c=>?_;refine io ?_ rfl;refine bo rg fun l=>?_;refine bo (zB1 d j l (YK.mk a b e)) fun h=>?_;refine bo (fS (d+5) h l.ID e a b) fun m=>?_;rfl;rfl
def bV1 (a:aA YV) (b:Y0) (c:Int):aB (aA YV):=
 (Cp a b c).bind fun d=>some d
theorem oW1 [Inhabited Rc] {k} (d) (c:aA YV) (a:Y0) (b:Int):dC (XD k (d+8)) 43 [.ref 1 0] [(2,.lst 120 3 false (I YV.g c)),(1,.box (ck a b (.own 2)))] 3 false=(bV1 c a b).map (fun(e:aA YV)=>((.tup [],[(2,.lst 120 3 false (I YV.g e)),(1,.box (ck a b (.own 2)))],0))):=by
 rw[xd (fn:=p43) rfl];refine bo (bU1 d c a b) fun f=>?_;rfl
def bW1 (r:Int) (c:YM):aB Bool:=
 (Dh c).bind fun⟨m,s⟩=>((if c.Swing !=0 then(yJ c.Swing 50 75).bind fun n=>some (!n)else some false:aB (Bool))).bind fun o=>((if o then some true else(yJ c.Break 0 3).bind fun p=>some (!p):aB (Bool))).bind fun q=>(aR (E:=Bool) (fun(⟨d,a⟩:Bool×Int)=>if decide (a<(c.Tempi.length:Int))then(aT c.Tempi a).bind fun b=>((if d then some true else(yJ b.At 0 (aU (m-1))).bind fun e=>some (!e):aB (Bool))).bind fun f=>((if f then some true else(yJ b.Micros 1 60000000).bind fun g=>some (!g):aB (Bool))).bind fun h=>((if h then some true else((if decide (a>0)then(aT c.Tempi (aU (a-1))).bind fun i=>some (decide (b.At<=i.At))else some false:aB (Bool))).bind fun j=>some j:aB (Bool))).bind fun k=>some (.inl (k,(aU (a+1))))else some (.inr d)) aY (q,0)).bind fun l=>some l
theorem oX1 [Inhabited Rc] {k} (d) (i:Int) (a:YM):OD k (d+5) 101 [i64 i,.agg (YM.g a)]=(bW1 i a).map bv:=by
 refine oe rfl ?_;refine bo (Gi d a) fun⟨j,t⟩=>?_;refine bo (e:=id) ?_ fun v=>?_;refine io ?_ rfl;refine bo (nK (d+3) a.Swing 50 75) fun u=>?_;rfl;refine bo (e:=id) ?_ fun s=>?_;refine io rfl ?_;refine bo (nK (d+3) a.Break 0 3) fun w=>?_;rfl;refine bz lm ?_;refine bo (aJ (S:=Bool×Int) (enc:=fun⟨b,c⟩=>(Q [(3,.ref 0 0),(5,i64 j),(7,bv b),(31,.is 3 (I YT.g a.Tempi)),(32,i64 (a.Tempi.length:Int)),(33,i64 c)] [(0,.box (YM.g a))])) (encE:=(fun(h:Bool)=>(xq 0 [(7,bv h)] [(0,.box (YM.g a))]))) (fun⟨b,c⟩=>?_) aY (s,0)) fun h=>?_;refine io ?_ rfl;refine bo rg fun f=>?_;refine bo (e:=id) ?_ fun m=>?_;refine io rfl ?_;refine bo (nK (d+3) f.At 0 (aU (j-1))) fun l=>?_;rfl;refine bo (e:=id) ?_ fun o=>?_;refine io rfl ?_;refine bo (nK (d+3) f.Micros 1 60000000) fun n=>?_;rfl;refine bo (e:=id) ?_ fun r=>?_;refine io rfl ?_;refine bo (e:=id) ?_ fun q=>?_;refine io ?_ rfl;refine bo rg fun p=>?_;rfl;rfl;rfl;rfl
def Cq (h:aA YV) (e:Y0) (i:Int):aB (aA YV):=
 (aR (E:=aA YV) (fun(⟨a,f⟩:Int×(aA YV))=>if decide (a<(e.Measures.length:Int))then(aT e.Measures a).bind fun g=>(bW1 a g).bind fun b=>(hY b g.ID f e i).bind fun c=>some (.inl ((aU (a+1)),c))else some (.inr f)) aY (0,h)).bind fun d=>some d
theorem bX1 [Inhabited Rc] {k} (d) (e:aA YV) (a:Y0) (b:Int):dC (XD k (d+6)) 66 [.ref 1 0,.fn 101 [] []] [(2,.lst 120 3 false (I YV.g e)),(1,.box (ck a b (.own 2)))] 3 false=(Cq e a b).map (fun(h:aA YV)=>((.tup [],[(2,.lst 120 3 false (I YV.g h)),(1,.box (ck a b (.own 2)))],0))):=by
 rw[xd (fn:=Xz) rfl];refine bz lm ?_;refine bo (aJ (S:=Int×(aA YV)) (enc:=fun⟨i,j⟩=>(Q [(0,.ref 1 0),(1,.fn 101 [] []),(10,.is 22 (I YM.g a.Measures)),(11,i64 (a.Measures.length:Int)),(12,i64 i)] [(2,.lst 120 3 false (I YV.g j)),(1,.box (ck a b (.own 2)))])) (encE:=(fun(c:aA YV)=>(xq 0 [] [(2,.lst 120 3 false (I YV.g c)),(1,.box (ck a b (.own 2)))]))) (fun⟨i,j⟩=>?_) aY (0,e)) fun c=>?_;refine io ?_ rfl;refine bo rg fun l=>?_;refine bo (oX1 d i l) fun f=>?_;refine bo (fS (d+4) f l.ID j a b) fun m=>?_;rfl;rfl
def bY1 (a:aA YV) (b:Y0) (c:Int):aB (aA YV):=
 (Cq a b c).bind fun d=>some d
theorem oY1 [Inhabited Rc] {k} (d) (c:aA YV) (a:Y0) (b:Int):dC (XD k (d+7)) 44 [.ref 1 0] [(2,.lst 120 3 false (I YV.g c)),(1,.box (ck a b (.own 2)))] 3 false=(bY1 c a b).map (fun(e:aA YV)=>((.tup [],[(2,.lst 120 3 false (I YV.g e)),(1,.box (ck a b (.own 2)))],0))):=by
 rw[xd (fn:=p44) rfl];refine bo (bX1 d c a b) fun f=>?_;rfl
def bZ1 (b:YP) (f:YE) (c:YK):aB Bool:=
 (F87 c.s' b).bind fun⟨e,g⟩=>((if !g then some true else(F86 f).bind fun h=>some (!h):aB (Bool))).bind fun i=>if i||(e.Measure==b.Measure)then some false else(aT c.s'.Measures b.Measure).bind fun a=>(aT c.s'.Measures e.Measure).bind fun d=>some ((((((a.RepeatEnd !=0)||(a.Jump !=0))||((Bp .i64 a.Labels 12)!=0))||(a.Endings !=d.Endings))||d.RepeatStart)||((Bp .i64 d.Labels 3)!=0))
theorem oZ1 [Inhabited Rc] {k} (d) (a:YP) (b:YE) (c:YK):OD k (d+5) 102 [.agg (YP.g a),.agg (YE.g b),.ip [.ip (YK.g c)]]=(bZ1 a b c).map bv:=by
 refine oe rfl ?_;refine bo (oC1 (d+1) c.s' a) fun⟨f,h⟩=>?_;refine bo (e:=id) ?_ fun j=>?_;refine io rfl ?_;refine bo (oA1 d b) fun i=>?_;rfl;refine bz (eU rfl) ?_;refine io rfl ?_;refine bo rg fun l=>?_;refine bo rg fun m=>?_;refine bz (eU rfl) ?_;refine bz (eU rfl) ?_;refine bz (eU rfl) ?_;refine bz (eU rfl) ?_;refine bz (eU rfl) ?_;rfl
def Ct (u:aA YV) (s:Y0) (t:Int):aB (aA YV):=
 (aR (E:=aA YV) (fun(⟨c,m⟩:Int×(aA YV))=>if decide (c<(s.Measures.length:Int))then(aT s.Measures c).bind fun n=>(aR (E:=aA YV) (fun(⟨d,o⟩:Int×(aA YV))=>if decide (d<(n.Cells.length:Int))then(aT n.Cells d).bind fun p=>(aR (E:=aA YV) (fun(⟨e,q⟩:Int×(aA YV))=>if decide (e<(p.Voices.length:Int))then(aT p.Voices e).bind fun r=>(aR (E:=aA YV) (fun(⟨a,b⟩:Int×(aA YV))=>if decide (a<(r.Events.length:Int))then(aT r.Events a).bind fun f=>(bZ1 (YP.mk 4 0 d c e a 0) f (YK.mk s t b)).bind fun g=>(hY g f.ID b s t).bind fun h=>some (.inl ((aU (a+1)),h))else some (.inr b)) aY (0,q)).bind fun i=>some (.inl ((aU (e+1)),i))else some (.inr q)) aY (0,o)).bind fun j=>some (.inl ((aU (d+1)),j))else some (.inr o)) aY (0,m)).bind fun k=>some (.inl ((aU (c+1)),k))else some (.inr m)) aY (0,u)).bind fun l=>some l
theorem cA1 [Inhabited Rc] {k} (d) (x:aA YV) (c:Y0) (i:Int):dC (XD k (d+6)) 75 [.ref 1 0,.fn 102 [] [.ref 3 0]] [(3,.box [.ref 1 0]),(2,.lst 120 3 false (I YV.g x)),(1,.box (ck c i (.own 2)))] 4 false=(Ct x c i).map (fun(w:aA YV)=>((.tup [],[(3,.box [.ref 1 0]),(2,.lst 120 3 false (I YV.g w)),(1,.box (ck c i (.own 2)))],0))):=by
 rw[xd (fn:=p75) rfl];refine bz lm ?_;refine bo (aJ (S:=Int×(aA YV)) (enc:=fun⟨b,s⟩=>(Q [(0,.ref 1 0),(1,.fn 102 [] [.ref 3 0]),(16,.is 22 (I YM.g c.Measures)),(17,i64 (c.Measures.length:Int)),(18,i64 b)] [(3,.box [.ref 1 0]),(2,.lst 120 3 false (I YV.g s)),(1,.box (ck c i (.own 2)))])) (encE:=(fun(r:aA YV)=>(xq 0 [] [(3,.box [.ref 1 0]),(2,.lst 120 3 false (I YV.g r)),(1,.box (ck c i (.own 2)))]))) (fun⟨b,s⟩=>?_) aY (0,x)) fun r=>?_;refine io ?_ rfl;refine bo rg fun a=>?_;refine bz lm ?_;refine bo (aJ (S:=Int×(aA YV)) (enc:=fun⟨e,t⟩=>(Q [(0,.ref 1 0),(1,.fn 102 [] [.ref 3 0]),(4,i64 b),(16,.is 22 (I YM.g c.Measures)),(17,i64 (c.Measures.length:Int)),(18,i64 b),(24,.is 2 (I YW.g a.Cells)),(25,i64 (a.Cells.length:Int)),(26,i64 e)] [(4,.box (YM.g a)),(3,.box [.ref 1 0]),(2,.lst 120 3 false (I YV.g t)),(1,.box (ck c i (.own 2)))])) (encE:=(fun(q:aA YV)=>(xq 2 [(0,.ref 1 0),(1,.fn 102 [] [.ref 3 0]),(16,.is 22 (I YM.g c.Measures)),(17,i64 (c.Measures.length:Int)),(18,i64 b)] [(4,.box (YM.g a)),(3,.box [.ref 1 0]),(2,.lst 120 3 false (I YV.g q)),(1,.box (ck c i (.own 2)))]))) (fun⟨e,t⟩=>?_) aY (0,s)) fun q=>?_;refine io ?_ rfl;refine bo rg fun f=>?_;refine bz lm ?_;refine bo (aJ (S:=Int×(aA YV)) (enc:=fun⟨j,u⟩=>(Q [(0,.ref 1 0),(1,.fn 102 [] [.ref 3 0]),(4,i64 b),(6,i64 e),(16,.is 22 (I YM.g c.Measures)),(17,i64 (c.Measures.length:Int)),(18,i64 b),(24,.is 2 (I YW.g a.Cells)),(25,i64 (a.Cells.length:Int)),(26,i64 e),(32,.is 2 (I YO.g f.Voices)),(33,i64 (f.Voices.length:Int)),(34,i64 j)] [(5,.box (YW.g f)),(4,.box (YM.g a)),(3,.box [.ref 1 0]),(2,.lst 120 3 false (I YV.g u)),(1,.box (ck c i (.own 2)))])) (encE:=(fun(p:aA YV)=>(xq 4 [(0,.ref 1 0),(1,.fn 102 [] [.ref 3 0]),(4,i64 b),(16,.is 22 (I YM.g c.Measures)),(17,i64 (c.Measures.length:Int)),(18,i64 b),(24,.is 2 (I YW.g a.Cells)),(25,i64 (a.Cells.length:Int)),(26,i64 e)] [(5,.box (YW.g f)),(4,.box (YM.g a)),(3,.box [.ref 1 0]),(2,.lst 120 3 false (I YV.g p)),(1,.box (ck c i (.own 2)))]))) (fun⟨j,u⟩=>?_) aY (0,t)) fun p=>?_;refine io ?_ rfl;refine bo rg fun m=>?_;refine bz lm ?_;refine bo (aJ (S:=Int×(aA YV)) (enc:=fun⟨l,h⟩=>(Q [(0,.ref 1 0),(1,.fn 102 [] [.ref 3 0]),(4,i64 b),(6,i64 e),(8,i64 j),(16,.is 22 (I YM.g c.Measures)),(17,i64 (c.Measures.length:Int)),(18,i64 b),(24,.is 2 (I YW.g a.Cells)),(25,i64 (a.Cells.length:Int)),(26,i64 e),(32,.is 2 (I YO.g f.Voices)),(33,i64 (f.Voices.length:Int)),(34,i64 j),(40,.is 13 (I YE.g m.Events)),(41,i64 (m.Events.length:Int)),(42,i64 l)] [(6,.box (YO.g m)),(5,.box (YW.g f)),(4,.box (YM.g a)),(3,.box [.ref 1 0]),(2,.lst 120 3 false (I YV.g h)),(1,.box (ck c i (.own 2)))])) (encE:=(fun(o:aA YV)=>(xq 6 [(0,.ref 1 0),(1,.fn 102 [] [.ref 3 0]),(4,i64 b),(6,i64 e),(16,.is 22 (I YM.g c.Measures)),(17,i64 (c.Measures.length:Int)),(18,i64 b),(24,.is 2 (I YW.g a.Cells)),(25,i64 (a.Cells.length:Int)),(26,i64 e),(32,.is 2 (I YO.g f.Voices)),(33,i64 (f.Voices.length:Int)),(34,i64 j)] [(6,.box (YO.g m)),(5,.box (YW.g f)),(4,.box (YM.g a)),(3,.box [.ref 1 0]),(2,.lst 120 3 false (I YV.g o)),(1,.box (ck c i (.own 2)))]))) (fun⟨l,h⟩=>?_) aY (0,u)) fun o=>?_;refine io ?_ rfl;refine bo rg fun n=>?_;refine bo (oZ1 d (YP.mk 4 0 e b j l 0) n (YK.mk c i h)) fun v=>?_;refine bo (fS (d+4) v n.ID h c i) fun y=>?_;rfl;rfl;rfl;rfl;rfl
def cB1 (a:aA YV) (b:Y0) (c:Int):aB (aA YV):=
 (Ct a b c).bind fun d=>some d
theorem pA1 [Inhabited Rc] {k} (d) (c:aA YV) (a:Y0) (b:Int):dC (XD k (d+7)) 45 [.ref 1 0] [(2,.lst 120 3 false (I YV.g c)),(1,.box (ck a b (.own 2)))] 3 false=(cB1 c a b).map (fun(e:aA YV)=>((.tup [],[(2,.lst 120 3 false (I YV.g e)),(1,.box (ck a b (.own 2)))],0))):=by
 rw[xd (fn:=p45) rfl];refine bo (cA1 d c a b) fun f=>?_;rfl
def F17 (a:Y0):aB (aA YV):=
 ((if decide ((([]:aA YV).length:Int)>0)then((if false then some true else((if false then(cE ([]:aA YV) 0).bind fun x2=>(cX ([]:aA YV) x2).bind fun x3=>some (decide (x3.Rule<10))else some false:aB (Bool))).bind fun x4=>some x4:aB (Bool))).bind fun x5=>some x5 else some false:aB (Bool))).bind fun x6=>if x6 then some []else(Oc [] a 1).bind fun u=>((if decide ((u.length:Int)>0)then((if true then some true else((if false then(cE u 0).bind fun x8=>(cX u x8).bind fun x9=>some (decide (x9.Rule<10))else some false:aB (Bool))).bind fun v=>some v:aB (Bool))).bind fun w=>some w else some false:aB (Bool))).bind fun x=>if x then some u else(Ye u a 2).bind fun b=>((if decide ((b.length:Int)>0)then((if false then some true else((if false then(cE b 0).bind fun y=>(cX b y).bind fun z=>some (decide (z.Rule<10))else some false:aB (Bool))).bind fun A=>some A:aB (Bool))).bind fun B=>some B else some false:aB (Bool))).bind fun C=>if C then some b else(Yg b a 3).bind fun c=>((if decide ((c.length:Int)>0)then((if false then some true else((if false then(cE c 0).bind fun D=>(cX c D).bind fun E=>some (decide (E.Rule<10))else some false:aB (Bool))).bind fun F=>some F:aB (Bool))).bind fun G=>some G else some false:aB (Bool))).bind fun H=>if H then some c else(Yl c a 4).bind fun d=>((if decide ((d.length:Int)>0)then((if false then some true else((if false then(cE d 0).bind fun J=>(cX d J).bind fun K=>some (decide (K.Rule<10))else some false:aB (Bool))).bind fun L=>some L:aB (Bool))).bind fun M=>some M else some false:aB (Bool))).bind fun N=>if N then some d else(Tt d a 5).bind fun e=>((if decide ((e.length:Int)>0)then((if false then some true else((if false then(cE e 0).bind fun O=>(cX e O).bind fun P=>some (decide (P.Rule<10))else some false:aB (Bool))).bind fun R=>some R:aB (Bool))).bind fun S=>some S else some false:aB (Bool))).bind fun T=>if T then some e else(aB1 e a 6).bind fun f=>((if decide ((f.length:Int)>0)then((if false then some true else((if false then(cE f 0).bind fun U=>(cX f U).bind fun V=>some (decide (V.Rule<10))else some false:aB (Bool))).bind fun W=>some W:aB (Bool))).bind fun X=>some X else some false:aB (Bool))).bind fun Y=>if Y then some f else(aL1 f a 7).bind fun g=>((if decide ((g.length:Int)>0)then((if false then some true else((if false then(cE g 0).bind fun Z=>(cX g Z).bind fun a0=>some (decide (a0.Rule<10))else some false:aB (Bool))).bind fun b0=>some b0:aB (Bool))).bind fun b4=>some b4 else some false:aB (Bool))).bind fun b5=>if b5 then some g else(aN1 g a 8).bind fun h=>((if decide ((h.length:Int)>0)then((if false then some true else((if false then(cE h 0).bind fun b6=>(cX h b6).bind fun b7=>some (decide (b7.Rule<10))else some false:aB (Bool))).bind fun b8=>some b8:aB (Bool))).bind fun b9=>some b9 else some false:aB (Bool))).bind fun d1=>if d1 then some h else(aR1 h a 9).bind fun i=>((if decide ((i.length:Int)>0)then((if false then some true else((if true then(cE i 0).bind fun d2=>(cX i d2).bind fun d3=>some (decide (d3.Rule<10))else some false:aB (Bool))).bind fun d4=>some d4:aB (Bool))).bind fun d5=>some d5 else some false:aB (Bool))).bind fun d6=>if d6 then some i else(aY1 i a 10).bind fun j=>((if decide ((j.length:Int)>0)then((if false then some true else((if true then(cE j 0).bind fun d7=>(cX j d7).bind fun d8=>some (decide (d8.Rule<10))else some false:aB (Bool))).bind fun d9=>some d9:aB (Bool))).bind fun e0=>some e0 else some false:aB (Bool))).bind fun e1=>if e1 then some j else(bC1 j a 11).bind fun k=>((if decide ((k.length:Int)>0)then((if false then some true else((if true then(cE k 0).bind fun e3=>(cX k e3).bind fun e4=>some (decide (e4.Rule<10))else some false:aB (Bool))).bind fun e5=>some e5:aB (Bool))).bind fun e6=>some e6 else some false:aB (Bool))).bind fun e7=>if e7 then some k else(bG1 k a 12).bind fun l=>((if decide ((l.length:Int)>0)then((if false then some true else((if true then(cE l 0).bind fun e8=>(cX l e8).bind fun e9=>some (decide (e9.Rule<10))else some false:aB (Bool))).bind fun f1=>some f1:aB (Bool))).bind fun f2=>some f2 else some false:aB (Bool))).bind fun f3=>if f3 then some l else(bK1 l a 13).bind fun m=>((if decide ((m.length:Int)>0)then((if false then some true else((if true then(cE m 0).bind fun f5=>(cX m f5).bind fun f6=>some (decide (f6.Rule<10))else some false:aB (Bool))).bind fun f7=>some f7:aB (Bool))).bind fun f8=>some f8 else some false:aB (Bool))).bind fun f9=>if f9 then some m else(bP1 m a 14).bind fun n=>((if decide ((n.length:Int)>0)then((if false then some true else((if true then(cE n 0).bind fun g1=>(cX n g1).bind fun g3=>some (decide (g3.Rule<10))else some false:aB (Bool))).bind fun g4=>some g4:aB (Bool))).bind fun g5=>some g5 else some false:aB (Bool))).bind fun g6=>if g6 then some n else(bV1 n a 15).bind fun o=>((if decide ((o.length:Int)>0)then((if false then some true else((if true then(cE o 0).bind fun g7=>(cX o g7).bind fun g8=>some (decide (g8.Rule<10))else some false:aB (Bool))).bind fun g9=>some g9:aB (Bool))).bind fun h0=>some h0 else some false:aB (Bool))).bind fun h2=>if h2 then some o else(bY1 o a 16).bind fun p=>((if decide ((p.length:Int)>0)then((if false then some true else((if true then(cE p 0).bind fun h3=>(cX p h3).bind fun h4=>some (decide (h4.Rule<10))else some false:aB (Bool))).bind fun q=>some q:aB (Bool))).bind fun r=>some r else some false:aB (Bool))).bind fun s=>if s then some p else(cB1 p a 17).bind fun t=>some t
theorem zC1 [Inhabited Rc] {k} (d) (a:Y0):OD k (d+25) 17 [.agg (Y0.g a)]=(F17 a).map (fun y0=>.is 3 (I YV.g y0)):=by
 refine oe rfl ?_;refine bz (cJ YV.g ([]:aA YV)) ?_;refine bo (e:=id) ?_ fun x6=>?_;refine io ?_ rfl;refine bo (e:=id) ?_ fun x5=>?_;refine io rfl ?_;refine bo (e:=id) ?_ fun x4=>?_;refine io ?_ rfl;refine bo (aW YV.g ([]:aA YV) _) fun x2=>?_;refine bo (bY (A:=YV) (c:=YV.g) (g:=fun S=>i64 S.Rule) (fun _=>rfl) ([]:aA YV) _) fun S=>?_;rfl;rfl;rfl;refine io rfl ?_;refine bo (lF1 (d+19) [] a 1) fun M=>?_;refine bz (cJ YV.g M) ?_;refine bo (e:=id) ?_ fun W=>?_;refine io ?_ rfl;refine bo (e:=id) ?_ fun V=>?_;refine io rfl ?_;refine bo (e:=id) ?_ fun U=>?_;refine io ?_ rfl;refine bo (aW YV.g M _) fun x8=>?_;refine bo (bY (A:=YV) (c:=YV.g) (g:=fun T=>i64 T.Rule) (fun _=>rfl) M _) fun T=>?_;rfl;rfl;rfl;refine io rfl ?_;refine bo (lK1 (d+20) M a 2) fun b=>?_;refine bz (cJ YV.g b) ?_;refine bo (e:=id) ?_ fun a0=>?_;refine io ?_ rfl;refine bo (e:=id) ?_ fun Z=>?_;refine io rfl ?_;refine bo (e:=id) ?_ fun Y=>?_;refine io ?_ rfl;refine bo (aW YV.g b _) fun X=>?_;refine bo (bY (A:=YV) (c:=YV.g) (g:=fun v=>i64 v.Rule) (fun _=>rfl) b _) fun v=>?_;rfl;rfl;rfl;refine io rfl ?_;refine bo (lM1 (d+21) b a 3) fun f=>?_;refine bz (cJ YV.g f) ?_;refine bo (e:=id) ?_ fun b6=>?_;refine io ?_ rfl;refine bo (e:=id) ?_ fun b5=>?_;refine io rfl ?_;refine bo (e:=id) ?_ fun b4=>?_;refine io ?_ rfl;refine bo (aW YV.g f _) fun b0=>?_;refine bo (bY (A:=YV) (c:=YV.g) (g:=fun w=>i64 w.Rule) (fun _=>rfl) f _) fun w=>?_;rfl;rfl;rfl;refine io rfl ?_;refine bo (lW1 (d+17) f a 4) fun h=>?_;refine bz (cJ YV.g h) ?_;refine bo (e:=id) ?_ fun d1=>?_;refine io ?_ rfl;refine bo (e:=id) ?_ fun b9=>?_;refine io rfl ?_;refine bo (e:=id) ?_ fun b8=>?_;refine io ?_ rfl;refine bo (aW YV.g h _) fun b7=>?_;refine bo (bY (A:=YV) (c:=YV.g) (g:=fun x=>i64 x.Rule) (fun _=>rfl) h _) fun x=>?_;rfl;rfl;rfl;refine io rfl ?_;refine bo (lY1 (d+17) h a 5) fun i=>?_;refine bz (cJ YV.g i) ?_;refine bo (e:=id) ?_ fun d5=>?_;refine io ?_ rfl;refine bo (e:=id) ?_ fun d4=>?_;refine io rfl ?_;refine bo (e:=id) ?_ fun d3=>?_;refine io ?_ rfl;refine bo (aW YV.g i _) fun d2=>?_;refine bo (bY (A:=YV) (c:=YV.g) (g:=fun y=>i64 y.Rule) (fun _=>rfl) i _) fun y=>?_;rfl;rfl;rfl;refine io rfl ?_;refine bo (nO1 d i a 6) fun j=>?_;refine bz (cJ YV.g j) ?_;refine bo (e:=id) ?_ fun d9=>?_;refine io ?_ rfl;refine bo (e:=id) ?_ fun d8=>?_;refine io rfl ?_;refine bo (e:=id) ?_ fun d7=>?_;refine io ?_ rfl;refine bo (aW YV.g j _) fun d6=>?_;refine bo (bY (A:=YV) (c:=YV.g) (g:=fun z=>i64 z.Rule) (fun _=>rfl) j _) fun z=>?_;rfl;rfl;rfl;refine io rfl ?_;refine bo (nP1 d j a 7) fun l=>?_;refine bz (cJ YV.g l) ?_;refine bo (e:=id) ?_ fun e4=>?_;refine io ?_ rfl;refine bo (e:=id) ?_ fun e3=>?_;refine io rfl ?_;refine bo (e:=id) ?_ fun e1=>?_;refine io ?_ rfl;refine bo (aW YV.g l _) fun e0=>?_;refine bo (bY (A:=YV) (c:=YV.g) (g:=fun B=>i64 B.Rule) (fun _=>rfl) l _) fun B=>?_;rfl;rfl;rfl;refine io rfl ?_;refine bo (nR1 (d+13) l a 8) fun m=>?_;refine bz (cJ YV.g m) ?_;refine bo (e:=id) ?_ fun e8=>?_;refine io ?_ rfl;refine bo (e:=id) ?_ fun e7=>?_;refine io rfl ?_;refine bo (e:=id) ?_ fun e6=>?_;refine io ?_ rfl;refine bo (aW YV.g m _) fun e5=>?_;refine bo (bY (A:=YV) (c:=YV.g) (g:=fun C=>i64 C.Rule) (fun _=>rfl) m _) fun C=>?_;rfl;rfl;rfl;refine io rfl ?_;refine bo (nX1 (d+13) m a 9) fun n=>?_;refine bz (cJ YV.g n) ?_;refine bo (e:=id) ?_ fun f3=>?_;refine io ?_ rfl;refine bo (e:=id) ?_ fun f2=>?_;refine io rfl ?_;refine bo (e:=id) ?_ fun f1=>?_;refine io ?_ rfl;refine bo (aW YV.g n _) fun e9=>?_;refine bo (bY (A:=YV) (c:=YV.g) (g:=fun D=>i64 D.Rule) (fun _=>rfl) n _) fun D=>?_;rfl;rfl;rfl;refine io rfl ?_;refine bo (oF1 (d+17) n a 10) fun o=>?_;refine bz (cJ YV.g o) ?_;refine bo (e:=id) ?_ fun f8=>?_;refine io ?_ rfl;refine bo (e:=id) ?_ fun f7=>?_;refine io rfl ?_;refine bo (e:=id) ?_ fun f6=>?_;refine io ?_ rfl;refine bo (aW YV.g o _) fun f5=>?_;refine bo (bY (A:=YV) (c:=YV.g) (g:=fun E=>i64 E.Rule) (fun _=>rfl) o _) fun E=>?_;rfl;rfl;rfl;refine io rfl ?_;refine bo (oI1 (d+21) o a 11) fun p=>?_;refine bz (cJ YV.g p) ?_;refine bo (e:=id) ?_ fun g4=>?_;refine io ?_ rfl;refine bo (e:=id) ?_ fun g3=>?_;refine io rfl ?_;refine bo (e:=id) ?_ fun g1=>?_;refine io ?_ rfl;refine bo (aW YV.g p _) fun f9=>?_;refine bo (bY (A:=YV) (c:=YV.g) (g:=fun F=>i64 F.Rule) (fun _=>rfl) p _) fun F=>?_;rfl;rfl;rfl;refine io rfl ?_;refine bo (oL1 (d+7) p a 12) fun q=>?_;refine bz (cJ YV.g q) ?_;refine bo (e:=id) ?_ fun g8=>?_;refine io ?_ rfl;refine bo (e:=id) ?_ fun g7=>?_;refine io rfl ?_;refine bo (e:=id) ?_ fun g6=>?_;refine io ?_ rfl;refine bo (aW YV.g q _) fun g5=>?_;refine bo (bY (A:=YV) (c:=YV.g) (g:=fun G=>i64 G.Rule) (fun _=>rfl) q _) fun G=>?_;rfl;rfl;rfl;refine io rfl ?_;refine bo (oP1 (d+7) q a 13) fun r=>?_;refine bz (cJ YV.g r) ?_;refine bo (e:=id) ?_ fun h3=>?_;refine io ?_ rfl;refine bo (e:=id) ?_ fun h2=>?_;refine io rfl ?_;refine bo (e:=id) ?_ fun h0=>?_;refine io ?_ rfl;refine bo (aW YV.g r _) fun g9=>?_;refine bo (bY (A:=YV) (c:=YV.g) (g:=fun H=>i64 H.Rule) (fun _=>rfl) r _) fun H=>?_;rfl;rfl;rfl;refine io rfl ?_;refine bo (oS1 (d+19) r a 14) fun s=>?_;refine bz (cJ YV.g s) ?_;refine bo (e:=id) ?_ fun h7=>?_;refine io ?_ rfl;refine bo (e:=id) ?_ fun h6=>?_;refine io rfl ?_;refine bo (e:=id) ?_ fun h5=>?_;refine io ?_ rfl;refine bo (aW YV.g s _) fun h4=>?_;refine bo (bY (A:=YV) (c:=YV.g) (g:=fun J=>i64 J.Rule) (fun _=>rfl) s _) fun J=>?_;rfl;rfl;rfl;refine io rfl ?_;refine bo (oW1 (d+16) s a 15) fun t=>?_;refine bz (cJ YV.g t) ?_;refine bo (e:=id) ?_ fun i1=>?_;refine io ?_ rfl;refine bo (e:=id) ?_ fun i0=>?_;refine io rfl ?_;refine bo (e:=id) ?_ fun h9=>?_;refine io ?_ rfl;refine bo (aW YV.g t _) fun h8=>?_;refine bo (bY (A:=YV) (c:=YV.g) (g:=fun K=>i64 K.Rule) (fun _=>rfl) t _) fun K=>?_;rfl;rfl;rfl;refine io rfl ?_;refine bo (oY1 (d+17) t a 16) fun u=>?_;refine bz (cJ YV.g u) ?_;refine bo (e:=id) ?_ fun P=>?_;refine io ?_ rfl;refine bo (e:=id) ?_ fun O=>?_;refine io rfl ?_;refine bo (e:=id) ?_ fun N=>?_;refine io ?_ rfl;refine bo (aW YV.g u _) fun i2=>?_;refine bo (bY (A:=YV) (c:=YV.g) (g:=fun L=>i64 L.Rule) (fun _=>rfl) u _) fun L=>?_;rfl;rfl;rfl;refine io rfl ?_;refine bo (pA1 (d+17) u a 17) fun R=>?_;rfl
end Go.P
