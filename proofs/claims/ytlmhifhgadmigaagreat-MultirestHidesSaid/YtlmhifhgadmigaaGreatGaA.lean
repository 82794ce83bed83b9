import Derived.Test.YtlmhifhgadmigaaGreatLpB
import Derived.KernelRfl
import Derived.Test.YtlmhifhgadmigaaGreatChecked
/- A text of the proof. -/
set_option linter.all false
set_option maxRecDepth 100000
set_option maxHeartbeats 2000000
namespace Go.P
open Go.Sim (Ex dW CK)
structure YZ where
 Site:Int
 Number:Int
 deriving DecidableEq,Inhabited
def YZ.g (x:YZ):aA PV:=[i64 x.Site,i64 x.Number]
structure YL where
 Steps:Int
 Semitones:Int
 deriving DecidableEq,Inhabited
def YL.g (x:YL):aA PV:=[i64 x.Steps,i64 x.Semitones]
structure YF where
 ID:YZ
 Clef:Int
 deriving DecidableEq,Inhabited
def YF.g (x:YF):aA PV:=[i64 x.ID.Site,i64 x.ID.Number,i64 x.Clef]
structure YJ where
 ID:YZ
 Name:ByteArray
 Transpose:YL
 Staves:List YF
 deriving Inhabited
def YJ.g (x:YJ):aA PV:=[i64 x.ID.Site,i64 x.ID.Number,.v (.string x.Name),i64 x.Transpose.Steps,i64 x.Transpose.Semitones,.is 3 (List.map YF.g x.Staves)]
structure Y6 where
 c0:Int
 c1:Int
 c2:Int
 c3:Int
 c4:Int
 c5:Int
 deriving DecidableEq,Inhabited
def Y6.g (x:Y6):aA PV:=[i64 x.c0,i64 x.c1,i64 x.c2,i64 x.c3,i64 x.c4,i64 x.c5]
structure YX where
 Count:Int
 Unit:Int
 Groups:Y6
 deriving DecidableEq,Inhabited
def YX.g (x:YX):aA PV:=[i64 x.Count,i64 x.Unit,i64 x.Groups.c0,i64 x.Groups.c1,i64 x.Groups.c2,i64 x.Groups.c3,i64 x.Groups.c4,i64 x.Groups.c5]
structure YT where
 At:Int
 Micros:Int
 Ramp:Bool
 deriving DecidableEq,Inhabited
def YT.g (x:YT):aA PV:=[i64 x.At,i64 x.Micros,bv x.Ramp]
structure YC where
 At:Int
 Clef:Int
 deriving DecidableEq,Inhabited
def YC.g (x:YC):aA PV:=[i64 x.At,i64 x.Clef]
structure YA where
 Log:Int
 Dots:Int
 deriving DecidableEq,Inhabited
def YA.g (x:YA):aA PV:=[i64 x.Log,i64 x.Dots]
structure YH where
 Step:Int
 Alter:Int
 Octave:Int
 deriving DecidableEq,Inhabited
def YH.g (x:YH):aA PV:=[i64 x.Step,i64 x.Alter,i64 x.Octave]
structure YB where
 Pitch:YH
 Tied:Bool
 Show:Int
 deriving DecidableEq,Inhabited
def YB.g (x:YB):aA PV:=[i64 x.Pitch.Step,i64 x.Pitch.Alter,i64 x.Pitch.Octave,bv x.Tied,i64 x.Show]
structure YD where
 Pitch:YH
 Log:Int
 Slash:Bool
 deriving DecidableEq,Inhabited
def YD.g (x:YD):aA PV:=[i64 x.Pitch.Step,i64 x.Pitch.Alter,i64 x.Pitch.Octave,i64 x.Log,bv x.Slash]
structure YY where
 Text:ByteArray
 Link:Int
 deriving DecidableEq,Inhabited
def YY.g (x:YY):aA PV:=[.v (.string x.Text),i64 x.Link]
structure YE where
 ID:YZ
 Kind:Int
 Value:YA
 Heads:List YB
 Graces:List YD
 Articulations:Int
 Ornament:Int
 Dynamic:Int
 Lyrics:List YY
 Stem:Int
 Beam:Int
 deriving Inhabited
def YE.g (x:YE):aA PV:=[i64 x.ID.Site,i64 x.ID.Number,i64 x.Kind,i64 x.Value.Log,i64 x.Value.Dots,.is 5 (List.map YB.g x.Heads),.is 5 (List.map YD.g x.Graces),i64 x.Articulations,i64 x.Ornament,i64 x.Dynamic,.is 2 (List.map YY.g x.Lyrics),i64 x.Stem,i64 x.Beam]
structure YU where
 First:Int
 Count:Int
 Actual:Int
 Normal:Int
 deriving DecidableEq,Inhabited
def YU.g (x:YU):aA PV:=[i64 x.First,i64 x.Count,i64 x.Actual,i64 x.Normal]
structure YO where
 Events:List YE
 Tuplets:List YU
 deriving Inhabited
def YO.g (x:YO):aA PV:=[.is 13 (List.map YE.g x.Events),.is 4 (List.map YU.g x.Tuplets)]
structure YW where
 Clefs:List YC
 Voices:List YO
 deriving Inhabited
def YW.g (x:YW):aA PV:=[.is 2 (List.map YC.g x.Clefs),.is 2 (List.map YO.g x.Voices)]
structure YM where
 ID:YZ
 Metre:YX
 Length:Int
 Fifths:Int
 RepeatStart:Bool
 RepeatEnd:Int
 Endings:Int
 Jump:Int
 Labels:Int
 Swing:Int
 Break:Int
 Rehearsal:ByteArray
 Tempi:List YT
 Cells:List YW
 deriving Inhabited
def YM.g (x:YM):aA PV:=[i64 x.ID.Site,i64 x.ID.Number,i64 x.Metre.Count,i64 x.Metre.Unit,i64 x.Metre.Groups.c0,i64 x.Metre.Groups.c1,i64 x.Metre.Groups.c2,i64 x.Metre.Groups.c3,i64 x.Metre.Groups.c4,i64 x.Metre.Groups.c5,i64 x.Length,i64 x.Fifths,bv x.RepeatStart,i64 x.RepeatEnd,i64 x.Endings,i64 x.Jump,i64 x.Labels,i64 x.Swing,i64 x.Break,.v (.string x.Rehearsal),.is 3 (List.map YT.g x.Tempi),.is 2 (List.map YW.g x.Cells)]
structure YN where
 ID:YZ
 Kind:Int
 From:YZ
 To:YZ
 deriving DecidableEq,Inhabited
def YN.g (x:YN):aA PV:=[i64 x.ID.Site,i64 x.ID.Number,i64 x.Kind,i64 x.From.Site,i64 x.From.Number,i64 x.To.Site,i64 x.To.Number]
structure Y0 where
 Title:ByteArray
 Written:Bool
 Parts:List YJ
 Measures:List YM
 Spanners:List YN
 Last:List YZ
 deriving Inhabited
def Y0.g (x:Y0):aA PV:=[.v (.string x.Title),bv x.Written,.is 6 (List.map YJ.g x.Parts),.is 22 (List.map YM.g x.Measures),.is 7 (List.map YN.g x.Spanners),.is 2 (List.map YZ.g x.Last)]
structure YV where
 Rule:Int
 Object:YZ
 deriving DecidableEq,Inhabited
def YV.g (x:YV):aA PV:=[i64 x.Rule,i64 x.Object.Site,i64 x.Object.Number]
structure YI where
 name:ByteArray
 letter:Int
 line:Int
 octaves:Int
 middle:Int
 sharps:Int
 flats:Int
 deriving DecidableEq,Inhabited
def YI.g (x:YI):aA PV:=[.v (.string x.name),.v (.int .u8 x.letter),i64 x.line,i64 x.octaves,i64 x.middle,i64 x.sharps,i64 x.flats]
structure Y9 where
 c0:YI
 c1:YI
 c2:YI
 c3:YI
 c4:YI
 c5:YI
 c6:YI
 c7:YI
 c8:YI
 deriving DecidableEq,Inhabited
def Y9.g (x:Y9):aA PV:=[.v (.string x.c0.name),.v (.int .u8 x.c0.letter),i64 x.c0.line,i64 x.c0.octaves,i64 x.c0.middle,i64 x.c0.sharps,i64 x.c0.flats,.v (.string x.c1.name),.v (.int .u8 x.c1.letter),i64 x.c1.line,i64 x.c1.octaves,i64 x.c1.middle,i64 x.c1.sharps,i64 x.c1.flats,.v (.string x.c2.name),.v (.int .u8 x.c2.letter),i64 x.c2.line,i64 x.c2.octaves,i64 x.c2.middle,i64 x.c2.sharps,i64 x.c2.flats,.v (.string x.c3.name),.v (.int .u8 x.c3.letter),i64 x.c3.line,i64 x.c3.octaves,i64 x.c3.middle,i64 x.c3.sharps,i64 x.c3.flats,.v (.string x.c4.name),.v (.int .u8 x.c4.letter),i64 x.c4.line,i64 x.c4.octaves,i64 x.c4.middle,i64 x.c4.sharps,i64 x.c4.flats,.v (.string x.c5.name),.v (.int .u8 x.c5.letter),i64 x.c5.line,i64 x.c5.octaves,i64 x.c5.middle,i64 x.c5.sharps,i64 x.c5.flats,.v (.string x.c6.name),.v (.int .u8 x.c6.letter),i64 x.c6.line,i64 x.c6.octaves,i64 x.c6.middle,i64 x.c6.sharps,i64 x.c6.flats,.v (.string x.c7.name),.v (.int .u8 x.c7.letter),i64 x.c7.line,i64 x.c7.octaves,i64 x.c7.middle,i64 x.c7.sharps,i64 x.c7.flats,.v (.string x.c8.name),.v (.int .u8 x.c8.letter),i64 x.c8.line,i64 x.c8.octaves,i64 x.c8.middle,i64 x.c8.sharps,i64 x.c8.flats]
structure YK where
 s':Y0
 rule:Int
 list:List YV
 deriving Inhabited
def YK.g (x:YK):aA PV:=[.v (.string x.s'.Title),bv x.s'.Written,.is 6 (List.map YJ.g x.s'.Parts),.is 22 (List.map YM.g x.s'.Measures),.is 7 (List.map YN.g x.s'.Spanners),.is 2 (List.map YZ.g x.s'.Last),i64 x.rule,.is 3 (List.map YV.g x.list)]
structure yP where
 c0:Int
 c1:Int
 c2:Int
 c3:Int
 c4:Int
 c5:Int
 c6:Int
 deriving DecidableEq,Inhabited
def yP.g (x:yP):aA PV:=[i64 x.c0,i64 x.c1,i64 x.c2,i64 x.c3,i64 x.c4,i64 x.c5,i64 x.c6]
structure YP where
 Kind:Int
 Part:Int
 Staff:Int
 Measure:Int
 Voice:Int
 Event:Int
 Spanner:Int
 deriving DecidableEq,Inhabited
def YP.g (x:YP):aA PV:=[i64 x.Kind,i64 x.Part,i64 x.Staff,i64 x.Measure,i64 x.Voice,i64 x.Event,i64 x.Spanner]
structure YQ where
 Measure:Int
 At:Int
 Staff:Int
 Voice:Int
 deriving DecidableEq,Inhabited
def YQ.g (x:YQ):aA PV:=[i64 x.Measure,i64 x.At,i64 x.Staff,i64 x.Voice]
structure YS where
 Kind:Int
 From:YQ
 To:YQ
 deriving DecidableEq,Inhabited
def YS.g (x:YS):aA PV:=[i64 x.Kind,i64 x.From.Measure,i64 x.From.At,i64 x.From.Staff,i64 x.From.Voice,i64 x.To.Measure,i64 x.To.At,i64 x.To.Staff,i64 x.To.Voice]
structure YG where
 started:Bool
 body:Int
 used:Int
 ending:Int
 ended:Bool
 passes:Int
 deriving DecidableEq,Inhabited
def YG.g (x:YG):aA PV:=[bv x.started,i64 x.body,i64 x.used,i64 x.ending,bv x.ended,i64 x.passes]
structure YR where
 First:Int
 Count:Int
 deriving DecidableEq,Inhabited
def YR.g (x:YR):aA PV:=[i64 x.First,i64 x.Count]
structure aG where
 On:Int
 Off:Int
 Number:Int
 Part:Int
 Staff:Int
 Voice:Int
 Event:YZ
 Head:Int
 deriving DecidableEq,Inhabited
def aG.g (x:aG):aA PV:=[i64 x.On,i64 x.Off,i64 x.Number,i64 x.Part,i64 x.Staff,i64 x.Voice,i64 x.Event.Site,i64 x.Event.Number,i64 x.Head]
structure bE where
 Staff:Int
 Voice:Int
 Event:Int
 On:Int
 Off:Int
 deriving DecidableEq,Inhabited
def bE.g (x:bE):aA PV:=[i64 x.Staff,i64 x.Voice,i64 x.Event,i64 x.On,i64 x.Off]
theorem sA:yN (eA YZ.g) true [.i,.i]:=⟨fun _=>rfl,fun a b=>by
 cases a;cases b
 simp only[pS,eA,YZ.g,i64,iQ,oK,YZ.mk.injEq,rB2,qB2,and_self,qQ2]
 repeat' (first|rfl|split)
 all_goals simp_all⟩
theorem gN:yN (eA YP.g) true [.i,.i,.i,.i,.i,.i,.i]:=⟨fun _=>rfl,fun a b=>by
 cases a;cases b
 simp only[pS,eA,YP.g,i64,iQ,oK,YP.mk.injEq,rB2,qB2,and_self,qQ2]
 repeat' (first|rfl|split)
 all_goals simp_all⟩
theorem yQ:yN (eA YH.g) true [.i,.i,.i]:=⟨fun _=>rfl,fun a b=>by
 cases a;cases b
 simp only[pS,eA,YH.g,i64,iQ,oK,YH.mk.injEq,rB2,qB2,and_self,qQ2]
 repeat' (first|rfl|split)
 all_goals simp_all⟩
end Go.P
namespace Go.P.K
open Go.Sim (Ex dW CK)
abbrev I {A B:Type} (f:A->B) (l:aA A):aA B:=l.map f
abbrev Q (e:dY) (h:aQ):Gs:=⟨e,h⟩
abbrev rq (e:dY) (h:aQ):Ex×Gs:=(.ret,⟨e,h⟩)
abbrev ck (s:Y0) (r:Int) (l:PV):aA PV:=[.v (.string s.Title),bv s.Written,.is 6 (List.map YJ.g s.Parts),.is 22 (List.map YM.g s.Measures),.is 7 (List.map YN.g s.Spanners),.is 2 (List.map YZ.g s.Last),i64 r,l]
abbrev nq (e:dY) (h:aQ):Ex×Gs:=(.normal,⟨e,h⟩)
abbrev xq (n:Nat) (e:dY) (h:aQ):Ex×Gs:=(.exit n,⟨e,h⟩)
end Go.P.K
namespace Go.P.K
open Go.Sim (Ex dW CK)
abbrev t (n:Nat):PX:=.t n
abbrev c (n:Int):PX:=.c (.v (.int .i64 n))
abbrev cn:PX:=.c (.v (.slice none 0 0))
abbrev ct:PX:=.c (.v (.bool true))
abbrev cf:PX:=.c (.v (.bool false))
abbrev J (n:Int):Value:=.int .i64 n
abbrev ZS:Value:=.string ⟨#[]⟩
abbrev ZB:Value:=.bool false
abbrev ZN:Value:=.slice none 0 0
abbrev o (d:Nat) (k:dW) (xs:aA PX) (l:aA Nat) (r:gC):gC:=.op d k xs l r
abbrev m (d x:Nat) (r:gC):gC:=.op d .mov [.t x] [] r
abbrev M (d x:Nat) (r:gC):gC:=.op d .mov [.t x] [x] r
abbrev L (d x:Nat) (r:gC):gC:=.op d .loadS [.t x] [x] r
abbrev a (d k x:Nat) (r:gC):gC:=.op d (.fad k) [.t x] [] r
abbrev A (d k x:Nat) (r:gC):gC:=.op d (.fad k) [.t x] [x] r
abbrev b (d:Nat) (k:BinOp) (xs:aA PX) (l:aA Nat) (r:gC):gC:=.op d (.bin k) xs l r
abbrev f (d g:Nat) (xs:aA PX) (l:aA Nat) (r:gC):gC:=.op d (.callF g) xs l r
abbrev e (d k x:Nat) (l:aA Nat) (r:gC):gC:=.op d (.ext k) [.t x] l r
abbrev O (d:Nat) (k:dW) (x:Nat) (r:gC):gC:=.op d k [.t x] [x] r
abbrev B (d:Nat) (k:BinOp) (x:Nat) (n:Int) (r:gC):gC:=.op d (.bin k) [.t x,c n] [x] r
abbrev C (d:Nat) (k:BinOp) (x y:Nat) (r:gC):gC:=.op d (.bin k) [.t x,.t y] [x,y] r
abbrev U (d:Nat) (k:dW) (l:aA Nat) (r:gC):gC:=.op d k (l.map .t) l r
abbrev x (d g:Nat) (w:Bool) (s:gC) (y:PX) (l:aA Nat) (r:gC):gC:=.ifx d g w s y l r
abbrev R (s:gC) (q:PC):PC:=.seq (.reg s) q
abbrev z0:aA Value:=[(J 0),(J 0),(J 0),(J 0),(J 0),(J 0),(J 0)]
abbrev z1:aA Value:=[(J 0),(J 0),(J 0),(J 0),(J 0),(J 0),(J 0),(J 0),(J 0),(J 0),(J 0),(J 0),ZB,(J 0),(J 0),(J 0),(J 0),(J 0),(J 0),ZS,ZN,ZN]
abbrev z2:aA Value:=[(J 0),(J 0),(J 0),(J 0),(J 0),(J 0),(J 0),(J 0),(J 0)]
abbrev z3:aA Value:=[(.pointer none),(.map none),(J 0),(J 0),(J 0),(J 0),(J 0),(J 0),(J 0),(J 0),(J 0),(J 0)]
abbrev z4:aA Value:=[(J 0),(J 0)]
abbrev z5:aA Value:=[(J 0),(J 0),(J 0),(J 0),(J 0),ZN,ZN,(J 0),(J 0),(J 0),ZN,(J 0),(J 0)]
abbrev z6:aA Value:=[ZS,ZB,ZN,ZN,ZN,ZN,(J 0),ZN]
abbrev z7:aA Value:=[(J 0),(J 0),ZS,(J 0),(J 0),ZN]
abbrev z12:aA Value:=[(J 0),(J 0),(J 0),ZB,(J 0)]
abbrev z19:aA Value:=[(J 0),(J 0),(J 0),(J 0),(J 0),(J 0)]
end Go.P.K
namespace Go.P
open Go.Sim (Ex dW CK)
noncomputable section
open K
noncomputable abbrev aP (f s:Nat) (z:Bool):bL:=anF Go.Proofs.Tryz.prog f s z
def zg (l:aA bL) (i:Nat):bL:=(l[i]?).getD default
def bP:PC:=R (U 6 (.alloc 43 z0) []<|.sto (.store 7) [t 6,t 13] [13]<|.nil)<|.reg<|M 7 14<|.nil
def bQ:PC:=.block 1 (.seq (.regD 3 (M 15 7<|O 16 .nilc 15<|O 17 (.loadA 2) 16<|O 18 (.loadA 2) 3<|U 19 (.eqA false [.i,.i]) [17,18]<|.nil) [0,1,3,0,15])<|.cond (t 19) (R (O 20 (.loadA 7) 6<|.sto (.store 7) [t 4,t 20] [4,20]<|.sto (.store 1) [t 5,ct] [5]<|.nil)<|.ret) (.skip))
def p11:bL:=⟨22,[.cellA 4 7,.cellS 5],R (O 2 (.box 27 6) 0<|O 3 (.box 39 2) 1<|U 4 (.alloc 43 z0) []<|U 5 (.alloc 4 [ZB]) []<|.nil)<|.seq (R (o 8 (.loadA 2) [t 3] []<|U 9 (.build z4 []) []<|U 10 (.eqA false [.i,.i]) [8,9]<|.nil)<|.cond (t 10) (R (U 11 (.build z0 []) []<|.sto (.store 7) [t 4,t 11] [11]<|.sto (.store 1) [t 5,cf] []<|.nil)<|.ret) (.skip))<|.seq (R (O 12 (.callF 25) 2<|.nil)<|.block 0 (.rangeF 22 [3,4,5] (t 12) [13,14] bP bQ))<|R (U 21 (.build z0 []) []<|.sto (.store 7) [t 4,t 21] [21]<|.sto (.store 1) [t 5,cf] []<|.nil)<|.ret,true⟩
def p30:bL:=⟨86,[],R (U 8 .mkmap []<|M 2 8<|.nil)<|.seq (R (m 9 0<|O 10 .nilc 9<|A 11 0 10<|O 12 (.loadA 6) 11<|O 13 (.callF 63) 12<|o 14 (.len 0) [t 13] []<|o 15 .mov [c 0] []<|.nil)<|.block 0 (.loop [0,2,13,14,15] [0] (R (b 16 .lss [t 15,t 14] []<|.nil)<|.seq (.cond (t 16) (.skip) (.exit 0))<|.seq (.block 1 (R (o 17 (.iad 2) [t 13,t 15] []<|O 18 (.loadA 2) 17<|U 4 (.alloc 39 z4) []<|.sto (.store 2) [t 4,t 18] [18]<|.nil)<|.seq (.regD 3 (m 19 0<|o 20 (.loadA 2) [t 4] []<|O 21 (.callF 64) 20<|O 22 (.un .not) 21<|M 23 22<|x 27 23 false (m 24 2<|o 25 (.loadA 2) [t 4] []<|U 26 (.lookup true [.i,.i] (.v (.bool false)) false) [24,25]<|.nil) (t 26) [23]<|M 28 27<|x 39 28 false (a 29 1 4<|L 30 29<|m 31 0<|O 32 .nilc 31<|A 33 0 32<|O 34 (.loadA 6) 33<|a 35 0 4<|L 36 35<|U 37 (.callF 65) [34,36]<|C 38 .gtr 30 37<|.nil) (t 38) [28]<|o 40 (.loadA 2) [t 4] []<|f 41 59 [t 19,t 39,t 40] [19,39,40,41]<|.nil) [0,0,2,6,14,30,30,126,254,510,1022,2046,1022,5118,13310,29694,1022,66558,259070,524286,1048574,0,4194303])<|.reg<|o 42 .mov [t 2] [41]<|O 43 (.loadA 2) 4<|.sto (.mapup true [.i,.i]) [t 42,t 43,ct] [42,43]<|.nil))<|.reg<|B 44 .add 15 1<|M 15 44<|.nil)))<|R (o 5 .mov [cf] []<|.nil)<|.seq (R (m 45 0<|O 46 .nilc 45<|A 47 0 46<|A 48 5 47<|L 49 48<|o 50 (.len 0) [t 49] []<|o 51 .mov [c 0] []<|.nil)<|.block 2 (.loop [0,5,49,50,51] [0,5] (R (b 52 .lss [t 51,t 50] []<|.nil)<|.seq (.cond (t 52) (.skip) (.exit 2))<|.seq (.block 3 (R (m 53 51<|o 54 (.iad 2) [t 49,t 51] []<|O 55 (.loadA 2) 54<|U 7 (.alloc 39 z4) []<|M 6 53<|.sto (.store 2) [t 7,t 55] [55]<|.nil)<|.regD 3 (M 56 5<|M 57 56<|x 61 57 false (o 58 (.loadA 2) [t 7] []<|O 59 (.callF 64) 58<|O 60 (.un .not) 59<|.nil) (t 60) [57]<|M 62 61<|x 80 62 false (m 63 6<|B 64 .gtr 63 0<|M 65 64<|x 79 65 true (A 66 0 7<|L 67 66<|m 68 0<|O 69 .nilc 68<|A 70 0 69<|A 71 5 70<|L 72 71<|M 73 6<|B 74 .sub 73 1<|U 75 (.iad 2) [72,74]<|A 76 0 75<|L 77 76<|C 78 .leq 67 77<|.nil) (t 78) [6,7,65]<|.nil) (t 79) [6,7,62]<|M 5 80<|.nil) [0,1,3,7,15,31,63,127,255,511,1023,2047,1023,5119,13311,29695,62463,1023,132095,521215,1045503,2094079,4194303,8388607,16777215,33554431]))<|.reg<|B 81 .add 51 1<|M 51 81<|.nil)))<|.reg<|M 82 0<|M 83 5<|U 84 (.build z4 []) []<|f 85 59 [t 82,t 83,t 84] [82,83,84,85]<|.nil,true⟩
def p49:bL:=⟨103,[],R (O 5 (.box 104 13) 1<|.nil)<|R (U 16 .mkmap []<|M 8 16<|.nil)<|.seq (R (a 17 5 5<|L 18 17<|o 19 (.len 0) [t 18] []<|o 20 .mov [c 0] []<|.nil)<|.block 0 (.loop [0,2,3,5,8,18,19,20] [0,8] (R (b 21 .lss [t 20,t 19] []<|.nil)<|.seq (.cond (t 21) (.skip) (.exit 0))<|.seq (.block 1 (R (m 22 20<|o 23 (.iad 5) [t 18,t 20] []<|O 24 (.loadA 5) 23<|U 10 (.alloc 108 z12) []<|M 9 22<|.sto (.store 5) [t 10,t 24] [24]<|.nil)<|.seq (.regD 3 (m 26 0<|O 27 .nilc 26<|A 28 1 27<|L 29 28<|a 30 0 10<|O 31 (.loadA 3) 30<|U 32 (.lookup true [.i,.i,.i] (.v (.int .i64 0)) true) [29,31]<|M 25 32<|e 33 0 25 []<|O 34 (.ext 1) 25<|M 11 33<|M 12 34<|.nil) [0,1,3,7,0,16,63,127,255,255,511,2047])<|.seq (R (M 35 12<|O 36 (.un .not) 35<|.nil)<|.condJ [0,2,3,5,8,10,11,18,19,20] (t 36) (R (a 38 0 10<|O 39 (.loadA 3) 38<|O 40 (.callF 80) 39<|M 37 40<|e 41 0 37 []<|O 42 (.ext 1) 37<|M 13 41<|o 14 .mov [t 42] [14,42]<|.nil)<|R (o 43 .mov [t 0] [14]<|O 44 .nilc 43<|A 45 2 44<|O 46 (.loadA 9) 45<|U 15 (.alloc 41 z2) []<|.sto (.store 9) [t 15,t 46] [46]<|.nil)<|.seq (.regX 3 (m 47 2<|M 48 13<|m 49 0<|O 50 .nilc 49<|A 51 11 50<|o 52 .loadS [t 51] []<|C 53 .sub 48 52<|a 54 0 5<|o 55 (.loadA 2) [t 54] []<|M 56 9<|a 57 0 15<|.sto (.store 1) [t 57,t 47] [47]<|a 58 2 15<|.sto (.store 1) [t 58,t 53] [53]<|a 59 6 15<|.sto (.store 2) [t 59,t 55] [55,59]<|a 60 8 15<|.sto (.store 1) [t 60,t 56] [56,60]<|.nil) [0,0,0,4,12,28,62,0,128,0,1,1025,3199,7295,15871,32255,65535,131071] [(5,11,51,57),(8,11,54,57),(8,13,54,58)])<|R (m 61 0<|O 62 .nilc 61<|A 63 0 62<|L 64 63<|O 65 .nilc 64<|L 66 65<|O 67 (.len 0) 66<|M 11 67<|.nil)<|.regX 3 (m 68 0<|O 69 .nilc 68<|A 70 0 69<|o 71 .loadS [t 70] []<|m 72 0<|O 73 .nilc 72<|A 74 0 73<|L 75 74<|O 76 .nilc 75<|L 77 76<|O 78 (.loadA 9) 15<|O 79 (.buildSl 41 9 1 z2 [0]) 78<|U 80 (.append 41 9 72 z2 false) [77,79]<|O 81 .nilc 71<|.sto (.store 1) [t 81,t 80] [81]<|.nil) [0,1,3,7,0,16,48,112,240,496,0,1024,4080,8191,16383] [(3,12,70,80)]) (.skip))<|R (m 82 0<|O 83 .nilc 82<|A 84 0 83<|L 85 84<|O 86 .nilc 85<|L 87 86<|m 88 11<|m 89 3<|U 90 (.iad 9) [87,88]<|A 91 1 90<|.sto (.store 1) [t 91,t 89] [89,91]<|.nil)<|R (a 92 3 10<|L 93 92<|.nil)<|.condJ [0,2,3,5,8,18,19,20] (t 93) (.reg<|m 94 8<|A 95 0 10<|O 96 (.loadA 3) 95<|M 97 11<|.sto (.mapup true [.i,.i,.i]) [t 94,t 96,t 97] [94,96,97]<|.nil) (.skip)))<|.reg<|B 98 .add 20 1<|M 20 98<|.nil)))<|.reg<|M 99 0<|M 100 8<|.fz 100 none<|O 101 .nilc 99<|A 102 1 101<|.sto (.store 1) [t 102,t 100] [100,102]<|.nil,true⟩
def jB:PC:=.reg<|U 5 (.alloc 53 z4) []<|.sto (.store 2) [t 5,t 7] [7]<|.nil
def jC:PC:=.block 1 (.reg<|o 8 .loadS [t 2] []<|O 9 (.loadA 2) 5<|O 10 (.buildSl 53 2 1 z4 [0]) 9<|U 11 (.append 53 2 16 z4 false) [8,10]<|.sto (.store 1) [t 2,t 11] [2,11]<|.nil)
def p54:bL:=⟨13,[.tmp 4],R (O 2 (.box 49 1) 0<|.ownc 2 0 53 2 false<|o 4 .mov [cn] [4]<|.nil)<|.seq (R (o 6 .mov [t 1] [1,4]<|.nil)<|.block 0 (.rangeF 13 [2] (t 6) [7] jB jC))<|R (L 12 2<|M 4 12<|.nil)<|.ret,true⟩
def p56:bL:=⟨22,[.tmp 2],R (O 1 (.box 27 6) 0<|o 2 .mov [.c (.v (.map none))] [2]<|.nil)<|R (o 6 .mkmap [] [2]<|M 3 6<|.nil)<|.seq (R (A 7 4 1<|L 8 7<|o 9 (.len 0) [t 8] []<|o 10 .mov [c 0] []<|.nil)<|.block 0 (.loop [3,8,9,10] [3] (R (b 11 .lss [t 10,t 9] []<|.nil)<|.seq (.cond (t 11) (.skip) (.exit 0))<|.seq (.block 1 (R (o 12 (.iad 7) [t 8,t 10] []<|O 13 (.loadA 7) 12<|U 5 (.alloc 47 z0) []<|.sto (.store 7) [t 5,t 13] [13]<|.nil)<|.regX 3 (m 14 3<|a 15 3 5<|O 16 (.loadA 2) 15<|m 17 3<|A 18 5 5<|o 19 (.loadA 2) [t 18] []<|.sto (.mapup true [.i,.i]) [t 14,t 16,ct] [16]<|.sto (.mapup true [.i,.i]) [t 17,t 19,ct] [17,19]<|.nil) [0,0,2,0,0,16,7,127] [(5,6,18,14)]))<|.reg<|B 20 .add 10 1<|M 10 20<|.nil)))<|R (M 21 3<|M 2 21<|.nil)<|.ret,true⟩
def p58:bL:=⟨68,[.tmp 4],R (O 2 (.box 27 6) 0<|o 4 .mov [cf] [4]<|.nil)<|.seq (R (o 8 .mov [t 1] [4]<|B 9 .eql 8 0<|.nil)<|.cond (t 9) (R (o 4 .mov [cf] []<|.nil)<|.ret) (.skip))<|.seq (.regX 3 (a 10 3 2<|L 11 10<|m 12 1<|B 13 .sub 12 1<|U 14 (.iad 22) [11,13]<|O 15 (.loadA 22) 14<|A 16 3 2<|o 17 .loadS [t 16] []<|M 18 1<|U 19 (.iad 22) [17,18]<|o 20 (.loadA 22) [t 19] []<|U 5 (.alloc 65 z1) []<|U 6 (.alloc 65 z1) []<|.sto (.store 22) [t 5,t 15] [15]<|.sto (.store 22) [t 6,t 20] [20]<|.nil) [0,1,0,4,15,31,0,64,0,448,960,0,0,6207,16383] [(7,13,16,5),(10,13,19,5)])<|R (a 21 21 6<|L 22 21<|f 23 121 [t 22,.c (.fn 122 [] [])] [22]<|M 7 23<|.nil)<|R (a 24 2 5<|O 25 (.loadA 8) 24<|a 26 2 6<|O 27 (.loadA 8) 26<|U 28 (.eqA false [.i,.i,.i,.i,.i,.i,.i,.i]) [25,27]<|M 29 28<|x 35 29 true (a 30 10 5<|L 31 30<|a 32 10 6<|L 33 32<|C 34 .eql 31 33<|.nil) (t 34) [29]<|M 36 35<|x 42 36 true (A 37 11 5<|L 38 37<|a 39 11 6<|L 40 39<|C 41 .eql 38 40<|.nil) (t 41) [5,36]<|M 43 42<|x 48 43 true (a 44 20 6<|L 45 44<|O 46 (.len 0) 45<|B 47 .eql 46 0<|.nil) (t 47) [43]<|M 49 48<|x 52 49 true (M 50 7<|O 51 (.un .not) 50<|.nil) (t 51) [7,49]<|M 53 52<|x 57 53 true (a 54 17 6<|L 55 54<|B 56 .eql 55 0<|.nil) (t 56) [53]<|M 58 57<|x 62 58 true (a 59 18 6<|L 60 59<|B 61 .eql 60 0<|.nil) (t 61) [58]<|M 63 62<|x 67 63 true (A 64 19 6<|L 65 64<|b 66 .eql [t 65,.c (.v (.string ⟨#[]⟩))] [65]<|.nil) (t 66) [6,63]<|M 4 67<|.nil)<|.ret,true⟩
def dI:PC:=.reg<|M 5 8<|.nil
def dJ:PC:=.block 1 (.regD 3 (o 9 .loadS [t 3] []<|M 10 5<|O 11 .nilc 10<|O 12 (.loadA 2) 11<|O 13 (.buildSl 39 2 1 z4 [0]) 12<|U 14 (.append 39 2 16 z4 false) [9,13]<|.sto (.store 1) [t 3,t 14] [3,14]<|.nil) [0,0,2,6,14,31,63])
def p63:bL:=⟨16,[.tmp 2],R (O 1 (.box 27 6) 0<|o 2 .mov [cn] [2]<|.nil)<|R (o 3 (.alloc 25 [ZN]) [] [2]<|.ownc 3 0 39 2 false<|.nil)<|.seq (R (O 6 (.callF 25) 1<|.nil)<|.block 0 (.rangeF 16 [3] (t 6) [7,8] dI dJ))<|R (L 15 3<|M 2 15<|.nil)<|.ret,true⟩
def p70:bL:=⟨55,[.tmp 5],R (O 4 (.box 65 22) 1<|o 5 .mov [cf] [5]<|.nil)<|R (o 12 (.loadA 22) [t 4] [5]<|O 13 (.callF 47) 12<|M 11 13<|e 14 0 11 []<|O 15 (.ext 1) 11<|o 6 .mov [t 14] [6,14]<|o 7 .mov [t 15] [6,15]<|.nil)<|R (M 16 7<|B 17 .neq 16 0<|M 18 17<|x 23 18 false (a 19 11 4<|L 20 19<|f 21 61 [t 20,c (-7),c 7] [20]<|O 22 (.un .not) 21<|.nil) (t 22) [18]<|M 8 23<|.nil)<|.seq (R (o 24 .loadS [t 2] []<|O 25 .nilc 24<|A 26 0 25<|A 27 2 26<|L 28 27<|o 29 (.len 0) [t 28] []<|o 30 .mov [c 0] []<|.nil)<|.block 0 (.loop [2,4,8,28,29,30] [8] (R (b 31 .lss [t 30,t 29] []<|.nil)<|.seq (.cond (t 31) (.skip) (.exit 0))<|.seq (.block 1 (R (o 32 (.iad 6) [t 28,t 30] []<|O 33 (.loadA 6) 32<|U 10 (.alloc 58 z7) []<|.sto (.store 6) [t 10,t 33] [33]<|.nil)<|R (o 34 .loadS [t 2] []<|O 35 .nilc 34<|A 36 0 35<|A 37 1 36<|L 38 37<|M 39 38<|x 42 39 true (m 40 8<|O 41 (.un .not) 40<|.nil) (t 41) [39]<|.nil)<|.condJ [2,4,8,28,29,30] (t 42) (R (a 44 11 4<|L 45 44<|A 46 3 10<|O 47 (.loadA 2) 46<|U 48 (.callF 71) [45,47]<|M 43 48<|e 49 0 43 [49]<|e 50 1 43 [43,49]<|M 7 50<|.nil)<|.reg<|M 51 7<|B 52 .neq 51 0<|M 8 52<|.nil) (.skip)))<|.reg<|B 53 .add 30 1<|M 30 53<|.nil)))<|R (M 54 8<|M 5 54<|.nil)<|.ret,true⟩
def p90:bL:=⟨108,[],R (U 10 (.alloc 114 [ZS,(J 0)]) []<|.nil)<|R (U 11 (.alloc 43 z0) []<|.nil)<|.seq (R (M 18 0<|O 19 .nilc 18<|A 20 0 19<|A 21 3 20<|L 22 21<|o 23 (.len 0) [t 22] []<|o 24 .mov [c 0] []<|.nil)<|.block 0 (.loop [1,2,3,4,10,11,22,23,24] [4,10,11] (R (b 25 .lss [t 24,t 23] []<|.nil)<|.seq (.cond (t 25) (.skip) (.exit 0))<|.seq (.block 1 (R (m 26 24<|o 27 (.iad 22) [t 22,t 24] []<|O 28 (.loadA 22) 27<|U 13 (.alloc 65 z1) []<|M 12 26<|.sto (.store 22) [t 13,t 28] [28]<|.nil)<|.seq (R (m 29 1<|a 30 21 13<|L 31 30<|O 32 (.len 0) 31<|C 33 .geq 29 32<|M 34 33<|x 44 34 false (m 35 2<|a 36 21 13<|L 37 36<|m 38 1<|U 39 (.iad 2) [37,38]<|A 40 1 39<|L 41 40<|O 42 (.len 0) 41<|C 43 .geq 35 42<|.nil) (t 43) [34]<|.nil)<|.cond (t 44) (.exit 1) (.skip))<|R (A 45 21 13<|L 46 45<|m 47 1<|U 48 (.iad 2) [46,47]<|A 49 1 48<|L 50 49<|m 51 2<|U 52 (.iad 2) [50,51]<|A 53 0 52<|L 54 53<|o 55 (.len 0) [t 54] []<|o 56 .mov [c 0] []<|.nil)<|.block 2 (.loop [1,2,3,4,10,11,12,22,23,24,54,55,56] [1,2,3,4,10,11,22,23,24] (R (b 57 .lss [t 56,t 55] []<|.nil)<|.seq (.cond (t 57) (.skip) (.exit 2))<|.seq (.block 3 (R (m 58 56<|o 59 (.iad 13) [t 54,t 56] []<|O 60 (.loadA 13) 59<|U 15 (.alloc 104 z5) []<|M 14 58<|.sto (.store 13) [t 15,t 60] [60]<|.nil)<|.seq (R (o 61 (.loadA 13) [t 15] []<|m 62 3<|U 63 (.callF 153) [61,62]<|.nil)<|.cond (t 63) (.exit 3) (.skip))<|.seq (.regX 3 (m 64 1<|m 65 12<|m 66 2<|M 67 14<|o 68 (.build z0 [(0,1),(2,1),(3,1),(4,1),(5,1)]) [c 4,t 64,t 65,t 66,t 67] [64,65,66,67]<|A 69 10 15<|o 70 .loadS [t 69] []<|m 71 3<|U 72 (.iad 2) [70,71]<|o 73 (.loadA 2) [t 72] []<|U 16 (.alloc 43 z0) []<|U 17 (.alloc 114 [ZS,(J 0)]) []<|.sto (.store 7) [t 16,t 68] [68]<|.sto (.store 2) [t 17,t 73] [73]<|.nil) [0,0,0,0,15,0,32,0,224,480,0,0,3103,8191] [(6,12,69,16),(9,12,72,16)])<|.seq (R (a 74 1 10<|L 75 74<|B 76 .eql 75 1<|M 77 76<|x 81 77 true (a 78 0 17<|L 79 78<|b 80 .eql [t 79,.c (.v (.string ⟨#[]⟩))] [79]<|.nil) (t 80) [77]<|.nil)<|.condJ [1,2,3,4,10,11,12,16,17,22,23,24,54,55,56] (t 81) (.reg<|m 82 4<|o 83 (.loadA 7) [t 11] []<|.sto (.mapup true [.i,.i,.i,.i,.i,.i,.i]) [t 82,t 83,ct] [82,83]<|.nil) (.skip))<|.seq (R (a 84 0 17<|L 85 84<|b 86 .eql [t 85,.c (.v (.string ⟨#[]⟩))] [85]<|M 87 86<|x 91 87 true (a 88 1 17<|L 89 88<|B 90 .eql 89 2<|.nil) (t 90) [87]<|M 92 91<|x 96 92 true (a 93 1 10<|L 94 93<|B 95 .neq 94 2<|.nil) (t 95) [92]<|.nil)<|.condJ [1,2,3,4,10,11,12,16,17,22,23,24,54,55,56] (t 96) (.reg<|m 97 4<|o 98 (.loadA 7) [t 16] []<|.sto (.mapup true [.i,.i,.i,.i,.i,.i,.i]) [t 97,t 98,ct] [97,98]<|.nil) (.skip))<|.regX 3 (O 99 (.loadA 2) 17<|o 100 (.loadA 7) [t 16] []<|.sto (.store 2) [t 10,t 99] [99]<|.sto (.store 7) [t 11,t 100] [100]<|.nil) [0,0,1,7] [(1,2,16,10)]))<|.reg<|B 101 .add 56 1<|M 56 101<|.nil))))<|.reg<|B 102 .add 24 1<|M 24 102<|.nil)))<|R (A 103 1 10<|L 104 103<|B 105 .eql 104 1<|.nil)<|.condJ [] (t 105) (.reg<|M 106 4<|O 107 (.loadA 7) 11<|.sto (.mapup true [.i,.i,.i,.i,.i,.i,.i]) [t 106,t 107,ct] [106,107]<|.nil) (.skip),true⟩
def p91:bL:=⟨9,[.tmp 5],R (O 3 (.box 43 7) 0<|o 4 (.box 104 13) [t 1] [1,4]<|o 5 .mov [cf] [4,5]<|.nil)<|R (o 6 .loadS [t 2] [2,5]<|O 7 (.loadA 7) 3<|U 8 (.lookup true [.i,.i,.i,.i,.i,.i,.i] (.v (.bool false)) false) [6,7]<|M 5 8<|.nil)<|.ret,true⟩
def zM1:bL:=⟨73,[.tmp 4],R (O 2 (.box 104 13) 0<|O 3 (.box 104 13) 1<|o 4 .mov [cf] [4]<|.nil)<|R (o 5 (.fad 2) [t 2] [4]<|L 6 5<|a 7 2 3<|L 8 7<|C 9 .eql 6 8<|M 10 9<|x 16 10 true (a 11 3 2<|O 12 (.loadA 2) 11<|a 13 3 3<|O 14 (.loadA 2) 13<|U 15 (.eqA false [.i,.i]) [12,14]<|.nil) (t 15) [10]<|M 17 16<|x 23 17 true (a 18 7 2<|L 19 18<|a 20 7 3<|L 21 20<|C 22 .eql 19 21<|.nil) (t 22) [17]<|M 24 23<|x 30 24 true (a 25 8 2<|L 26 25<|a 27 8 3<|L 28 27<|C 29 .eql 26 28<|.nil) (t 29) [24]<|M 31 30<|x 37 31 true (a 32 9 2<|L 33 32<|a 34 9 3<|L 35 34<|C 36 .eql 33 35<|.nil) (t 36) [31]<|M 38 37<|x 44 38 true (a 39 11 2<|L 40 39<|a 41 11 3<|L 42 41<|C 43 .eql 40 42<|.nil) (t 43) [38]<|M 45 44<|x 51 45 true (a 46 12 2<|L 47 46<|a 48 12 3<|L 49 48<|C 50 .eql 47 49<|.nil) (t 50) [45]<|M 52 51<|x 58 52 true (a 53 5 2<|L 54 53<|a 55 5 3<|L 56 55<|U 57 (.callF 184) [54,56]<|.nil) (t 57) [52]<|M 59 58<|x 65 59 true (a 60 6 2<|L 61 60<|a 62 6 3<|L 63 62<|U 64 (.callF 185) [61,63]<|.nil) (t 64) [59]<|M 66 65<|x 72 66 true (A 67 10 2<|L 68 67<|A 69 10 3<|L 70 69<|U 71 (.callF 186) [68,70]<|.nil) (t 71) [2,3,66]<|M 4 72<|.nil)<|.ret,true⟩
def zN1:bL:=⟨9,[.tmp 3],R (O 2 (.box 108 5) 0<|o 3 .mov [cf] [3]<|.nil)<|R (o 4 (.fad 0) [t 2] [2,3]<|O 5 (.loadA 3) 4<|A 6 0 1<|O 7 (.loadA 3) 6<|U 8 (.eqA false [.i,.i,.i]) [5,7]<|M 3 8<|.nil)<|.ret,true⟩
def zO1:bL:=⟨19,[.tmp 4],R (O 2 (.box 104 13) 0<|o 4 .mov [cf] [4]<|.nil)<|R (o 5 .mov [t 1] [4]<|a 6 10 2<|L 7 6<|O 8 (.len 0) 7<|C 9 .geq 5 8<|M 10 9<|x 18 10 false (A 11 10 2<|L 12 11<|M 13 1<|U 14 (.iad 2) [12,13]<|O 15 (.loadA 2) 14<|U 16 (.build [ZS,(J 0)] []) []<|U 17 (.eqA false [.s,.i]) [15,16]<|.nil) (t 17) [1,2,10]<|M 4 18<|.nil)<|.ret,true⟩
def kT:PC:=.reg<|U 5 (.alloc 41 z2) []<|.sto (.store 9) [t 5,t 7] [7]<|.nil
def kU:PC:=.block 1 (.reg<|o 8 .loadS [t 2] []<|O 9 (.loadA 9) 5<|O 10 (.buildSl 41 9 1 z2 [0]) 9<|U 11 (.append 41 9 72 z2 false) [8,10]<|.sto (.store 1) [t 2,t 11] [2,11]<|.nil)
def pE1:bL:=⟨13,[.tmp 4],R (O 2 (.box 34 1) 0<|.ownc 2 0 41 9 false<|o 4 .mov [cn] [4]<|.nil)<|.seq (R (o 6 .mov [t 1] [1,4]<|.nil)<|.block 0 (.rangeF 13 [2] (t 6) [7] kT kU))<|R (L 12 2<|M 4 12<|.nil)<|.ret,true⟩
def pF1:bL:=⟨24,[.tmp 3],R (O 2 (.box 104 13) 0<|o 3 .mov [cf] [3]<|.nil)<|R (o 4 (.fad 5) [t 2] [3]<|L 5 4<|O 6 (.len 0) 5<|B 7 .gtr 6 0<|M 8 7<|x 12 8 false (a 9 9 2<|L 10 9<|B 11 .neq 10 0<|.nil) (t 11) [8]<|M 13 12<|x 17 13 false (a 14 7 2<|L 15 14<|B 16 .neq 15 0<|.nil) (t 16) [13]<|M 18 17<|x 23 18 false (L 19 1<|A 20 0 2<|O 21 (.loadA 2) 20<|U 22 (.lookup true [.i,.i] (.v (.bool false)) false) [19,21]<|.nil) (t 22) [1,2,18]<|M 3 23<|.nil)<|.ret,true⟩
def zP1:bL:=⟨26,[.tmp 4],R (o 4 .mov [cf] [4]<|.nil)<|.seq (R (o 6 .mov [t 0] [4]<|O 7 (.len 0) 6<|m 8 1<|O 9 (.len 0) 8<|C 10 .neq 7 9<|.nil)<|.cond (t 10) (R (o 4 .mov [cf] []<|.nil)<|.ret) (.skip))<|.seq (R (m 11 0<|O 12 (.len 0) 11<|o 13 .mov [c 0] []<|.nil)<|.block 0 (.loop [0,1,12,13] [4] (R (b 14 .lss [t 13,t 12] []<|.nil)<|.seq (.cond (t 14) (.skip) (.exit 0))<|.seq (.block 1 (R (m 15 13<|M 5 15<|.nil)<|.seq (.regD 3 (m 16 0<|m 17 5<|U 18 (.iad 5) [16,17]<|O 19 (.loadA 5) 18<|m 20 1<|M 21 5<|U 22 (.iad 5) [20,21]<|O 23 (.loadA 5) 22<|U 24 (.eqA true [.i,.i,.i,.b,.i]) [19,23]<|.nil) [0,0,3,7,0,0,48,112,255])<|.cond (t 24) (R (o 4 .mov [cf] []<|.nil)<|.ret) (.skip)))<|.reg<|B 25 .add 13 1<|M 13 25<|.nil)))<|R (o 4 .mov [ct] []<|.nil)<|.ret,true⟩
def zQ1:bL:=⟨26,[.tmp 4],R (o 4 .mov [cf] [4]<|.nil)<|.seq (R (o 6 .mov [t 0] [4]<|O 7 (.len 0) 6<|m 8 1<|O 9 (.len 0) 8<|C 10 .neq 7 9<|.nil)<|.cond (t 10) (R (o 4 .mov [cf] []<|.nil)<|.ret) (.skip))<|.seq (R (m 11 0<|O 12 (.len 0) 11<|o 13 .mov [c 0] []<|.nil)<|.block 0 (.loop [0,1,12,13] [4] (R (b 14 .lss [t 13,t 12] []<|.nil)<|.seq (.cond (t 14) (.skip) (.exit 0))<|.seq (.block 1 (R (m 15 13<|M 5 15<|.nil)<|.seq (.regD 3 (m 16 0<|m 17 5<|U 18 (.iad 5) [16,17]<|O 19 (.loadA 5) 18<|m 20 1<|M 21 5<|U 22 (.iad 5) [20,21]<|O 23 (.loadA 5) 22<|U 24 (.eqA true [.i,.i,.i,.i,.b]) [19,23]<|.nil) [0,0,3,7,0,0,48,112,255])<|.cond (t 24) (R (o 4 .mov [cf] []<|.nil)<|.ret) (.skip)))<|.reg<|B 25 .add 13 1<|M 13 25<|.nil)))<|R (o 4 .mov [ct] []<|.nil)<|.ret,true⟩
def zR1:bL:=⟨26,[.tmp 4],R (o 4 .mov [cf] [4]<|.nil)<|.seq (R (o 6 .mov [t 0] [4]<|O 7 (.len 0) 6<|m 8 1<|O 9 (.len 0) 8<|C 10 .neq 7 9<|.nil)<|.cond (t 10) (R (o 4 .mov [cf] []<|.nil)<|.ret) (.skip))<|.seq (R (m 11 0<|O 12 (.len 0) 11<|o 13 .mov [c 0] []<|.nil)<|.block 0 (.loop [0,1,12,13] [4] (R (b 14 .lss [t 13,t 12] []<|.nil)<|.seq (.cond (t 14) (.skip) (.exit 0))<|.seq (.block 1 (R (m 15 13<|M 5 15<|.nil)<|.seq (.regD 3 (m 16 0<|m 17 5<|U 18 (.iad 2) [16,17]<|O 19 (.loadA 2) 18<|m 20 1<|M 21 5<|U 22 (.iad 2) [20,21]<|O 23 (.loadA 2) 22<|U 24 (.eqA true [.s,.i]) [19,23]<|.nil) [0,0,3,7,0,0,48,112,255])<|.cond (t 24) (R (o 4 .mov [cf] []<|.nil)<|.ret) (.skip)))<|.reg<|B 25 .add 13 1<|M 13 25<|.nil)))<|R (o 4 .mov [ct] []<|.nil)<|.ret,true⟩
def zS1:bL:=⟨6,[.tmp 2],R (O 1 (.box 114 2) 0<|o 2 .mov [cf] [2]<|.nil)<|R (o 3 (.loadA 2) [t 1] [1,2]<|U 4 (.build [ZS,(J 0)] []) []<|U 5 (.eqA false [.s,.i]) [3,4]<|M 2 5<|.nil)<|.ret,true⟩
def zT1:bL:=⟨50,[.tmp 2],R (O 1 (.box 61 8) 0<|o 2 .mov [cf] [2]<|.nil)<|.seq (R (o 7 (.fad 2) [t 1] [2]<|O 8 (.loadA 6) 7<|U 9 (.build z19 []) []<|U 10 (.eqA false [.i,.i,.i,.i,.i,.i]) [8,9]<|.nil)<|.cond (t 10) (R (o 2 .mov [ct] []<|.nil)<|.ret) (.skip))<|R (o 3 .mov [c 0] []<|o 4 .mov [c 0] []<|.nil)<|.seq (R (a 11 2 1<|O 12 (.loadA 6) 11<|o 13 .mov [c 0] []<|.nil)<|.block 0 (.loop [1,3,4,12,13] [1,2,3,4] (R (b 14 .lss [t 13,c 6] []<|.nil)<|.seq (.cond (t 14) (.skip) (.exit 0))<|.seq (.block 1 (R (m 15 13<|o 16 (.idxA 6 1 false) [t 12,t 13] []<|M 5 15<|M 6 16<|.nil)<|.block 2 (R (m 18 6<|B 19 .lss 18 0<|M 20 19<|x 23 20 false (m 21 6<|B 22 .gtr 21 64<|.nil) (t 22) [20]<|M 24 23<|x 32 24 false (m 25 6<|B 26 .gtr 25 0<|M 27 26<|x 31 27 true (M 28 5<|m 29 4<|C 30 .neq 28 29<|.nil) (t 30) [5,27]<|.nil) (t 31) [5,24]<|M 17 32<|.nil)<|.cond (t 17) (R (o 2 .mov [cf] []<|.nil)<|.ret) (R (m 34 6<|B 35 .gtr 34 0<|M 33 35<|.nil)<|.condJ [1,3,4,12,13] (t 33) (.reg<|M 36 3<|M 37 6<|C 38 .add 36 37<|M 39 4<|B 40 .add 39 1<|M 3 38<|M 4 40<|.nil) (.skip)))))<|.reg<|B 41 .add 13 1<|M 13 41<|.nil)))<|R (M 42 3<|A 43 0 1<|L 44 43<|C 45 .eql 42 44<|M 46 45<|x 49 46 true (M 47 4<|B 48 .geq 47 2<|.nil) (t 48) [4,46]<|M 2 49<|.nil)<|.ret,true⟩
def vO:{l:aA bL//l=[aP 3 0x129818332111145128c6221125111111111001fc1e2210114511011f1c2201ef1f221ee12010111110101d12301dc1d221db12010111110100301110019187654321191b19187654311900111000111100111001a511111001110030110019187654321191a191876543119001110110110065111000111001864325191876543118000110111011011101101001110351111035112122121 true,aP 6 0x12cb122111145111110451111104511111045111101111111110011025110011111101110101111110111010130011110111010011111010018764321719187643170000111111010185111111010011100643215187643160000111104511111045111105e1201101001110021264314001110011111101018511111101001110043214543140002122121 true,aP 7 0x111121222121 true,aP 8 0x154221d5221101110125310401131232222121 true,aP 9 0x1111111118b6e22018b18a1891887c7b620011101037a121010000592e2d1a18765411a6e6d6c592e2d1c1b1a18765411f00010116a43114685f220100010002e2d5415592e2d1a18765411a00111110102e2d1a18765411911019123f19221110011001000412e2d5415001011001959046610401925310401131232222121 true,aP 10 0x11111011111110101101030111003143130012122121 true,aP 15 0x16d122111145111101111110011111010011100321354314000011110451111104511110291201101001110021231202122121 true,aP 16 0x1111111111111101110101011111010043135431400011100314313002122121 true,aP 17 0x1111111b85f221b81af2210111111111101851111101f51111102e51111110786e221111011100205f5e5d342a100115b594f4d4b493f3d3b392f2d2b291f1d1b29310101010101010101010101010101010101031f871966114121222121 true,aP 18 0x11111111111101110111165432161112d12010110000111003225432150011100133051040132051041 true,aP 19 0x11111111111117122d72211011128121010000311c1b1a340001112122121 true,aP 20 0x11111111111c1201000311918734000112122121 true,aP 21 0x11111111011110111002a12101000065431e1d1c140001100001612652254224121 true,aP 22 0x118943104111011117b2e2207b7a6e6a4c5211101100111011101110100302e2d2c1c643201911101045110103912010001c022e2d2c1c643201900011b122b1b221101101 true,aP 23 0x1112022212 true,aP 24 0x1111111101110112122121 true,aP 25 0x121222121 true,aP 27 0x112022212 true,aP 28 0x121222121 true,aP 29 0x2be2bd2bc1df4202ac022111111175111111110751111111110185111111111018511111110011dd69221dd1dc1da1d9421110111111c91a2211114511111045111b9120100018a18918869685f650191ae1ad1ac18a18918869685f6501c0001111111045111110451118d120100069685f650618a18918869685f650190001011111045111106c12010000169685f04000111101592922059584e2d4211111104511111105511110032c12010000129281f0400011110 true,aP 31 0x1a19183211712011110 true,aP 32 0x4a492211113e2b2203e3d3b2f42111110032e12010001c1b1a042b2a291c1b1a07000111f1201000011c1b1a0400011110 true,aP 33 0x43232101 true,aP 34 0x32221 true]}:=by
 apply Subtype.mk
 conv=>rhs;reduce
def p3:bL:=zg vO.1 0
def p6:bL:=zg vO.1 1
def p7:bL:=zg vO.1 2
def p8:bL:=zg vO.1 3
def p9:bL:=zg vO.1 4
def p10:bL:=zg vO.1 5
def p15:bL:=zg vO.1 6
def p16:bL:=zg vO.1 7
def p17:bL:=zg vO.1 8
def p18:bL:=zg vO.1 9
def p19:bL:=zg vO.1 10
def p20:bL:=zg vO.1 11
def p21:bL:=zg vO.1 12
def p22:bL:=zg vO.1 13
def p23:bL:=zg vO.1 14
def p24:bL:=zg vO.1 15
def p25:bL:=zg vO.1 16
def p27:bL:=zg vO.1 17
def p28:bL:=zg vO.1 18
def p29:bL:=zg vO.1 19
def p31:bL:=zg vO.1 20
def p32:bL:=zg vO.1 21
def p33:bL:=zg vO.1 22
def p34:bL:=zg vO.1 23
def vP:{l:aA bL//l=[aP 35 0x32221 true,aP 36 0x32221 true,aP 37 0x43232101 true,aP 38 0x43232101 true,aP 39 0x4a49483211111113c2c223c3b3a39382f62010001000291e1d42062c291e1d5420180010001e1d204291e1d42060010002021e1d20400111111071200 true,aP 40 0x13d292203d3c3a2e42111110032d121010000029281f305000111101a2221922210110 true,aP 41 0x17c2b227c7b7978421110111011111001100195111100301102511111005511002b2a2965320182b2a2976543201a0002f12101000002b2a293206000111101110110 true,aP 42 0x19f19e7f7e4211111111111111010316c32278322111351110185111103511015b3c225b5a583211101114c121011003f12010003023c3b3a3050001111412412001111111e121e1d220111110 true,aP 43 0x43232101 true,aP 44 0x32221 true,aP 45 0x43232101 true,aP 46 0x2812111101c12001011151251201 true,aP 47 0x110001100001110111411111000011101010110111011131232222121 true,aP 48 0x1115253104101011111111111110011111006b6a693f3e3d2f2e2d1e1d1c1b1976542a1110101011100003f3e3d2f2e2d76541a6b6a693f3e3d2f2e2d1b1976541f000001011101101b1a221b1201100104b1210100002f2e2d65463f3e3d2f2e2d76541a000113b1210100006522f2e2d6546000110528960510411101131232222121 true,aP 50 0x11a522488888888881a19184210114022412 true,aP 51 0x121222121 true,aP 52 0x111111111110110111011011010110101101011010110101101412341211 true,aP 53 0x112111111110100100002cf2ce104001111011111111211111111011101110111010000010001dc1db1bc1bb18c18b76101a2881ff1dc1db1bc1bb18c18b1876101d001111011101110111010001bc1bb18c18b61071dc1db1bc1bb18c18b76101a001111011101110100018c18b1041bc1bb18c18b6107001111011102111101110100100010218c18b10400111101111111211111111011101001000281f3105584f281f4310180011110111021111011101001000102281f310500111100 true,aP 55 0x1114310411112111004611101115a592201100111003511101851110110107511110054310554310501e1201001110004310400110 true,aP 57 0x111111918764310041241211 true,aP 59 0x2d2b2211111111111110030111 true,aP 60 0x17303211111551110212212 true,aP 61 0x11a203211135111612612 true,aP 62 0x2812211135111103511110351112122121 true]}:=by
 apply Subtype.mk
 conv=>rhs;reduce
def p35:bL:=zg vP.1 0
def p36:bL:=zg vP.1 1
def p37:bL:=zg vP.1 2
def p38:bL:=zg vP.1 3
def p39:bL:=zg vP.1 4
def p40:bL:=zg vP.1 5
def p41:bL:=zg vP.1 6
def p42:bL:=zg vP.1 7
def p43:bL:=zg vP.1 8
def p44:bL:=zg vP.1 9
def p45:bL:=zg vP.1 10
def p46:bL:=zg vP.1 11
def p47:bL:=zg vP.1 12
def p48:bL:=zg vP.1 13
def p50:bL:=zg vP.1 14
def p51:bL:=zg vP.1 15
def p52:bL:=zg vP.1 16
def p53:bL:=zg vP.1 17
def p55:bL:=zg vP.1 18
def p57:bL:=zg vP.1 19
def p59:bL:=zg vP.1 20
def p60:bL:=zg vP.1 21
def p61:bL:=zg vP.1 22
def p62:bL:=zg vP.1 23
def vQ:{l:aA bL//l=[aP 64 0x16122111351112122121 true,aP 65 0x11111010101d1201000411a191814000142224121 true,aP 66 0x1381c220382f2d2942111010032812101000001c1b1a10500011110 true,aP 67 0x11111117a1b227f1b22111145111101a5117812010002c2b2a646d6c6b2c2b2a6700011111111110019511111110651111035111112f1201000612c2b2a6400011111115125121 true,aP 68 0x1111010112022212 true,aP 69 0x118a6221125111111015f1b1a326a1b1a3211111110111a51101e51111101065111110451133f1210100002c2b2a76563b3a392c2b2a197651a000102f12010007622c2b2a76560001101110114124121 true,aP 71 0x11111010010101110100101011111111010001110351111035111103511101010101151254224121 true,aP 72 0x65432111 true,aP 73 0x15022112511212212 true,aP 74 0x150221113511212212 true,aP 75 0x11111117a5a2207a796f5f421110110000035e1210100004a49483a39382a292864101d5a59584a49483a39382a292818641029000114e1210100003a39382a2928410194a49483a39382a292864101d000113e1210100002a29281053a39382a292841019000112e12101000002a292810500011110 true,aP 76 0x111432241221222022 true,aP 77 0x1111111101101101103110100111110110110301100011110451110000111003001110110100111111011121232121 true,aP 78 0x1691a432111145110105c12015b12106421111114c121111111110642311103818222f1822110011111110300001151251211 true,aP 79 0x1111154221a5221101132223121 true,aP 80 0x1111010101131232222121 true,aP 81 0x11114022412 true,aP 82 0x111131223121 true,aP 83 0x11114022412 true,aP 84 0x111131223121 true,aP 85 0x14918432111145111972203e19223d1201011111113012c1201011111103001151251211 true,aP 86 0x16122111351112122121 true,aP 87 0x6d12006c1211110110011110101101049121111101010001111010100110301a1200110512512011 true,aP 88 0x3a1211111110101013121a474564745547431c12410010110512512011 true]}:=by
 apply Subtype.mk
 conv=>rhs;reduce
def p64:bL:=zg vQ.1 0
def p65:bL:=zg vQ.1 1
def p66:bL:=zg vQ.1 2
def p67:bL:=zg vQ.1 3
def p68:bL:=zg vQ.1 4
def p69:bL:=zg vQ.1 5
def p71:bL:=zg vQ.1 6
def p72:bL:=zg vQ.1 7
def p73:bL:=zg vQ.1 8
def p74:bL:=zg vQ.1 9
def p75:bL:=zg vQ.1 10
def p76:bL:=zg vQ.1 11
def p77:bL:=zg vQ.1 12
def p78:bL:=zg vQ.1 13
def p79:bL:=zg vQ.1 14
def p80:bL:=zg vQ.1 15
def p81:bL:=zg vQ.1 16
def p82:bL:=zg vQ.1 17
def p83:bL:=zg vQ.1 18
def p84:bL:=zg vQ.1 19
def p85:bL:=zg vQ.1 20
def p86:bL:=zg vQ.1 21
def p87:bL:=zg vQ.1 22
def p88:bL:=zg vQ.1 23
def vR:{l:aA bL//l=[aP 89 0x11002b62212f62211104511101a5110281201000411d1c1b3400011001141241211 true,aP 92 0x11111111116d1c22111351691b22112511111101591201111114b120101110013c12010111002e12010005422b2a295406000111100145051040192f8405131243222212 true,aP 93 0x11111111032a1201110000000011041241211 true,aP 94 0x11e322111145111110451114124121 true,aP 95 0x4c1214b12042211113f3e2201103b12003a1210100102d12002c1210110011011c1210111011512512011 true,aP 96 0x1612211111107511121232121 true,aP 97 0x15f420421111116511110111101000111110351110185111103511102a51111104511115125121 true,aP 98 0x11c21321111116511110351113123121 true,aP 99 0x11114022412 true,aP 100 0x13b322111105511130112e73311011101029287341101001110351101652261211 true,aP 101 0x1111016d1918327819183211111110111a51101e51111104511111010651134d1210100007149483f75360001011111045111110451116121e622110114124121 true,aP 102 0x119c1922111145111025118918221101155111110451111035111018692c29185f2c1f185d2c1d1822c19286a125912000101011101111111103001110105512d42211135111012912010110111512351211 true,aP 103 0x11110111000100041187104001412412 true,aP 104 0x118213211111017511103123121 true,aP 105 0x1111010101131232222121 true,aP 106 0x111121222121 true,aP 107 0x1111145310410101110111522254224121 true,aP 108 0x112022212 true,aP 109 0x18764421110 true,aP 110 0x11211101a12010000765040001 true,aP 111 0x1111110100110003221876340001212212 true,aP 112 0x1110010000100010111011412412 true,aP 113 0x11a022111351111035111112112 true,aP 114 0x1502211135111112112 true]}:=by
 apply Subtype.mk
 conv=>rhs;reduce
def p89:bL:=zg vR.1 0
def p92:bL:=zg vR.1 1
def p93:bL:=zg vR.1 2
def p94:bL:=zg vR.1 3
def p95:bL:=zg vR.1 4
def p96:bL:=zg vR.1 5
def p97:bL:=zg vR.1 6
def p98:bL:=zg vR.1 7
def p99:bL:=zg vR.1 8
def aA2:bL:=zg vR.1 9
def aB2:bL:=zg vR.1 10
def aC2:bL:=zg vR.1 11
def pG1:bL:=zg vR.1 12
def pH1:bL:=zg vR.1 13
def aD2:bL:=zg vR.1 14
def aE2:bL:=zg vR.1 15
def aF2:bL:=zg vR.1 16
def pI1:bL:=zg vR.1 17
def pJ1:bL:=zg vR.1 18
def pK1:bL:=zg vR.1 19
def aG2:bL:=zg vR.1 20
def aH2:bL:=zg vR.1 21
def pL1:bL:=zg vR.1 22
def pM1:bL:=zg vR.1 23
def vS:{l:aA bL//l=[aP 115 0x111022112 true,aP 116 0x1111112952211135111f1201000311c1b1a34000111112122121 true,aP 117 0x1112022212 true,aP 118 0x11110010113812010001e1d1c5452d2c2b1e1d1c5700011291201000411e1d1c54000111432241211 true,aP 119 0x11114022412 true,aP 120 0x1112022212 true,aP 121 0x11114022412 true,aP 122 0x111121222121 true,aP 123 0x15022112511212212 true,aP 124 0x11114022412 true,aP 125 0x1e12111001a120011025113123120 true,aP 126 0x5022112511212212 true,aP 127 0x111862321100001111c12010115125121 true,aP 128 0x11121222121 true,aP 129 0x111154225121 true,aP 130 0x11114022412 true,aP 131 0x11b4324211111551111151235121 true,aP 132 0x11114022412 true,aP 133 0x111c5221b5221011142224121 true,aP 134 0x1111010110002176530002022212 true,aP 135 0x710321113511412412 true,aP 136 0x15022112511212212 true,aP 138 0x21a274562745527434a1241494822011132211103a3922010321311102c12011010101d12101111045111001 true,aP 139 0x2812211135111103511110351112122121 true]}:=by
 apply Subtype.mk
 conv=>rhs;reduce
def pN1:bL:=zg vS.1 0
def pO1:bL:=zg vS.1 1
def pP1:bL:=zg vS.1 2
def pQ1:bL:=zg vS.1 3
def kA1:bL:=zg vS.1 4
def pR1:bL:=zg vS.1 5
def pS1:bL:=zg vS.1 6
def pT1:bL:=zg vS.1 7
def aI2:bL:=zg vS.1 8
def aJ2:bL:=zg vS.1 9
def aK2:bL:=zg vS.1 10
def aL2:bL:=zg vS.1 11
def aM2:bL:=zg vS.1 12
def aN2:bL:=zg vS.1 13
def aO2:bL:=zg vS.1 14
def aP2:bL:=zg vS.1 15
def aQ2:bL:=zg vS.1 16
def pU1:bL:=zg vS.1 17
def aR2:bL:=zg vS.1 18
def aS2:bL:=zg vS.1 19
def aT2:bL:=zg vS.1 20
def aU2:bL:=zg vS.1 21
def aV2:bL:=zg vS.1 22
def aW2:bL:=zg vS.1 23
def vT:{l:aA bL//l=[aP 140 0x1111001118124918221101111110101102e1201000212b2a29340001000111000111212212 true,aP 141 0x11003c422111351110110102d5222c5221011101f1201000211c1b1a300010011212212 true,aP 142 0x3a60321111116511011011110101111f12010002021c1b1a0400000011212212 true,aP 143 0x4c32211251101110011103511110351111035111103511110351112122121 true,aP 144 0x11111110011121232121 true,aP 145 0x11110111000100041187104001412412 true,aP 146 0x11110111000100041187104001412412 true,aP 147 0x1121222121 true,aP 148 0x1b32321111110101101c511103001141241211 true,aP 149 0x1111111111111111d18531040111111011101001d51110251111111010019511102511111005511181218121 true,aP 150 0x1d12111110 true,aP 151 0x1f12101e1b2201d182201c5220110110110301 true,aP 154 0x19d1211110111011030189120011011c1207b1c2211011111101111011a182235b1a2211011004e120111011111303d1200111035111012c12010111111512351201 true,aP 155 0x11111100011111101107511101c5111101100011111045111100011110351112122121 true,aP 156 0x13b3232483232111111175111101d511111011075111110110751111412341211 true,aP 157 0x1111422241211 true,aP 158 0x11b32321111116511110141241211 true,aP 159 0x1111422241211 true,aP 160 0x11b32321111116511110141241211 true,aP 161 0x11932321111100751110412341211 true,aP 162 0x1fe121101fc1fb2201101f9121001110111075111110105511101a51103011001be12101001bb12100118e6221111110107511101c51111012b5111003018812107c62211251111001110695f1864106a682205e1200011010311111004c12101111010651111035111001101001e121011103511512512011 true,aP 163 0x11110111000100041187104001412412 true,aP 164 0x1111141223412 true,aP 165 0x111111140224121 true]}:=by
 apply Subtype.mk
 conv=>rhs;reduce
def aX2:bL:=zg vT.1 0
def aY2:bL:=zg vT.1 1
def aZ2:bL:=zg vT.1 2
def bA2:bL:=zg vT.1 3
def bB2:bL:=zg vT.1 4
def bC2:bL:=zg vT.1 5
def bD2:bL:=zg vT.1 6
def bE2:bL:=zg vT.1 7
def bF2:bL:=zg vT.1 8
def bG2:bL:=zg vT.1 9
def bH2:bL:=zg vT.1 10
def bI2:bL:=zg vT.1 11
def bJ2:bL:=zg vT.1 12
def bK2:bL:=zg vT.1 13
def bL2:bL:=zg vT.1 14
def bM2:bL:=zg vT.1 15
def bN2:bL:=zg vT.1 16
def bO2:bL:=zg vT.1 17
def bP2:bL:=zg vT.1 18
def bQ2:bL:=zg vT.1 19
def bR2:bL:=zg vT.1 20
def bS2:bL:=zg vT.1 21
def bT2:bL:=zg vT.1 22
def bU2:bL:=zg vT.1 23
def vU:{l:aA bL//l=[aP 166 0x11110011111101075111103511100011110351112122121 true,aP 167 0x1111121232121 true,aP 168 0x11114531041010076212d12211104511110351101110110522254224121 true,aP 169 0x1111103b3a22111110011100003011003143030016121212212 true,aP 171 0x117c6227c7b7a79786f620011062104110011001110115b125b5a59584d4c62001010001007621051876210601010010006210403b3a39382f520010110112a122a29281f1e52001001007621051876210601000 true,aP 172 0x111212212 true,aP 173 0x11114022412 true,aP 174 0x11121222121 true,aP 175 0x11114022412 true,aP 176 0x11121222121 true,aP 178 0x111101110001020187410518101412412 true,aP 179 0x11110111000100041187104001412412 true,aP 180 0x11110111000100041187104001412412 true,aP 181 0x1a1210000000000 true,aP 182 0x11110111000100041187104001412412 true,aP 183 0x11110111000100041187104001412412 true,aP 187 0x111001212212 true,aP 188 0x11111111a32219322101112122121 true,aP 189 0x1100011025111025111111011312232222121 true,aP 190 0x5812211135111011003d322111105511101010002122d2c130011000111100011110351112122121 true,aP 192 0x11200 true,aP 196 0x12c31321111451111004511110045111002122121 true,aP 197 0x15022112511212212 true,aP 198 0x111111111101412341211 true]}:=by
 apply Subtype.mk
 conv=>rhs;reduce
def bV2:bL:=zg vU.1 0
def bW2:bL:=zg vU.1 1
def bX2:bL:=zg vU.1 2
def bY2:bL:=zg vU.1 3
def pV1:bL:=zg vU.1 4
def bZ2:bL:=zg vU.1 5
def pW1:bL:=zg vU.1 6
def pX1:bL:=zg vU.1 7
def pY1:bL:=zg vU.1 8
def pZ1:bL:=zg vU.1 9
def kB1:bL:=zg vU.1 10
def qA1:bL:=zg vU.1 11
def cA2:bL:=zg vU.1 12
def cB2:bL:=zg vU.1 13
def cC2:bL:=zg vU.1 14
def qB1:bL:=zg vU.1 15
def cD2:bL:=zg vU.1 16
def cE2:bL:=zg vU.1 17
def cF2:bL:=zg vU.1 18
def cG2:bL:=zg vU.1 19
def cH2:bL:=zg vU.1 20
def cI2:bL:=zg vU.1 21
def cJ2:bL:=zg vU.1 22
def cK2:bL:=zg vU.1 23
def vV:{l:aA bL//l=[aP 199 0x11110001102511212212 true,aP 200 0x11b32321111116511110141241211 true,aP 201 0x11202211120222212 true,aP 202 0x1111132223121 true,aP 204 0x11121222121 true,aP 205 0x1110110111014531040111111453104101011111001111045110014531040111100145310401110251151254224121 true,aP 206 0x1111111111000311876340001212212 true,aP 207 0x11111106c6a2216b5e2211100111001000030011111100110001c51100318321051918321060100100018321050110 true,aP 208 0x3bb3ba3b93b83af3ae62111110111003511039d1239d39c39b39a3993986200110382a430511100351102ff122ff2fe2fd2fc2fb2fa6200100382c2a43107111003511001101111112e2d2c2b2a432101a10111110011100003111110001002c2b2a43210182e2d2c2b2a432101a011010101011002d2c2b2a43210191102d122d2c222c121100111110011102881fe2211ff1fa22111001110010000301000291e03011111111f1e4205101111100110003111110001001e2031f1e42050101101100111019c19a22119b18e2211100111001000030110001d1a03011111111b1a410510111100110003111110001001a1031b1a41050111101100 true,aP 209 0x11110111000100041187104001412412 true,aP 210 0x11110111000100041187104001412412 true,aP 211 0x1710321113511412412 true,aP 213 0x111111111111120211011111120211001112021100 true,aP 214 0x171221111116511112122121 true,aP 215 0x11012531040117a1a22791a2210111111125310410101110110101110110125310403c422111104511118511111125310410101102b12101000032131f1e1d14000131232222121 true,aP 216 0x79786f6e6d6a6211110011105e1b225e5d5c5b4e4b62001010010001103f1a223f3e3d3c3b386200010001b1a4205110001001a42041b1a4205011011110 true,aP 217 0x11112f2d222e2a29322e28220111101f121010000311b1a1934000117121212212 true,aP 218 0x11111111111453104101011101111011100007543382f2e7050001111011453104101011105125422412 true,aP 219 0x111111111014531040111110110101000185433a3918105001011101145310410102962228622101105125422412 true,aP 220 0x11104d4b2214c3d221111000111000100010003010001a3210500 true,aP 221 0x111011110101110351101131232222121 true,aP 222 0x1100111000018e7221101111018511030011101055111110451111104511111001075111103511101045111039121010000412d2c2b6106000011144cb056610400110001102511412412 true,aP 223 0x1111110001101001110111100011025117127622612 true,aP 224 0x111011001111010030107621d1918300111111100011011101111000110030110019187641a1918210601100291201107127622612 true]}:=by
 apply Subtype.mk
 conv=>rhs;reduce
def cL2:bL:=zg vV.1 0
def cM2:bL:=zg vV.1 1
def cN2:bL:=zg vV.1 2
def cO2:bL:=zg vV.1 3
def cP2:bL:=zg vV.1 4
def cQ2:bL:=zg vV.1 5
def cR2:bL:=zg vV.1 6
def qC1:bL:=zg vV.1 7
def kC1:bL:=zg vV.1 8
def qD1:bL:=zg vV.1 9
def qE1:bL:=zg vV.1 10
def cS2:bL:=zg vV.1 11
def cT2:bL:=zg vV.1 12
def cU2:bL:=zg vV.1 13
def cV2:bL:=zg vV.1 14
def qF1:bL:=zg vV.1 15
def cW2:bL:=zg vV.1 16
def cX2:bL:=zg vV.1 17
def cY2:bL:=zg vV.1 18
def qG1:bL:=zg vV.1 19
def cZ2:bL:=zg vV.1 20
def dA2:bL:=zg vV.1 21
def dB2:bL:=zg vV.1 22
def dC2:bL:=zg vV.1 23
def zA8:{l:aA bL//l=[aP 225 0x1111010101131232222121 true,aP 226 0x111100003d422484221111110101951101d5110311038121110000111011111001a51110321221203121 true,aP 227 0x111112122121 true,aP 228 0x15022112511212212 true,aP 229 0x11111011010000111110110141241211 true,aP 230 0x111111011111101311000111111110131b1a19541611001e12010005421b1a195416000105125422412 true,aP 231 0x1111110111100411c1b43400111011112122121 true,aP 232 0x119213211111017511104124121 true,aP 233 0x1101111103010011020412 true]}:=by
 apply Subtype.mk
 conv=>rhs;reduce
def dD2:bL:=zg zA8.1 0
def qH1:bL:=zg zA8.1 1
def dE2:bL:=zg zA8.1 2
def dF2:bL:=zg zA8.1 3
def dG2:bL:=zg zA8.1 4
def dH2:bL:=zg zA8.1 5
def dI2:bL:=zg zA8.1 6
def dJ2:bL:=zg zA8.1 7
def dK2:bL:=zg zA8.1 8
end
noncomputable section
def pl:aA (aB bL):=[none,none,none,some p3,none,none,some p6,some p7,some p8,some p9,some p10,some p11,none,none,none,some p15,some p16,some p17,some p18,some p19,some p20,some p21,some p22,some p23,some p24,some p25,none,some p27,some p28,some p29,some p30,some p31,some p32,some p33,some p34,some p35,some p36,some p37,some p38,some p39,some p40,some p41,some p42,some p43,some p44,some p45,some p46,some p47,some p48,some p49,some p50,some p51,some p52,some p53,some p54,some p55,some p56,some p57,some p58,some p59,some p60,some p61,some p62,some p63,some p64,some p65,some p66,some p67,some p68,some p69,some p70,some p71,some p72,some p73,some p74,some p75,some p76,some p77,some p78,some p79,some p80,some p81,some p82,some p83,some p84,some p85,some p86,some p87,some p88,some p89,some p90,some p91,some p92,some p93,some p94,some p95,some p96,some p97,some p98,some p99,some aA2,some aB2,some aC2,some pG1,some pH1,some aD2,some aE2,some aF2,some pI1,some pJ1,some pK1,some aG2,some aH2,some pL1,some pM1,some pN1,some pO1,some pP1,some pQ1,some kA1,some pR1,some pS1,some pT1,some aI2,some aJ2,some aK2,some aL2,some aM2,some aN2,some aO2,some aP2,some aQ2,some pU1,some aR2,some aS2,some aT2,some aU2,some zM1,some aV2,some aW2,some aX2,some aY2,some aZ2,some bA2,some bB2,some bC2,some bD2,some bE2,some bF2,some bG2,some bH2,some bI2,some zN1,some zO1,some bJ2,some bK2,some bL2,some bM2,some bN2,some bO2,some bP2,some bQ2,some bR2,some bS2,some bT2,some bU2,some bV2,some bW2,some bX2,some bY2,some pE1,some pV1,some bZ2,some pW1,some pX1,some pY1,some pZ1,some pF1,some kB1,some qA1,some cA2,some cB2,some cC2,some qB1,some zP1,some zQ1,some zR1,some cD2,some cE2,some cF2,some cG2,some zS1,some cH2,none,none,none,some cI2,some cJ2,some cK2,some cL2,some cM2,some cN2,some cO2,some zT1,some cP2,some cQ2,some cR2,some qC1,some kC1,some qD1,some qE1,some cS2,none,some cT2,some cU2,some cV2,some qF1,some cW2,some cX2,some cY2,some qG1,some cZ2,some dA2,some dB2,some dC2,some dD2,some qH1,some dE2,some dF2,some dG2,some dH2,some dI2,some dJ2,some dK2]
def Fa:qB:=fun f=>bif Nat.beq f 208 then none else(pl[f]?).join
def iI (f:Nat):Bool:=zL f [22,23,25,27,28,29,30,31,32,33,34,35,36,37,38,39,40,41,42,43,44,45,49,50,51,53,54,55,59,66,72,75,90,92,108,109,110,119,170,171,178,207,208,216,220,226]
def NW1 (f:Nat):Bool:=zL f [23,25,27,28,50,51,54,92,108,170]
def clN:Nat->aB (Nat×Nat):=fun f=>none
structure Rc where
 G:Int->Int->Int->List aG->Option (List aG)
def RD [Inhabited Rc]:Rc:=default
abbrev RA:=Int×Int×Int×(aA aG)
def rxs (q:RA):aA PV:=[.own 5,i64 q.1,i64 q.2.1,i64 q.2.2.1,.fn 52 [] []]
def rhp (q:RA):aQ:=[(5,.lst 4294967337 9 false (List.map aG.g q.2.2.2))]
def rhr (q:RA) (a:aA aG):aQ:=[(5,.lst 4294967337 9 false (List.map aG.g a))]
theorem dL2 (a b:RA) (h1:rxs a=rxs b) (h2:rhp a=rhp b):a=b:=by
 obtain⟨d,a1,a2,a3⟩:=a;obtain⟨e,b1,b2,b3⟩:=b;simp only[rxs,i64,tF2,PV.v.injEq,Value.int.injEq,true_and,and_true]at h1;simp only[rhp,tF2,qE2,fP.lst.injEq,true_and,and_true]at h2
 have c:=(List.map_inj_right (fun x y h=>by
  obtain⟨_,_,_,_,_,_,⟨_,_⟩,_⟩:=x;obtain⟨_,_,_,_,_,_,⟨_,_⟩,_⟩:=y;simp[aG.g,i64]at h;simp[h])).1 h2
 simp[h1,c]
def uZ [Inhabited Rc]:NB:=⟨NW1,Nr (nY clN) (tM 208 6 rxs rhp rhr fun q=>RD.G q.1 q.2.1 q.2.2.1 q.2.2.2)⟩
def We (f e:Nat):Bool:=zL f [193,194,195]&&Nat.beq e (match f with|193=>5|194=>5|195=>2|_=>0)
def dM2 (n:Int) (c:Bool):YE:=⟨⟨0,n⟩,if c then 1 else 3,⟨0,0⟩,if c then[⟨⟨0,0,4⟩,false,0⟩]else[],[],0,0,0,[],0,0⟩
def Wg (n:Int) (c:Bool):YM:=⟨⟨0,n⟩,⟨4,4,⟨0,0,0,0,0,0⟩⟩,0,0,false,0,0,0,0,0,0,⟨#[]⟩,[],[⟨[],[⟨[dM2 (n+1) c],[]⟩]⟩]⟩
def Wh:Y0:=⟨⟨#[]⟩,false,[⟨⟨0,1⟩,⟨#[]⟩,⟨0,0⟩,[⟨⟨0,2⟩,1⟩]⟩],[Wg 3 true,Wg 5 false,Wg 7 false,Wg 9 false,Wg 11 true],[],[⟨0,12⟩]⟩
def qF {A:Type} (l:aA A):aB (aA A):=bif Nat.ble l.length 1073741824 then some l else none
def Sn (k:Bool):rL:=fun f xs=>match xs with
 |[.is e rows]=>bif We f e&&Nat.ble rows.length 1073741824 then some (.is e rows)else none
 |[]=>bif k&&Nat.beq f 5 then some (bv true)else none
 |_=>none
theorem So [Inhabited Rc] {k:Bool} {d N:Nat} {ps:aA Nat} {a b:PC} (h:okL iI N ps a b=true):okG (Xd (Sn k) iI uZ Fa d).is N ps a b=some ():=by
 unfold okG;rw[show(Xd (Sn k) iI uZ Fa d).is=iI from Hu d,pW2 h]
noncomputable abbrev OD [Inhabited Rc] (k:Bool) (d:Nat):rL:=Od (Sn k) iI uZ Fa d
noncomputable abbrev XD [Inhabited Rc] (k:Bool) (d:Nat):NX:=Xd (Sn k) iI uZ Fa d
theorem od [Inhabited Rc] {k:Bool} {f:Nat} {fn:bL} (a:iI f=false) (h:Fa f=some fn) (b:fn.frz=true) {d:Nat} {xs:aA PV}:OD k (d+1) f xs=yK (OD k d) (XD k d) fn xs some:=oW1 a h b d xs
theorem oe [Inhabited Rc] {k:Bool} {f:Nat} {fn:bL} {d:Nat} {xs:aA PV} {A:Type} {F:aB A} {e:A->PV} (h:(iI f,Fa f,fn.frz)=(false,some fn,true)) (hb:yK (OD k d) (XD k d) fn xs some=F.map e):OD k (d+1) f xs=F.map e:=by
 simp only[qE2]at h;rw[od h.1 h.2.1 h.2.2];exact hb
theorem xd [Inhabited Rc] {k:Bool} {f:Nat} {fn:bL} (h:Fa f=some fn) {d:Nat} {xs:aA PV} {hs:aQ} {m:Nat} {nw:Bool}:dC (XD k (d+1)) f xs hs m nw=Kn (OD k d) (XD k d) fn xs hs m (zM hs nw m):=oX1 h d xs hs m _
theorem yd [Inhabited Rc] {a:Bool} {k d:Nat} {xs:aA PV} {hs:aQ} {m:Nat}:tA (XD a (d+1)) k xs hs m=aN1 (OD a d) (XD a d) k xs hs m (zM hs false m):=rfl
theorem qG [Inhabited Rc] {k:Bool} (f d:Nat) {A:Type} (e:Nat) (c:A->aA PV) (l:aA A) (h1:iI f=false) (h2:Fa f=none) (a:We f e=true):OD k d f [.is e (l.map c)]=(qF l).map fun l=>.is e (l.map c):=by
 rw[OD,Nq h1 h2];unfold qF;simp only[Sn,a,Bool.true_and,sG2];cases Nat.ble l.length 1073741824<;>rfl
theorem Wi [Inhabited Rc] (d:Nat):OD true d 5 []=(some true).map fun y=>bv y:=by
 rw[OD,Nq rfl rfl];rfl
theorem lU:okL iI 22 [13,14] bP bQ=true:=by kernel_rfl
theorem Wj:okL iI 13 [7] jB jC=true:=by kernel_rfl
theorem nZ:okL iI 16 [7,8] dI dJ=true:=by kernel_rfl
theorem Qr:okL iI 13 [7] kT kU=true:=by kernel_rfl
end
end Go.P
namespace Go.P
open Go.Sim (Ex dW CK)
open K (I Q rq nq xq ck)
def Wk (x1:Int):aB Bool:=
 some ((decide (x1<32))||(x1==127))
theorem qL1 [Inhabited Rc] {k} (d) (x1:Int):OD k (d+1) 123 [.v (.int .u8 x1)]=(Wk x1).map bv:=by
 refine oe rfl ?_;refine bz (fF rfl) ?_;rfl
def bB1 (x1:aA UInt8):aB Int:=
 (aR (E:=Int⊕Unit) (fun(a:Int)=>if decide (a<(x1.length:Int))then(aT x1 a).bind fun b=>(Wk (b.toNat:Int)).bind fun c=>if c then some (.inr (.inl a))else some (.inl (aW (a+1)))else some (.inr (.inr ()))) bC 0).bind fun d=>(match d with|.inl x7=>some x7|.inr _=>some (-1))
theorem qM1 [Inhabited Rc] {k} (d) (x1:aA UInt8):OD k (d+2) 180 [.is 1 (I Vv x1),.fn 123 [] []]=(bB1 x1).map i64:=by
 refine oe rfl ?_;refine bz lm ?_;refine bo (aK (S:=Int) (enc:=fun a=>(Q [(0,.is 1 (I Vv x1)),(1,.fn 123 [] []),(7,i64 (x1.length:Int)),(8,i64 a)] [])) (encE:=(fun|.inl b=>(rq [(4,i64 b)] [])|.inr _=>(xq 0 [] []))) (fun a=>?_) bC 0) fun e=>?_;refine io ?_ rfl;refine bo rg fun c=>?_;refine bo (qL1 d (c.toNat:Int)) fun f=>?_;refine io rfl rfl;rcases e with b|_;rfl;rfl
def Qs (x1:aA UInt8):aB Bool:=
 (bB1 x1).bind fun a=>some (decide (a>=0))
theorem qN1 [Inhabited Rc] {k} (d) (x1:aA UInt8):OD k (d+3) 124 [.is 1 (I Vv x1),.fn 123 [] []]=(Qs x1).map bv:=by
 refine oe rfl ?_;refine bo (qM1 d x1) fun a=>?_;rfl
def F60 (x1:ByteArray):aB Bool:=
 ((if decide ((x1.size:Int)<=256)then(Qs x1.data.toList).bind fun a=>some (!a)else some false:aB (Bool))).bind fun b=>some b
theorem kD1 [Inhabited Rc] {k} (d) (x1:ByteArray):OD k (d+4) 60 [.v (.string x1)]=(F60 x1).map bv:=by
 refine oe rfl ?_;refine bo (e:=id) ?_ fun b=>?_;refine io ?_ rfl;refine bo (qN1 d x1.data.toList) fun a=>?_;rfl;rfl
def zS (x1 a b:Int):aB Bool:=
 some ((decide (x1>=a))&&(decide (x1<=b)))
theorem oA [Inhabited Rc] {k} (d) (x1 a b:Int):OD k (d+1) 61 [i64 x1,i64 a,i64 b]=(zS x1 a b).map bv:=by
 refine oe rfl ?_;refine bz (dO rfl) ?_;rfl
def F62 (x1:YL):aB Int:=
 if(((decide (x1.Steps<(-77)))||(decide (x1.Steps>77)))||(decide (x1.Semitones<(-140))))||(decide (x1.Semitones>140))then some 2 else some 0
theorem dN2 [Inhabited Rc] {k} (d) (x1:YL):OD k (d+1) 62 [.agg (YL.g x1)]=(F62 x1).map i64:=by
 refine oe rfl ?_;refine bz (fF rfl) ?_;refine bz (fF rfl) ?_;refine bz (fF rfl) ?_;refine io rfl rfl
def iF (x1:Bool) (b:YZ) (a:aA YV) (f:Y0) (c:Int):aB (aA YV):=
 ((if x1 then(jA false a [(YV.mk c b)]).bind fun d=>some d else some a:aB (aA YV))).bind fun e=>some e
theorem gB [Inhabited Rc] {k} (d) (x1:Bool) (b:YZ) (f:aA YV) (c:Y0) (a:Int):dC (XD k (d+1)) 59 [.ref 1 0,bv x1,.agg (YZ.g b)] [(2,.lst 120 3 false (I YV.g f)),(1,.box (ck c a (.own 2)))] 3 false=(iF x1 b f c a).map (fun(i:aA YV)=>((.tup [],[(2,.lst 120 3 false (I YV.g i)),(1,.box (ck c a (.own 2)))],0))):=by
 rw[xd (fn:=p59) rfl];refine bo (e:=(fun(h:aA YV)=>(nq [] [(3,.box (YZ.g b)),(2,.lst 120 3 false (I YV.g h)),(1,.box (ck c a (.own 2)))]))) ?_ fun h=>?_;refine io ?_ rfl;refine bo (bX false YV.g f [(YV.mk a b)]) fun j=>?_;rfl;rfl
def Qt (x1:aA YV) (a:Y0) (u:Int):aB (aA YV):=
 (aR (E:=aA YV) (fun(⟨e,i⟩:Int×(aA YV))=>if decide (e<(a.Parts.length:Int))then(aT a.Parts e).bind fun c=>(F60 c.Name).bind fun n=>((if !n then some true else(zS (c.Staves.length:Int) 1 4).bind fun o=>some (!o):aB (Bool))).bind fun p=>((if p then some true else(F62 c.Transpose).bind fun q=>some (q !=0):aB (Bool))).bind fun r=>(iF r c.ID i a u).bind fun s=>some (.inl ((aW (e+1)),s))else some (.inr i)) bC (0,x1)).bind fun t=>(aR (E:=aA YV) (fun(⟨f,j⟩:Int×(aA YV))=>if decide (f<(a.Measures.length:Int))then(aT a.Measures f).bind fun b=>(F60 b.Rehearsal).bind fun v=>(aR (E:=Bool) (fun(⟨k,g⟩:Bool×Int)=>if decide (g<(b.Cells.length:Int))then(aT b.Cells g).bind fun d=>(aR (E:=Bool) (fun(⟨l,h⟩:Bool×Int)=>if decide (h<(d.Voices.length:Int))then(aT d.Voices h).bind fun m=>some (.inl (((l||(decide ((m.Events.length:Int)>128)))||(decide ((m.Tuplets.length:Int)>16))),(aW (h+1))))else some (.inr l)) bC (((k||(decide ((d.Clefs.length:Int)>64)))||(decide ((d.Voices.length:Int)>2))),0)).bind fun w=>some (.inl (w,(aW (g+1))))else some (.inr k)) bC (((!v)||(decide ((b.Tempi.length:Int)>64))),0)).bind fun x=>(iF x b.ID j a u).bind fun y=>some (.inl ((aW (f+1)),y))else some (.inr j)) bC (0,t)).bind fun z=>(F60 a.Title).bind fun A=>((if !A then some true else(zS (a.Parts.length:Int) 1 32).bind fun B=>some (!B):aB (Bool))).bind fun C=>((if C then some true else(zS (a.Measures.length:Int) 1 1024).bind fun D=>some (!D):aB (Bool))).bind fun F=>(iF ((F||(decide ((a.Spanners.length:Int)>4096)))||(decide ((a.Last.length:Int)>100))) (YZ.mk 0 0) z a u).bind fun G=>some G
theorem qO1 [Inhabited Rc] {k} (d) (x1:aA YV) (a:Y0) (f:Int):dC (XD k (d+5)) 29 [.ref 1 0] [(2,.lst 120 3 false (I YV.g x1)),(1,.box (ck a f (.own 2)))] 3 false=(Qt x1 a f).map (fun(y:aA YV)=>((.tup [],[(2,.lst 120 3 false (I YV.g y)),(1,.box (ck a f (.own 2)))],0))):=by
 rw[xd (fn:=p29) rfl];refine bz lm ?_;refine bo (aK (S:=Int×(aA YV)) (enc:=fun⟨r,m⟩=>(Q [(0,.ref 1 0),(15,.is 6 (I YJ.g a.Parts)),(16,i64 (a.Parts.length:Int)),(17,i64 r)] [(2,.lst 120 3 false (I YV.g m)),(1,.box (ck a f (.own 2)))])) (encE:=(fun(n:aA YV)=>(xq 0 [(0,.ref 1 0)] [(2,.lst 120 3 false (I YV.g n)),(1,.box (ck a f (.own 2)))]))) (fun⟨r,m⟩=>?_) bC (0,x1)) fun n=>?_;refine io ?_ rfl;refine bo rg fun j=>?_;refine bo (kD1 d j.Name) fun z=>?_;refine bo (e:=id) ?_ fun B=>?_;refine io rfl ?_;refine bz lm ?_;refine bo (oA (d+3) (j.Staves.length:Int) 1 4) fun A=>?_;rfl;refine bo (e:=id) ?_ fun v=>?_;refine io rfl ?_;refine bo (dN2 (d+3) j.Transpose) fun C=>?_;rfl;refine bo (gB (d+3) v j.ID m a f) fun D=>?_;rfl;refine bz lm ?_;refine bo (aK (S:=Int×(aA YV)) (enc:=fun⟨h,c⟩=>(Q [(0,.ref 1 0),(47,.is 22 (I YM.g a.Measures)),(48,i64 (a.Measures.length:Int)),(49,i64 h)] [(2,.lst 120 3 false (I YV.g c)),(1,.box (ck a f (.own 2)))])) (encE:=(fun(q:aA YV)=>(xq 2 [(0,.ref 1 0)] [(2,.lst 120 3 false (I YV.g q)),(1,.box (ck a f (.own 2)))]))) (fun⟨h,c⟩=>?_) bC (0,n)) fun q=>?_;refine io ?_ rfl;refine bo rg fun b=>?_;refine bo (kD1 d b.Rehearsal) fun w=>?_;refine bz (fF (bz lm rfl)) ?_;refine bz lm ?_;refine bo (aK (S:=Bool×Int) (enc:=fun⟨o,l⟩=>(Q [(0,.ref 1 0),(5,.ref 3 0),(6,bv o),(47,.is 22 (I YM.g a.Measures)),(48,i64 (a.Measures.length:Int)),(49,i64 h),(64,.is 2 (I YW.g b.Cells)),(65,i64 (b.Cells.length:Int)),(66,i64 l)] [(3,.box (YM.g b)),(2,.lst 120 3 false (I YV.g c)),(1,.box (ck a f (.own 2)))])) (encE:=(fun(p:Bool)=>(xq 4 [(0,.ref 1 0),(5,.ref 3 0),(6,bv p),(47,.is 22 (I YM.g a.Measures)),(48,i64 (a.Measures.length:Int)),(49,i64 h)] [(3,.box (YM.g b)),(2,.lst 120 3 false (I YV.g c)),(1,.box (ck a f (.own 2)))]))) (fun⟨o,l⟩=>?_) bC (((!w)||(decide ((b.Tempi.length:Int)>64))),0)) fun p=>?_;refine io ?_ rfl;refine bo rg fun i=>?_;refine bz (fF (bz lm rfl)) ?_;refine bz (fF (bz lm rfl)) ?_;refine bz lm ?_;refine bo (aK (S:=Bool×Int) (enc:=fun⟨s,t⟩=>(Q [(0,.ref 1 0),(5,.ref 3 0),(6,bv s),(47,.is 22 (I YM.g a.Measures)),(48,i64 (a.Measures.length:Int)),(49,i64 h),(64,.is 2 (I YW.g b.Cells)),(65,i64 (b.Cells.length:Int)),(66,i64 l),(84,.is 2 (I YO.g i.Voices)),(85,i64 (i.Voices.length:Int)),(86,i64 t)] [(4,.box (YW.g i)),(3,.box (YM.g b)),(2,.lst 120 3 false (I YV.g c)),(1,.box (ck a f (.own 2)))])) (encE:=(fun(u:Bool)=>(xq 6 [(0,.ref 1 0),(5,.ref 3 0),(6,bv u),(47,.is 22 (I YM.g a.Measures)),(48,i64 (a.Measures.length:Int)),(49,i64 h),(64,.is 2 (I YW.g b.Cells)),(65,i64 (b.Cells.length:Int)),(66,i64 l)] [(4,.box (YW.g i)),(3,.box (YM.g b)),(2,.lst 120 3 false (I YV.g c)),(1,.box (ck a f (.own 2)))]))) (fun⟨s,t⟩=>?_) bC (((o||(decide ((i.Clefs.length:Int)>64)))||(decide ((i.Voices.length:Int)>2))),0)) fun u=>?_;refine io ?_ rfl;refine bo rg fun E=>?_;refine bz (fF (bz lm rfl)) ?_;refine bz (fF (bz lm rfl)) ?_;rfl;rfl;refine bo (gB (d+3) p b.ID c a f) fun F=>?_;rfl;refine bo (kD1 d a.Title) fun G=>?_;refine bo (e:=id) ?_ fun J=>?_;refine io rfl ?_;refine bz lm ?_;refine bo (oA (d+3) (a.Parts.length:Int) 1 32) fun H=>?_;rfl;refine bo (e:=id) ?_ fun x=>?_;refine io rfl ?_;refine bz lm ?_;refine bo (oA (d+3) (a.Measures.length:Int) 1 1024) fun K=>?_;rfl;refine bz (fF (bz lm rfl)) ?_;refine bz (fF (bz lm rfl)) ?_;refine bo (gB (d+3) ((x||(decide ((a.Spanners.length:Int)>4096)))||(decide ((a.Last.length:Int)>100))) (YZ.mk 0 0) q a f) fun L=>?_;rfl
def bC1 (x1:Y0):aB Unit:=
 some ()
theorem qP1 [Inhabited Rc] {k} (d) (x1:Y0):dC (XD k (d+1)) 25 [.ref 0 0] [(0,.box (Y0.g x1))] 3 true=(bC1 x1).map (fun(_:Unit)=>((.fn 53 [] [.ref 3 0],[(3,.box [.ref 0 0]),(0,.box (Y0.g x1))],4))):=by
 rw[xd (fn:=p25) rfl];rfl
def Dj (x1 d:Int) (e f:Int) (g h i:Int) (b:YJ) (c:aA YZ):aB (aA YZ):=
 (jA false c [b.ID]).bind fun a=>some a
theorem bD1 [Inhabited Rc] {k} (d) (x1 e:Int) (f h:Int) (i j l:Int) (b:YJ) (c:aA YZ):tA (XD k (d+1)) 4 [.agg [i64 x1,i64 e,i64 f,i64 h,i64 i,i64 j,i64 l],.ip (YJ.g b)] [(4,.loop 16 [(3,.ref 1 0)] [7,8] dI dJ false none),(2,.lst 39 2 false (I YZ.g c)),(1,.box [.own 2])] 5=(Dj x1 e f h i j l b c).map (fun(a:aA YZ)=>((bv true,[(4,.loop 16 [(3,.ref 1 0)] [7,8] dI dJ false none),(2,.lst 39 2 false (I YZ.g a)),(1,.box [.own 2])],0))):=by
 rw[yd];refine bz (So nZ) ?_;refine bo (bX false YZ.g c [b.ID]) fun m=>?_;rfl
def sB (x1 d:Int) (e f:Int) (g h i:Int) (b:YF) (c:aA YZ):aB (aA YZ):=
 (jA false c [b.ID]).bind fun a=>some a
theorem Qu [Inhabited Rc] {k} (d) (x1 e:Int) (f h:Int) (i j l:Int) (b:YF) (c:aA YZ):tA (XD k (d+1)) 4 [.agg [i64 x1,i64 e,i64 f,i64 h,i64 i,i64 j,i64 l],.ip (YF.g b)] [(4,.loop 16 [(3,.ref 1 0)] [7,8] dI dJ false none),(2,.lst 39 2 false (I YZ.g c)),(1,.box [.own 2])] 5=(sB x1 e f h i j l b c).map (fun(a:aA YZ)=>((bv true,[(4,.loop 16 [(3,.ref 1 0)] [7,8] dI dJ false none),(2,.lst 39 2 false (I YZ.g a)),(1,.box [.own 2])],0))):=by
 rw[yd];refine bz (So nZ) ?_;refine bo (bX false YZ.g c [b.ID]) fun m=>?_;rfl
def sD (x1 d:Int) (e f:Int) (g h i:Int) (b:YM) (c:aA YZ):aB (aA YZ):=
 (jA false c [b.ID]).bind fun a=>some a
theorem Qv [Inhabited Rc] {k} (d) (x1 e:Int) (f h:Int) (i j l:Int) (b:YM) (c:aA YZ):tA (XD k (d+1)) 4 [.agg [i64 x1,i64 e,i64 f,i64 h,i64 i,i64 j,i64 l],.ip (YM.g b)] [(4,.loop 16 [(3,.ref 1 0)] [7,8] dI dJ false none),(2,.lst 39 2 false (I YZ.g c)),(1,.box [.own 2])] 5=(sD x1 e f h i j l b c).map (fun(a:aA YZ)=>((bv true,[(4,.loop 16 [(3,.ref 1 0)] [7,8] dI dJ false none),(2,.lst 39 2 false (I YZ.g a)),(1,.box [.own 2])],0))):=by
 rw[yd];refine bz (So nZ) ?_;refine bo (bX false YZ.g c [b.ID]) fun m=>?_;rfl
def sF (x1 d:Int) (e f:Int) (g h i:Int) (b:YE) (c:aA YZ):aB (aA YZ):=
 (jA false c [b.ID]).bind fun a=>some a
theorem Qw [Inhabited Rc] {k} (d) (x1 e:Int) (f h:Int) (i j l:Int) (b:YE) (c:aA YZ):tA (XD k (d+1)) 4 [.agg [i64 x1,i64 e,i64 f,i64 h,i64 i,i64 j,i64 l],.ip (YE.g b)] [(4,.loop 16 [(3,.ref 1 0)] [7,8] dI dJ false none),(2,.lst 39 2 false (I YZ.g c)),(1,.box [.own 2])] 5=(sF x1 e f h i j l b c).map (fun(a:aA YZ)=>((bv true,[(4,.loop 16 [(3,.ref 1 0)] [7,8] dI dJ false none),(2,.lst 39 2 false (I YZ.g a)),(1,.box [.own 2])],0))):=by
 rw[yd];refine bz (So nZ) ?_;refine bo (bX false YZ.g c [b.ID]) fun m=>?_;rfl
def sG (x1 d:Int) (e f:Int) (g h i:Int) (b:YN) (c:aA YZ):aB (aA YZ):=
 (jA false c [b.ID]).bind fun a=>some a
theorem Qx [Inhabited Rc] {k} (d) (x1 e:Int) (f h:Int) (i j l:Int) (b:YN) (c:aA YZ):tA (XD k (d+1)) 4 [.agg [i64 x1,i64 e,i64 f,i64 h,i64 i,i64 j,i64 l],.ip (YN.g b)] [(4,.loop 16 [(3,.ref 1 0)] [7,8] dI dJ false none),(2,.lst 39 2 false (I YZ.g c)),(1,.box [.own 2])] 5=(sG x1 e f h i j l b c).map (fun(a:aA YZ)=>((bv true,[(4,.loop 16 [(3,.ref 1 0)] [7,8] dI dJ false none),(2,.lst 39 2 false (I YZ.g a)),(1,.box [.own 2])],0))):=by
 rw[yd];refine bz (So nZ) ?_;refine bo (bX false YZ.g c [b.ID]) fun m=>?_;rfl
def bE1 (x1:Y0) (W:aA YZ):aB (aA YZ):=
 (aR (E:=aA YZ) (fun(⟨L,f,w⟩:Int×Int×(aA YZ))=>if decide (f<(x1.Parts.length:Int))then(aT x1.Parts f).bind fun M=>(Dj 1 f 0 0 0 0 0 M w).bind fun N=>(aT x1.Parts f).bind fun O=>(aR (E:=Int×(aA YZ)) (fun(⟨l,m,K⟩:Int×Int×(aA YZ))=>if decide (m<(O.Staves.length:Int))then(aT x1.Parts f).bind fun P=>(aT P.Staves m).bind fun R=>(sB 2 0 l 0 0 0 0 R K).bind fun S=>some (.inl ((aW (l+1)),(aW (m+1)),S))else some (.inr (l,K))) bC (L,0,N)).bind fun⟨T,U⟩=>some (.inl (T,(aW (f+1)),U))else some (.inr w)) bC (0,0,W)).bind fun V=>(aR (E:=aA YZ) (fun(⟨a,g⟩:Int×(aA YZ))=>if decide (a<(x1.Measures.length:Int))then(aT x1.Measures a).bind fun n=>(sD 3 0 0 a 0 0 0 n g).bind fun o=>(aT x1.Measures a).bind fun p=>(aR (E:=aA YZ) (fun(⟨b,h⟩:Int×(aA YZ))=>if decide (b<(p.Cells.length:Int))then(aT x1.Measures a).bind fun q=>(aT q.Cells b).bind fun r=>(aR (E:=aA YZ) (fun(⟨c,i⟩:Int×(aA YZ))=>if decide (c<(r.Voices.length:Int))then(aT x1.Measures a).bind fun s=>(aT s.Cells b).bind fun t=>(aT t.Voices c).bind fun u=>(aR (E:=aA YZ) (fun(⟨d,j⟩:Int×(aA YZ))=>if decide (d<(u.Events.length:Int))then(aT x1.Measures a).bind fun v=>(aT v.Cells b).bind fun x=>(aT x.Voices c).bind fun y=>(aT y.Events d).bind fun z=>(sF 4 0 b a c d 0 z j).bind fun A=>some (.inl ((aW (d+1)),A))else some (.inr j)) bC (0,i)).bind fun B=>some (.inl ((aW (c+1)),B))else some (.inr i)) bC (0,h)).bind fun C=>some (.inl ((aW (b+1)),C))else some (.inr h)) bC (0,o)).bind fun D=>some (.inl ((aW (a+1)),D))else some (.inr g)) bC (0,V)).bind fun F=>(aR (E:=aA YZ) (fun(⟨e,k⟩:Int×(aA YZ))=>if decide (e<(x1.Spanners.length:Int))then(aT x1.Spanners e).bind fun G=>(sG 5 0 0 0 0 0 e G k).bind fun H=>some (.inl ((aW (e+1)),H))else some (.inr k)) bC (0,F)).bind fun J=>some J
theorem qQ1 [Inhabited Rc] {k} (d) (x1:Y0) (K:aA YZ):dC (XD k (d+2)) 53 [.yld 4,.ref 3 0] [(4,.loop 16 [(3,.ref 1 0)] [7,8] dI dJ false none),(3,.box [.ref 0 0]),(0,.box (Y0.g x1)),(2,.lst 39 2 false (I YZ.g K)),(1,.box [.own 2])] 5 false=(bE1 x1 K).map (fun(F:aA YZ)=>((.tup [],[(4,.loop 16 [(3,.ref 1 0)] [7,8] dI dJ false none),(3,.box [.ref 0 0]),(0,.box (Y0.g x1)),(2,.lst 39 2 false (I YZ.g F)),(1,.box [.own 2])],0))):=by
 rw[xd (fn:=p53) rfl];refine bz lm ?_;refine bo (aK (S:=Int×Int×(aA YZ)) (enc:=fun⟨v,f,w⟩=>(Q [(0,.yld 4),(1,.ref 3 0),(3,i64 v),(15,i64 (x1.Parts.length:Int)),(16,i64 f)] [(4,.loop 16 [(3,.ref 1 0)] [7,8] dI dJ false none),(3,.box [.ref 0 0]),(0,.box (Y0.g x1)),(2,.lst 39 2 false (I YZ.g w)),(1,.box [.own 2])])) (encE:=(fun(z:aA YZ)=>(xq 0 [(0,.yld 4),(1,.ref 3 0)] [(4,.loop 16 [(3,.ref 1 0)] [7,8] dI dJ false none),(3,.box [.ref 0 0]),(0,.box (Y0.g x1)),(2,.lst 39 2 false (I YZ.g z)),(1,.box [.own 2])]))) (fun⟨v,f,w⟩=>?_) bC (0,0,K)) fun z=>?_;refine io ?_ rfl;refine bo rg fun L=>?_;refine bo (bD1 d 1 f 0 0 0 0 0 L w) fun M=>?_;refine bo rg fun N=>?_;refine bz lm ?_;refine bo (aK (S:=Int×Int×(aA YZ)) (enc:=fun⟨x,G,y⟩=>(Q [(0,.yld 4),(1,.ref 3 0),(3,i64 x),(4,i64 f),(15,i64 (x1.Parts.length:Int)),(16,i64 f),(39,i64 (N.Staves.length:Int)),(40,i64 G)] [(4,.loop 16 [(3,.ref 1 0)] [7,8] dI dJ false none),(2,.lst 39 2 false (I YZ.g y)),(1,.box [.own 2]),(3,.box [.ref 0 0]),(0,.box (Y0.g x1))])) (encE:=(fun(⟨H,J⟩:Int×(aA YZ))=>(xq 2 [(0,.yld 4),(1,.ref 3 0),(3,i64 H),(15,i64 (x1.Parts.length:Int)),(16,i64 f)] [(4,.loop 16 [(3,.ref 1 0)] [7,8] dI dJ false none),(2,.lst 39 2 false (I YZ.g J)),(1,.box [.own 2]),(3,.box [.ref 0 0]),(0,.box (Y0.g x1))]))) (fun⟨x,G,y⟩=>?_) bC (v,0,M)) fun⟨H,J⟩=>?_;refine io ?_ rfl;refine bo rg fun Z=>?_;refine bo rg fun O=>?_;refine bo (Qu d 2 0 x 0 0 0 0 O y) fun a0=>?_;rfl;rfl;refine bz lm ?_;refine bo (aK (S:=Int×(aA YZ)) (enc:=fun⟨a,h⟩=>(Q [(0,.yld 4),(1,.ref 3 0),(67,i64 (x1.Measures.length:Int)),(68,i64 a)] [(4,.loop 16 [(3,.ref 1 0)] [7,8] dI dJ false none),(3,.box [.ref 0 0]),(0,.box (Y0.g x1)),(2,.lst 39 2 false (I YZ.g h)),(1,.box [.own 2])])) (encE:=(fun(o:aA YZ)=>(xq 4 [(0,.yld 4),(1,.ref 3 0)] [(4,.loop 16 [(3,.ref 1 0)] [7,8] dI dJ false none),(3,.box [.ref 0 0]),(0,.box (Y0.g x1)),(2,.lst 39 2 false (I YZ.g o)),(1,.box [.own 2])]))) (fun⟨a,h⟩=>?_) bC (0,z)) fun o=>?_;refine io ?_ rfl;refine bo rg fun A=>?_;refine bo (Qv d 3 0 0 a 0 0 0 A h) fun B=>?_;refine bo rg fun e=>?_;refine bz lm ?_;refine bo (aK (S:=Int×(aA YZ)) (enc:=fun⟨b,i⟩=>(Q [(0,.yld 4),(1,.ref 3 0),(6,i64 a),(67,i64 (x1.Measures.length:Int)),(68,i64 a),(91,i64 (e.Cells.length:Int)),(92,i64 b)] [(4,.loop 16 [(3,.ref 1 0)] [7,8] dI dJ false none),(2,.lst 39 2 false (I YZ.g i)),(1,.box [.own 2]),(3,.box [.ref 0 0]),(0,.box (Y0.g x1))])) (encE:=(fun(t:aA YZ)=>(xq 6 [(0,.yld 4),(1,.ref 3 0),(67,i64 (x1.Measures.length:Int)),(68,i64 a)] [(4,.loop 16 [(3,.ref 1 0)] [7,8] dI dJ false none),(2,.lst 39 2 false (I YZ.g t)),(1,.box [.own 2]),(3,.box [.ref 0 0]),(0,.box (Y0.g x1))]))) (fun⟨b,i⟩=>?_) bC (0,B)) fun t=>?_;refine io ?_ rfl;refine bo rg fun P=>?_;refine bo rg fun j=>?_;refine bz lm ?_;refine bo (aK (S:=Int×(aA YZ)) (enc:=fun⟨c,l⟩=>(Q [(0,.yld 4),(1,.ref 3 0),(6,i64 a),(7,i64 b),(67,i64 (x1.Measures.length:Int)),(68,i64 a),(91,i64 (e.Cells.length:Int)),(92,i64 b),(107,i64 (j.Voices.length:Int)),(108,i64 c)] [(4,.loop 16 [(3,.ref 1 0)] [7,8] dI dJ false none),(2,.lst 39 2 false (I YZ.g l)),(1,.box [.own 2]),(3,.box [.ref 0 0]),(0,.box (Y0.g x1))])) (encE:=(fun(s:aA YZ)=>(xq 8 [(0,.yld 4),(1,.ref 3 0),(6,i64 a),(67,i64 (x1.Measures.length:Int)),(68,i64 a),(91,i64 (e.Cells.length:Int)),(92,i64 b)] [(4,.loop 16 [(3,.ref 1 0)] [7,8] dI dJ false none),(2,.lst 39 2 false (I YZ.g s)),(1,.box [.own 2]),(3,.box [.ref 0 0]),(0,.box (Y0.g x1))]))) (fun⟨c,l⟩=>?_) bC (0,i)) fun s=>?_;refine io ?_ rfl;refine bo rg fun R=>?_;refine bo rg fun T=>?_;refine bo rg fun C=>?_;refine bz lm ?_;refine bo (aK (S:=Int×(aA YZ)) (enc:=fun⟨m,n⟩=>(Q [(0,.yld 4),(1,.ref 3 0),(6,i64 a),(7,i64 b),(8,i64 c),(67,i64 (x1.Measures.length:Int)),(68,i64 a),(91,i64 (e.Cells.length:Int)),(92,i64 b),(107,i64 (j.Voices.length:Int)),(108,i64 c),(127,i64 (C.Events.length:Int)),(128,i64 m)] [(4,.loop 16 [(3,.ref 1 0)] [7,8] dI dJ false none),(2,.lst 39 2 false (I YZ.g n)),(1,.box [.own 2]),(3,.box [.ref 0 0]),(0,.box (Y0.g x1))])) (encE:=(fun(r:aA YZ)=>(xq 10 [(0,.yld 4),(1,.ref 3 0),(6,i64 a),(7,i64 b),(67,i64 (x1.Measures.length:Int)),(68,i64 a),(91,i64 (e.Cells.length:Int)),(92,i64 b),(107,i64 (j.Voices.length:Int)),(108,i64 c)] [(4,.loop 16 [(3,.ref 1 0)] [7,8] dI dJ false none),(2,.lst 39 2 false (I YZ.g r)),(1,.box [.own 2]),(3,.box [.ref 0 0]),(0,.box (Y0.g x1))]))) (fun⟨m,n⟩=>?_) bC (0,l)) fun r=>?_;refine io ?_ rfl;refine bo rg fun U=>?_;refine bo rg fun V=>?_;refine bo rg fun W=>?_;refine bo rg fun D=>?_;refine bo (Qw d 4 0 b a c m 0 D n) fun X=>?_;rfl;rfl;rfl;rfl;refine bz lm ?_;refine bo (aK (S:=Int×(aA YZ)) (enc:=fun⟨p,q⟩=>(Q [(0,.yld 4),(1,.ref 3 0),(166,i64 (x1.Spanners.length:Int)),(167,i64 p)] [(4,.loop 16 [(3,.ref 1 0)] [7,8] dI dJ false none),(3,.box [.ref 0 0]),(0,.box (Y0.g x1)),(2,.lst 39 2 false (I YZ.g q)),(1,.box [.own 2])])) (encE:=(fun(u:aA YZ)=>(xq 12 [] [(4,.loop 16 [(3,.ref 1 0)] [7,8] dI dJ false none),(3,.box [.ref 0 0]),(0,.box (Y0.g x1)),(2,.lst 39 2 false (I YZ.g u)),(1,.box [.own 2])]))) (fun⟨p,q⟩=>?_) bC (0,o)) fun u=>?_;refine io ?_ rfl;refine bo rg fun E=>?_;refine bo (Qx d 5 0 0 0 0 0 p E q) fun Y=>?_;rfl;rfl
def F63 (x1:Y0):aB (aA YZ):=
 (bC1 x1).bind fun _=>(bE1 x1 []).bind fun a=>some a
theorem dO2 [Inhabited Rc] {k} (d) (x1:Y0):OD k (d+3) 63 [.agg (Y0.g x1)]=(F63 x1).map (fun a=>.is 2 (I YZ.g a)):=by
 refine oe rfl ?_;refine bo (qP1 (d+1) x1) fun _=>?_;refine bo (qQ1 d x1 []) fun b=>?_;rfl
def F64 (x1:YZ):aB Bool:=
 (zS x1.Site 0 99).bind fun a=>((if a then(zS x1.Number 1 1073741824).bind fun b=>some b else some false:aB (Bool))).bind fun c=>some c
theorem qS1 [Inhabited Rc] {k} (d) (x1:YZ):OD k (d+2) 64 [.agg (YZ.g x1)]=(F64 x1).map bv:=by
 refine oe rfl ?_;refine bo (oA d x1.Site 0 99) fun a=>?_;refine bo (e:=id) ?_ fun c=>?_;refine io ?_ rfl;refine bo (oA d x1.Number 1 1073741824) fun b=>?_;rfl;rfl
def F65 (x1:Y0) (c:Int):aB Int:=
 (aR (E:=Int⊕Unit) (fun(a:Int)=>if decide (a<(x1.Last.length:Int))then(aT x1.Last a).bind fun b=>if b.Site==c then some (.inr (.inl b.Number))else some (.inl (aW (a+1)))else some (.inr (.inr ()))) bC 0).bind fun d=>(match d with|.inl x6=>some x6|.inr _=>some 0)
theorem dP2 [Inhabited Rc] {k} (d) (x1:Y0) (a:Int):OD k (d+1) 65 [.agg (Y0.g x1),i64 a]=(F65 x1 a).map i64:=by
 refine oe rfl ?_;refine bz lm ?_;refine bo (aK (S:=Int) (enc:=fun b=>(Q [(1,i64 a),(8,.is 2 (I YZ.g x1.Last)),(9,i64 (x1.Last.length:Int)),(10,i64 b)] [(0,.box (Y0.g x1))])) (encE:=(fun|.inl c=>(rq [(4,i64 c)] [(0,.box (Y0.g x1))])|.inr _=>(xq 0 [] [(0,.box (Y0.g x1))]))) (fun b=>?_) bC 0) fun e=>?_;refine io ?_ rfl;refine bo rg fun f=>?_;refine io rfl rfl;rcases e with c|_;rfl;rfl
def bF1 (x1:aA YV) (e:Y0) (u:Int):aB (aA YV):=
 (F63 e).bind fun v=>(aR (E:=(aA (YZ×Bool))×(aA YV)) (fun(⟨c,d,f⟩:Int×(aA (YZ×Bool))×(aA YV))=>if decide (c<(v.length:Int))then(aT v c).bind fun a=>(F64 a).bind fun i=>((if(!i)||(kE d a false)then some true else(F65 e a.Site).bind fun j=>some (decide (a.Number>j)):aB (Bool))).bind fun k=>(iF k a f e u).bind fun l=>some (.inl ((aW (c+1)),(oZ d a true),l))else some (.inr (d,f))) bC (0,[],x1)).bind fun⟨w,m⟩=>(aR (E:=Bool) (fun(⟨g,b⟩:Bool×Int)=>if decide (b<(e.Last.length:Int))then(aT e.Last b).bind fun h=>((if g then some true else(F64 h).bind fun n=>some (!n):aB (Bool))).bind fun o=>((if o then some true else((if decide (b>0)then(aT e.Last (aW (b-1))).bind fun p=>some (decide (h.Site<=p.Site))else some false:aB (Bool))).bind fun q=>some q:aB (Bool))).bind fun r=>some (.inl (r,(aW (b+1))))else some (.inr g)) bC (false,0)).bind fun s=>(iF s (YZ.mk 0 0) m e u).bind fun t=>some t
theorem qT1 [Inhabited Rc] {k} (d) (x1:aA YV) (a:Y0) (i:Int):dC (XD k (d+4)) 30 [.ref 1 0] [(2,.lst 120 3 false (I YV.g x1)),(1,.box (ck a i (.own 2)))] 3 false=(bF1 x1 a i).map (fun(r:aA YV)=>((.tup [],[(2,.lst 120 3 false (I YV.g r)),(1,.box (ck a i (.own 2)))],0))):=by
 rw[xd (fn:=p30) rfl];refine bo (dO2 d a) fun s=>?_;refine bz lm ?_;refine bo (aK (S:=Int×(aA (YZ×Bool))×(aA YV)) (enc:=fun⟨m,f,j⟩=>(Q [(0,.ref 1 0),(2,.map 3),(13,.is 2 (I YZ.g s)),(14,i64 (s.length:Int)),(15,i64 m)] [(3,.mp (I (cE (eA YZ.g) bv) f)),(2,.lst 120 3 false (I YV.g j)),(1,.box (ck a i (.own 2)))])) (encE:=(fun(⟨h,c⟩:(aA (YZ×Bool))×(aA YV))=>(xq 0 [(0,.ref 1 0)] [(3,.mp (I (cE (eA YZ.g) bv) h)),(2,.lst 120 3 false (I YV.g c)),(1,.box (ck a i (.own 2)))]))) (fun⟨m,f,j⟩=>?_) bC (0,[],x1)) fun⟨h,c⟩=>?_;refine io ?_ rfl;refine bo rg fun b=>?_;refine bo (qS1 (d+1) b) fun t=>?_;refine bz (fF (bz (qE sA bv f b false) rfl)) ?_;refine bo (e:=id) ?_ fun p=>?_;refine io rfl ?_;refine bo (dP2 (d+2) a b.Site) fun u=>?_;rfl;refine bo (gB (d+2) p b j a i) fun v=>?_;refine bz (gS sA bv f b true) ?_;rfl;refine bz lm ?_;refine bo (aK (S:=Bool×Int) (enc:=fun⟨n,o⟩=>(Q [(0,.ref 1 0),(5,bv n),(49,.is 2 (I YZ.g a.Last)),(50,i64 (a.Last.length:Int)),(51,i64 o)] [(3,.mp (I (cE (eA YZ.g) bv) h)),(2,.lst 120 3 false (I YV.g c)),(1,.box (ck a i (.own 2)))])) (encE:=(fun(l:Bool)=>(xq 2 [(0,.ref 1 0),(5,bv l)] [(3,.mp (I (cE (eA YZ.g) bv) h)),(2,.lst 120 3 false (I YV.g c)),(1,.box (ck a i (.own 2)))]))) (fun⟨n,o⟩=>?_) bC (false,0)) fun l=>?_;refine io ?_ rfl;refine bo rg fun q=>?_;refine bo (e:=id) ?_ fun x=>?_;refine io rfl ?_;refine bo (qS1 (d+1) q) fun w=>?_;rfl;refine bo (e:=id) ?_ fun A=>?_;refine io rfl ?_;refine bo (e:=id) ?_ fun z=>?_;refine io ?_ rfl;refine bo rg fun y=>?_;rfl;rfl;rfl;refine bo (gB (d+2) l (YZ.mk 0 0) c a i) fun B=>?_;rfl
def F20 (x1:Y0):aB Int:=
 (aR (E:=Int) (fun(⟨b,a⟩:Int×Int)=>if decide (a<(x1.Parts.length:Int))then(aT x1.Parts a).bind fun c=>some (.inl ((aW (b+(c.Staves.length:Int))),(aW (a+1))))else some (.inr b)) bC (0,0)).bind fun d=>some d
theorem kE1 [Inhabited Rc] {k} (d) (x1:Y0):OD k (d+1) 20 [.agg (Y0.g x1)]=(F20 x1).map i64:=by
 refine oe rfl ?_;refine bz lm ?_;refine bo (aK (S:=Int×Int) (enc:=fun⟨a,b⟩=>(Q [(3,i64 a),(7,.is 6 (I YJ.g x1.Parts)),(8,i64 (x1.Parts.length:Int)),(9,i64 b)] [(0,.box (Y0.g x1))])) (encE:=(fun(c:Int)=>(xq 0 [(3,i64 c)] [(0,.box (Y0.g x1))]))) (fun⟨a,b⟩=>?_) bC (0,0)) fun c=>?_;refine io ?_ rfl;refine bo rg fun e=>?_;refine bz lm ?_;rfl;rfl
def F67 (x1:Int) (j:YM) (n:Int):aB Bool:=
 (aR (E:=Bool) (fun(⟨d,b⟩:Bool×Int)=>if decide (b<(j.Cells.length:Int))then(aT j.Cells b).bind fun a=>((if d||((a.Voices.length:Int)==0)then some true else(aT a.Voices 0).bind fun g=>some ((g.Events.length:Int)==0):aB (Bool))).bind fun h=>((if h then some true else(aT a.Voices (aW ((a.Voices.length:Int)-1))).bind fun i=>some ((i.Events.length:Int)==0):aB (Bool))).bind fun k=>(aR (E:=Bool) (fun(⟨e,c⟩:Bool×Int)=>if decide (c<(a.Voices.length:Int))then(aT a.Voices c).bind fun f=>some (.inl ((e||(((f.Events.length:Int)==0)&&(decide ((f.Tuplets.length:Int)>0)))),(aW (c+1))))else some (.inr e)) bC (k,0)).bind fun l=>some (.inl (l,(aW (b+1))))else some (.inr d)) bC (((j.Cells.length:Int)!=n),0)).bind fun m=>some m
theorem dQ2 [Inhabited Rc] {k} (d) (x1:Int) (a:YM) (n:Int):OD k (d+1) 67 [i64 x1,.agg (YM.g a),.ip [i64 n]]=(F67 x1 a n).map bv:=by
 refine oe rfl ?_;refine bz lm ?_;refine bz lm ?_;refine bo (aK (S:=Bool×Int) (enc:=fun⟨f,b⟩=>(Q [(6,bv f),(18,.is 2 (I YW.g a.Cells)),(19,i64 (a.Cells.length:Int)),(20,i64 b)] [(0,.box (YM.g a))])) (encE:=(fun(l:Bool)=>(xq 0 [(6,bv l)] [(0,.box (YM.g a))]))) (fun⟨f,b⟩=>?_) bC (((a.Cells.length:Int)!=n),0)) fun l=>?_;refine io ?_ rfl;refine bo rg fun c=>?_;refine bz (fF (bz lm rfl)) ?_;refine bo (e:=id) ?_ fun p=>?_;refine io rfl ?_;refine bo rg fun o=>?_;refine bz lm ?_;rfl;refine bo (e:=id) ?_ fun m=>?_;refine io rfl ?_;refine bz lm ?_;refine bo rg fun q=>?_;refine bz lm ?_;rfl;refine bz lm ?_;refine bo (aK (S:=Bool×Int) (enc:=fun⟨h,i⟩=>(Q [(6,bv h),(18,.is 2 (I YW.g a.Cells)),(19,i64 (a.Cells.length:Int)),(20,i64 b),(51,.is 2 (I YO.g c.Voices)),(52,i64 (c.Voices.length:Int)),(53,i64 i)] [(1,.box (YW.g c)),(0,.box (YM.g a))])) (encE:=(fun(j:Bool)=>(xq 2 [(6,bv j),(18,.is 2 (I YW.g a.Cells)),(19,i64 (a.Cells.length:Int)),(20,i64 b)] [(1,.box (YW.g c)),(0,.box (YM.g a))]))) (fun⟨h,i⟩=>?_) bC (m,0)) fun j=>?_;refine io ?_ rfl;refine bo rg fun r=>?_;refine bz (fF (bz lm (bz (dO (bz lm rfl)) rfl))) ?_;rfl;rfl;rfl
def bG1 (x1:Int) (h:aA YV) (f:Y0) (i:Int):aB (aA YV):=
 (aR (E:=aA YV) (fun(⟨b,g⟩:Int×(aA YV))=>if decide (b<(f.Measures.length:Int))then(aT f.Measures b).bind fun a=>(F67 b a x1).bind fun c=>(iF c a.ID g f i).bind fun d=>some (.inl ((aW (b+1)),d))else some (.inr g)) bC (0,h)).bind fun e=>some e
theorem qU1 [Inhabited Rc] {k} (d) (x1:Int) (i:aA YV) (a:Y0) (b:Int):dC (XD k (d+2)) 66 [.ref 1 0,.fn 67 [] [.ref 3 0]] [(3,.box [i64 x1]),(2,.lst 120 3 false (I YV.g i)),(1,.box (ck a b (.own 2)))] 4 false=(bG1 x1 i a b).map (fun(h:aA YV)=>((.tup [],[(3,.box [i64 x1]),(2,.lst 120 3 false (I YV.g h)),(1,.box (ck a b (.own 2)))],0))):=by
 rw[xd (fn:=p66) rfl];refine bz lm ?_;refine bo (aK (S:=Int×(aA YV)) (enc:=fun⟨j,l⟩=>(Q [(0,.ref 1 0),(1,.fn 67 [] [.ref 3 0]),(10,.is 22 (I YM.g a.Measures)),(11,i64 (a.Measures.length:Int)),(12,i64 j)] [(3,.box [i64 x1]),(2,.lst 120 3 false (I YV.g l)),(1,.box (ck a b (.own 2)))])) (encE:=(fun(e:aA YV)=>(xq 0 [] [(3,.box [i64 x1]),(2,.lst 120 3 false (I YV.g e)),(1,.box (ck a b (.own 2)))]))) (fun⟨j,l⟩=>?_) bC (0,i)) fun e=>?_;refine io ?_ rfl;refine bo rg fun c=>?_;refine bo (dQ2 d j c x1) fun f=>?_;refine bo (gB d f c.ID l a b) fun m=>?_;rfl;rfl
def bH1 (x1:aA YV) (a:Y0) (b:Int):aB (aA YV):=
 (F20 a).bind fun c=>(bG1 c x1 a b).bind fun d=>some d
theorem qV1 [Inhabited Rc] {k} (d) (x1:aA YV) (a:Y0) (b:Int):dC (XD k (d+3)) 31 [.ref 1 0] [(2,.lst 120 3 false (I YV.g x1)),(1,.box (ck a b (.own 2)))] 3 false=(bH1 x1 a b).map (fun(e:aA YV)=>((.tup [],[(2,.lst 120 3 false (I YV.g e)),(1,.box (ck a b (.own 2)))],0))):=by
 rw[xd (fn:=p31) rfl];refine bo (kE1 (d+1) a) fun c=>?_;refine bo (qU1 d c x1 a b) fun f=>?_;rfl
def bI1:aB Y9:=
 some (Y9.mk (YI.mk (⟨#[116,114,101,98,108,101]⟩:ByteArray) 71 (-2) 0 34 (-1) (-3)) (YI.mk (⟨#[98,97,115,115]⟩:ByteArray) 70 2 0 22 (-3) (-5)) (YI.mk (⟨#[97,108,116,111]⟩:ByteArray) 67 0 0 28 (-2) (-4)) (YI.mk (⟨#[116,101,110,111,114]⟩:ByteArray) 67 2 0 26 (-2) (-2)) (YI.mk (⟨#[115,111,112,114,97,110,111]⟩:ByteArray) 67 (-4) 0 32 (-2) (-3)) (YI.mk (⟨#[109,101,122,122,111,115,111,112,114,97,110,111]⟩:ByteArray) 67 (-2) 0 30 (-2) (-3)) (YI.mk (⟨#[98,97,114,105,116,111,110,101]⟩:ByteArray) 70 0 0 24 (-2) (-3)) (YI.mk (⟨#[116,114,101,98,108,101,56]⟩:ByteArray) 71 (-2) (-1) 27 (-1) (-3)) (YI.mk (⟨#[98,97,115,115,56]⟩:ByteArray) 70 2 (-1) 15 (-3) (-5)))
theorem qW1 [Inhabited Rc] {k} (d):OD k (d+1) 181 []=(bI1).map (fun a=>.agg (Y9.g a)):=by
 refine oe rfl ?_;rfl
def bJ1 (x1:Int):aB (YI×Int):=
 if(decide (x1<1))||(decide (x1>9))then some ((YI.mk (⟨#[]⟩:ByteArray) 0 0 0 0 0 0),11)else(bI1).bind fun a=>(aT [a.c0,a.c1,a.c2,a.c3,a.c4,a.c5,a.c6,a.c7,a.c8] (aW (x1-1))).bind fun b=>some (b,0)
theorem qX1 [Inhabited Rc] {k} (d) (x1:Int):OD k (d+2) 125 [i64 x1]=(bJ1 x1).map (fun⟨b,c⟩=>.tup [.agg (YI.g b),i64 c]):=by
 refine oe rfl ?_;refine bz (fF rfl) ?_;refine io rfl ?_;refine bo (qW1 d) fun a=>?_;refine bo (Hw (A:=YI) YI.g [a.c0,a.c1,a.c2,a.c3,a.c4,a.c5,a.c6,a.c7,a.c8] (aW (x1-1)) rfl (fun _=>rfl) rfl) fun e=>?_;rfl
def F68 (x1:Int):aB Int:=
 (bJ1 x1).bind fun⟨b,a⟩=>some a
theorem qZ1 [Inhabited Rc] {k} (d) (x1:Int):OD k (d+3) 68 [i64 x1]=(F68 x1).map i64:=by
 refine oe rfl ?_;refine bo (qX1 d x1) fun⟨a,b⟩=>?_;rfl
def bK1 (x1:YX):aB Bool:=
 if((x1.Groups.c0==0)&&((x1.Groups.c1==0)&&((x1.Groups.c2==0)&&((x1.Groups.c3==0)&&((x1.Groups.c4==0)&&((x1.Groups.c5==0)&&true))))))!=false then some true else(aR (E:=(Int×Int)⊕(Int×Int)) (fun(⟨c,a,d⟩:Int×Int×Int)=>if decide (d<6)then(aT [x1.Groups.c0,x1.Groups.c1,x1.Groups.c2,x1.Groups.c3,x1.Groups.c4,x1.Groups.c5] d).bind fun b=>if((decide (b<0))||(decide (b>64)))||((decide (b>0))&&(d !=a))then some (.inr (.inl (c,a)))else((if decide (b>0)then some ((aW (c+b)),(aW (a+1)))else some (c,a):aB (Int×Int))).bind fun⟨g,e⟩=>some (.inl (g,e,(aW (d+1))))else some (.inr (.inr (c,a)))) bC (0,0,0)).bind fun f=>(match f with|.inl ⟨x11,x12⟩=>some false|.inr ⟨x13,x14⟩=>some ((x13==x1.Count)&&(decide (x14>=2))))
theorem rA1 [Inhabited Rc] {k} (d) (x1:YX):OD k (d+1) 203 [.agg (YX.g x1)]=(bK1 x1).map bv:=by
 refine oe rfl ?_;refine io rfl ?_;refine bo (aK (S:=Int×Int×Int) (enc:=fun⟨i,j,f⟩=>(Q [(1,.ref 0 0),(3,i64 i),(4,i64 j),(12,.agg (Y6.g x1.Groups)),(13,i64 f)] [(0,.box (YX.g x1))])) (encE:=(fun|.inl ⟨b,c⟩=>(rq [(1,.ref 0 0),(2,bv false),(3,i64 b),(4,i64 c)] [(0,.box (YX.g x1))])|.inr ⟨x13,x14⟩=>(xq 0 [(1,.ref 0 0),(3,i64 x13),(4,i64 x14)] [(0,.box (YX.g x1))]))) (fun⟨i,j,f⟩=>?_) bC (0,0,0)) fun h=>?_;refine io ?_ rfl;refine bo (qD .i64 [x1.Groups.c0,x1.Groups.c1,x1.Groups.c2,x1.Groups.c3,x1.Groups.c4,x1.Groups.c5] f rfl) fun m=>?_;refine bz (fF rfl) ?_;refine bz (fF (bz (dO rfl) rfl)) ?_;refine io rfl ?_;refine bo (e:=(fun(⟨l,a⟩:Int×Int)=>(nq [(1,.ref 0 0),(3,i64 l),(4,i64 a),(12,.agg (Y6.g x1.Groups)),(13,i64 f)] [(0,.box (YX.g x1))]))) ?_ fun⟨l,a⟩=>?_;refine io rfl rfl;rfl;rcases h with⟨b,c⟩|⟨x13,x14⟩
 rfl;refine bz (dO rfl) ?_;rfl
def Qy (x1:YX):aB Int:=
 if(decide (x1.Count<1))||(decide (x1.Count>64))then some 2 else if((decide (x1.Unit<1))||(decide (x1.Unit>64)))||((Dh .i64 x1.Unit (aW (x1.Unit-1)))!=0)then some 17 else(bK1 x1).bind fun a=>if !a then some 19 else some 0
theorem rB1 [Inhabited Rc] {k} (d) (x1:YX):OD k (d+2) 166 [.agg (YX.g x1)]=(Qy x1).map i64:=by
 refine oe rfl ?_;refine bz (fF rfl) ?_;refine io rfl ?_;refine bz (fF rfl) ?_;refine bz (fF rfl) ?_;refine io rfl ?_;refine bo (rA1 d x1) fun a=>?_;refine io rfl rfl
def Qz (x1:YX):aB Int:=
 (zR .i64 1935360 x1.Unit).bind fun a=>some a
theorem rC1 [Inhabited Rc] {k} (d) (x1:YX):OD k (d+1) 204 [.agg (YX.g x1)]=(Qz x1).map i64:=by
 refine oe rfl ?_;refine bo oi fun a=>?_;rfl
def Ra (x1:YX):aB Int:=
 (Qz x1).bind fun a=>some (aW (x1.Count*a))
theorem rD1 [Inhabited Rc] {k} (d) (x1:YX):OD k (d+2) 167 [.agg (YX.g x1)]=(Ra x1).map i64:=by
 refine oe rfl ?_;refine bo (rC1 d x1) fun a=>?_;rfl
def Rb (x1:YX):aB (Int×Int):=
 (Qy x1).bind fun a=>if a !=0 then some (0,a)else(Ra x1).bind fun b=>some (b,0)
theorem rE1 [Inhabited Rc] {k} (d) (x1:YX):OD k (d+3) 105 [.agg (YX.g x1)]=(Rb x1).map (fun⟨a,b⟩=>.tup [i64 a,i64 b]):=by
 refine oe rfl ?_;refine bo (rB1 d x1) fun c=>?_;refine io rfl ?_;refine bo (rD1 d x1) fun e=>?_;rfl
def zT (x1:YM):aB (Int×Int):=
 (Rb x1.Metre).bind fun⟨c,b⟩=>if b !=0 then some (0,b)else if decide (x1.Length<0)then some (0,2)else((if decide (x1.Length>0)then some x1.Length else some c:aB (Int))).bind fun a=>(Vw .i64 a 7560).bind fun d=>if d !=0 then some (0,16)else if decide (a>15482880)then some (0,5)else some (a,0)
theorem Ib [Inhabited Rc] {k} (d) (x1:YM):OD k (d+4) 47 [.agg (YM.g x1)]=(zT x1).map (fun⟨b,c⟩=>.tup [i64 b,i64 c]):=by
 refine oe rfl ?_;refine bo (rE1 d x1.Metre) fun⟨f,h⟩=>?_;refine io rfl ?_;refine io rfl ?_;refine bo (e:=(fun(a:Int)=>(nq [(4,i64 a)] [(0,.box (YM.g x1))]))) ?_ fun a=>?_;refine io rfl rfl;refine bo oi fun i=>?_;refine io rfl ?_;refine io rfl rfl
def F69 (x1:Int) (g:YM):aB Bool:=
 (zT g).bind fun⟨q,r⟩=>(aR (E:=Bool) (fun(⟨e,b⟩:Bool×Int)=>if decide (b<(g.Cells.length:Int))then(aT g.Cells b).bind fun c=>(aR (E:=Bool) (fun(⟨f,a⟩:Bool×Int)=>if decide (a<(c.Clefs.length:Int))then(aT c.Clefs a).bind fun d=>((if f then some true else(F68 d.Clef).bind fun h=>some (h !=0):aB (Bool))).bind fun i=>((if i then some true else(zS d.At 0 (aW (q-1))).bind fun j=>some (!j):aB (Bool))).bind fun k=>((if k then some true else((if decide (a>0)then(aT c.Clefs (aW (a-1))).bind fun l=>some (decide (d.At<=l.At))else some false:aB (Bool))).bind fun m=>some m:aB (Bool))).bind fun n=>some (.inl (n,(aW (a+1))))else some (.inr f)) bC (e,0)).bind fun o=>some (.inl (o,(aW (b+1))))else some (.inr e)) bC (false,0)).bind fun p=>some (p&&(r==0))
theorem dR2 [Inhabited Rc] {k} (d) (x1:Int) (a:YM):OD k (d+5) 69 [i64 x1,.agg (YM.g a)]=(F69 x1 a).map bv:=by
 refine oe rfl ?_;refine bo (Ib d a) fun⟨n,o⟩=>?_;refine bz lm ?_;refine bo (aK (S:=Bool×Int) (enc:=fun⟨f,b⟩=>(Q [(5,i64 n),(6,i64 o),(7,bv f),(18,.is 2 (I YW.g a.Cells)),(19,i64 (a.Cells.length:Int)),(20,i64 b)] [(0,.box (YM.g a))])) (encE:=(fun(m:Bool)=>(xq 0 [(6,i64 o),(7,bv m)] [(0,.box (YM.g a))]))) (fun⟨f,b⟩=>?_) bC (false,0)) fun m=>?_;refine io ?_ rfl;refine bo rg fun c=>?_;refine bz lm ?_;refine bo (aK (S:=Bool×Int) (enc:=fun⟨h,i⟩=>(Q [(5,i64 n),(6,i64 o),(7,bv h),(9,.ref 1 0),(18,.is 2 (I YW.g a.Cells)),(19,i64 (a.Cells.length:Int)),(20,i64 b),(25,.is 2 (I YC.g c.Clefs)),(26,i64 (c.Clefs.length:Int)),(27,i64 i)] [(1,.box (YW.g c)),(0,.box (YM.g a))])) (encE:=(fun(l:Bool)=>(xq 2 [(5,i64 n),(6,i64 o),(7,bv l),(18,.is 2 (I YW.g a.Cells)),(19,i64 (a.Cells.length:Int)),(20,i64 b)] [(1,.box (YW.g c)),(0,.box (YM.g a))]))) (fun⟨h,i⟩=>?_) bC (f,0)) fun l=>?_;refine io ?_ rfl;refine bo rg fun j=>?_;refine bo (e:=id) ?_ fun q=>?_;refine io rfl ?_;refine bo (qZ1 (d+1) j.Clef) fun p=>?_;rfl;refine bo (e:=id) ?_ fun s=>?_;refine io rfl ?_;refine bo (oA (d+3) j.At 0 (aW (n-1))) fun r=>?_;rfl;refine bo (e:=id) ?_ fun v=>?_;refine io rfl ?_;refine bo (e:=id) ?_ fun u=>?_;refine io ?_ rfl;refine bo rg fun t=>?_;rfl;rfl;rfl;rfl;refine bz (dO rfl) ?_;rfl
def Dk (x1:aA YV) (e:Y0) (h:Int):aB (aA YV):=
 (aR (E:=aA YV) (fun(⟨a,f⟩:Int×(aA YV))=>if decide (a<(e.Measures.length:Int))then(aT e.Measures a).bind fun g=>(F69 a g).bind fun b=>(iF b g.ID f e h).bind fun c=>some (.inl ((aW (a+1)),c))else some (.inr f)) bC (0,x1)).bind fun d=>some d
theorem bL1 [Inhabited Rc] {k} (d) (x1:aA YV) (a:Y0) (b:Int):dC (XD k (d+6)) 66 [.ref 1 0,.fn 69 [] []] [(2,.lst 120 3 false (I YV.g x1)),(1,.box (ck a b (.own 2)))] 3 false=(Dk x1 a b).map (fun(f:aA YV)=>((.tup [],[(2,.lst 120 3 false (I YV.g f)),(1,.box (ck a b (.own 2)))],0))):=by
 rw[xd (fn:=p66) rfl];refine bz lm ?_;refine bo (aK (S:=Int×(aA YV)) (enc:=fun⟨h,i⟩=>(Q [(0,.ref 1 0),(1,.fn 69 [] []),(10,.is 22 (I YM.g a.Measures)),(11,i64 (a.Measures.length:Int)),(12,i64 h)] [(2,.lst 120 3 false (I YV.g i)),(1,.box (ck a b (.own 2)))])) (encE:=(fun(c:aA YV)=>(xq 0 [] [(2,.lst 120 3 false (I YV.g c)),(1,.box (ck a b (.own 2)))]))) (fun⟨h,i⟩=>?_) bC (0,x1)) fun c=>?_;refine io ?_ rfl;refine bo rg fun j=>?_;refine bo (dR2 d h j) fun e=>?_;refine bo (gB (d+4) e j.ID i a b) fun l=>?_;rfl;rfl
def bM1 (x1:aA YV) (g:Y0) (m:Int):aB (aA YV):=
 (aR (E:=aA YV) (fun(⟨a,c⟩:Int×(aA YV))=>if decide (a<(g.Parts.length:Int))then(aT g.Parts a).bind fun d=>(aR (E:=aA YV) (fun(⟨b,e⟩:Int×(aA YV))=>if decide (b<(d.Staves.length:Int))then(aT d.Staves b).bind fun f=>(F68 f.Clef).bind fun h=>(iF (h !=0) f.ID e g m).bind fun i=>some (.inl ((aW (b+1)),i))else some (.inr e)) bC (0,c)).bind fun j=>some (.inl ((aW (a+1)),j))else some (.inr c)) bC (0,x1)).bind fun k=>(Dk k g m).bind fun l=>some l
theorem rF1 [Inhabited Rc] {k} (d) (x1:aA YV) (a:Y0) (e:Int):dC (XD k (d+7)) 32 [.ref 1 0] [(2,.lst 120 3 false (I YV.g x1)),(1,.box (ck a e (.own 2)))] 3 false=(bM1 x1 a e).map (fun(o:aA YV)=>((.tup [],[(2,.lst 120 3 false (I YV.g o)),(1,.box (ck a e (.own 2)))],0))):=by
 rw[xd (fn:=p32) rfl];refine bz lm ?_;refine bo (aK (S:=Int×(aA YV)) (enc:=fun⟨b,f⟩=>(Q [(0,.ref 1 0),(10,.is 6 (I YJ.g a.Parts)),(11,i64 (a.Parts.length:Int)),(12,i64 b)] [(2,.lst 120 3 false (I YV.g f)),(1,.box (ck a e (.own 2)))])) (encE:=(fun(i:aA YV)=>(xq 0 [(0,.ref 1 0)] [(2,.lst 120 3 false (I YV.g i)),(1,.box (ck a e (.own 2)))]))) (fun⟨b,f⟩=>?_) bC (0,x1)) fun i=>?_;refine io ?_ rfl;refine bo rg fun c=>?_;refine bz lm ?_;refine bo (aK (S:=Int×(aA YV)) (enc:=fun⟨j,h⟩=>(Q [(0,.ref 1 0),(10,.is 6 (I YJ.g a.Parts)),(11,i64 (a.Parts.length:Int)),(12,i64 b),(17,.is 3 (I YF.g c.Staves)),(18,i64 (c.Staves.length:Int)),(19,i64 j)] [(3,.box (YJ.g c)),(2,.lst 120 3 false (I YV.g h)),(1,.box (ck a e (.own 2)))])) (encE:=(fun(m:aA YV)=>(xq 2 [(0,.ref 1 0),(10,.is 6 (I YJ.g a.Parts)),(11,i64 (a.Parts.length:Int)),(12,i64 b)] [(3,.box (YJ.g c)),(2,.lst 120 3 false (I YV.g m)),(1,.box (ck a e (.own 2)))]))) (fun⟨j,h⟩=>?_) bC (0,f)) fun m=>?_;refine io ?_ rfl;refine bo rg fun l=>?_;refine bo (qZ1 (d+3) l.Clef) fun n=>?_;refine bo (gB (d+5) (n !=0) l.ID h a e) fun p=>?_;rfl;rfl;refine bo (bL1 d i a e) fun q=>?_;rfl
def bN1 (x1:Int):aB Int:=
 if(decide (x1<(-7)))||(decide (x1>7))then some 2 else some 0
theorem rG1 [Inhabited Rc] {k} (d) (x1:Int):OD k (d+1) 126 [i64 x1]=(bN1 x1).map i64:=by
 refine oe rfl ?_;refine bz (fF rfl) ?_;refine io rfl rfl
def F71 (x1:Int) (a:YL):aB (Int×Int):=
 (bN1 x1).bind fun d=>if d !=0 then some (0,d)else if(((decide (a.Steps<(-77)))||(decide (a.Steps>77)))||(decide (a.Semitones<(-140))))||(decide (a.Semitones>140))then some (0,2)else(aR (E:=Int) (fun(b:Int)=>if decide (b>7)then some (.inl (aW (b-12)))else some (.inr b)) bC (aW (x1+(aW ((aW (7*a.Semitones))-(aW (12*a.Steps))))))).bind fun e=>(aR (E:=Int) (fun(c:Int)=>if decide (c<(-7))then some (.inl (aW (c+12)))else some (.inr c)) bC e).bind fun f=>some (f,0)
theorem dS2 [Inhabited Rc] {k} (d) (x1:Int) (a:YL):OD k (d+2) 71 [i64 x1,.agg (YL.g a)]=(F71 x1 a).map (fun⟨h,i⟩=>.tup [i64 h,i64 i]):=by
 refine oe rfl ?_;refine bo (rG1 d x1) fun j=>?_;refine io rfl ?_;refine bz (fF rfl) ?_;refine bz (fF rfl) ?_;refine bz (fF rfl) ?_;refine io rfl ?_;refine bo (aK (S:=Int) (enc:=fun c=>(Q [(0,i64 c)] [(0,.box (YL.g a))])) (encE:=(fun(b:Int)=>(xq 0 [(0,i64 b)] [(0,.box (YL.g a))]))) (fun c=>?_) bC (aW (x1+(aW ((aW (7*a.Semitones))-(aW (12*a.Steps))))))) fun b=>?_;refine io rfl rfl;refine bo (aK (S:=Int) (enc:=fun e=>(Q [(0,i64 e)] [(0,.box (YL.g a))])) (encE:=(fun(f:Int)=>(xq 2 [(0,i64 f)] [(0,.box (YL.g a))]))) (fun e=>?_) bC b) fun f=>?_;refine io rfl rfl;rfl
def F70 (x1:Int) (g:YM) (h:YK):aB Bool:=
 (zT g).bind fun⟨m,j⟩=>((if j !=0 then some true else(zS g.Fifths (-7) 7).bind fun k=>some (!k):aB (Bool))).bind fun l=>(aR (E:=Bool) (fun(⟨a,b⟩:Bool×Int)=>if decide (b<(h.s'.Parts.length:Int))then(aT h.s'.Parts b).bind fun c=>((if h.s'.Written&&(!a)then(F71 g.Fifths c.Transpose).bind fun⟨i,d⟩=>some (d !=0)else some a:aB (Bool))).bind fun e=>some (.inl (e,(aW (b+1))))else some (.inr a)) bC (l,0)).bind fun f=>some f
theorem dT2 [Inhabited Rc] {k} (d) (x1:Int) (a:YM) (b:YK):OD k (d+5) 70 [i64 x1,.agg (YM.g a),.ip [.ip (YK.g b)]]=(F70 x1 a b).map bv:=by
 refine oe rfl ?_;refine bo (Ib d a) fun⟨o,p⟩=>?_;refine bo (e:=id) ?_ fun n=>?_;refine io rfl ?_;refine bo (oA (d+3) a.Fifths (-7) 7) fun q=>?_;rfl;refine bz lm ?_;refine bo (aK (S:=Bool×Int) (enc:=fun⟨f,c⟩=>(Q [(2,.ip [.ip (YK.g b)]),(4,.ref 0 0),(8,bv f),(28,.is 6 (I YJ.g b.s'.Parts)),(29,i64 (b.s'.Parts.length:Int)),(30,i64 c)] [(0,.box (YM.g a))])) (encE:=(fun(j:Bool)=>(xq 0 [(8,bv j)] [(0,.box (YM.g a))]))) (fun⟨f,c⟩=>?_) bC (n,0)) fun j=>?_;refine io ?_ rfl;refine bo rg fun h=>?_;refine bz (dO rfl) ?_;refine bo (e:=(fun(i:Bool)=>(nq [(2,.ip [.ip (YK.g b)]),(4,.ref 0 0),(8,bv i),(28,.is 6 (I YJ.g b.s'.Parts)),(29,i64 (b.s'.Parts.length:Int)),(30,i64 c)] [(1,.box (YJ.g h)),(0,.box (YM.g a))]))) ?_ fun i=>?_;refine io ?_ rfl;refine bo (dS2 (d+2) a.Fifths h.Transpose) fun⟨l,m⟩=>?_;rfl;rfl;rfl
def tO (x1:aA YV) (a:Y0) (g:Int):aB (aA YV):=
 (aR (E:=aA YV) (fun(⟨b,f⟩:Int×(aA YV))=>if decide (b<(a.Measures.length:Int))then(aT a.Measures b).bind fun h=>(F70 b h (YK.mk a g f)).bind fun c=>(iF c h.ID f a g).bind fun d=>some (.inl ((aW (b+1)),d))else some (.inr f)) bC (0,x1)).bind fun e=>some e
theorem bO1 [Inhabited Rc] {k} (d) (x1:aA YV) (a:Y0) (b:Int):dC (XD k (d+6)) 66 [.ref 1 0,.fn 70 [] [.ref 3 0]] [(3,.box [.ref 1 0]),(2,.lst 120 3 false (I YV.g x1)),(1,.box (ck a b (.own 2)))] 4 false=(tO x1 a b).map (fun(h:aA YV)=>((.tup [],[(3,.box [.ref 1 0]),(2,.lst 120 3 false (I YV.g h)),(1,.box (ck a b (.own 2)))],0))):=by
 rw[xd (fn:=p66) rfl];refine bz lm ?_;refine bo (aK (S:=Int×(aA YV)) (enc:=fun⟨i,e⟩=>(Q [(0,.ref 1 0),(1,.fn 70 [] [.ref 3 0]),(10,.is 22 (I YM.g a.Measures)),(11,i64 (a.Measures.length:Int)),(12,i64 i)] [(3,.box [.ref 1 0]),(2,.lst 120 3 false (I YV.g e)),(1,.box (ck a b (.own 2)))])) (encE:=(fun(c:aA YV)=>(xq 0 [] [(3,.box [.ref 1 0]),(2,.lst 120 3 false (I YV.g c)),(1,.box (ck a b (.own 2)))]))) (fun⟨i,e⟩=>?_) bC (0,x1)) fun c=>?_;refine io ?_ rfl;refine bo rg fun j=>?_;refine bo (dT2 d i j (YK.mk a b e)) fun f=>?_;refine bo (gB (d+4) f j.ID e a b) fun l=>?_;rfl;rfl
def Wl (x1:aA YV) (a:Y0) (b:Int):aB (aA YV):=
 (tO x1 a b).bind fun c=>some c
theorem rH1 [Inhabited Rc] {k} (d) (x1:aA YV) (a:Y0) (b:Int):dC (XD k (d+7)) 33 [.ref 1 0] [(2,.lst 120 3 false (I YV.g x1)),(1,.box (ck a b (.own 2)))] 3 false=(Wl x1 a b).map (fun(c:aA YV)=>((.tup [],[(2,.lst 120 3 false (I YV.g c)),(1,.box (ck a b (.own 2)))],0))):=by
 rw[xd (fn:=p33) rfl];refine bo (bO1 d x1 a b) fun e=>?_;rfl
def pA (x1 a:Int):aB Int:=
 if(decide (x1<0))||(decide (x1>a))then some 2 else some 0
theorem lV [Inhabited Rc] {k} (d) (x1 a:Int):OD k (d+1) 135 [i64 x1,i64 a]=(pA x1 a).map i64:=by
 refine oe rfl ?_;refine bz (fF rfl) ?_;refine io rfl rfl
def Ic (x1:aA Int):aB Int:=
 (aR (E:=Int⊕Unit) (fun(a:Int)=>if decide (a<(x1.length:Int))then(aT x1 a).bind fun b=>if b !=0 then some (.inr (.inl b))else some (.inl (aW (a+1)))else some (.inr (.inr ()))) bC 0).bind fun c=>(match c with|.inl x5=>some x5|.inr _=>some 0)
theorem Ie [Inhabited Rc] {k} (d) (x1:aA Int):OD k (d+1) 134 [.is 1 (I cI x1)]=(Ic x1).map i64:=by
 refine oe rfl ?_;refine bz lm ?_;refine bo (aK (S:=Int) (enc:=fun a=>(Q [(5,.is 1 (I cI x1)),(6,i64 (x1.length:Int)),(7,i64 a)] [])) (encE:=(fun|.inl b=>(rq [(2,i64 b)] [])|.inr _=>(xq 0 [] []))) (fun a=>?_) bC 0) fun c=>?_;refine io ?_ rfl;refine bo rg fun e=>?_;refine io rfl rfl;rcases c with b|_;rfl;rfl
def Wm (x1:Int):aB Bool:=
 some ((decide (x1>=1))&&(decide (x1<=4)))
theorem hJ1 [Inhabited Rc] {k} (d) (x1:Int):OD k (d+1) 136 [i64 x1]=(Wm x1).map bv:=by
 refine oe rfl ?_;refine bz (dO rfl) ?_;rfl
def bP1 (x1:Int):aB Int:=
 if decide (x1<0)then some 0 else some (Dh .i64 x1 16)
theorem rI1 [Inhabited Rc] {k} (d) (x1:Int):OD k (d+1) 187 [i64 x1]=(bP1 x1).map i64:=by
 refine oe rfl ?_;refine io rfl rfl
def bQ1 (x1:YE):aB YE:=
 ((if x1.Kind==1 then some true else(Wm x1.Kind).bind fun a=>some (!a):aB (Bool))).bind fun b=>if b then some x1 else((if x1.Kind !=3 then some x1.Value else some (YA.mk 0 0):aB (YA))).bind fun c=>((if x1.Kind !=4 then(bP1 x1.Articulations).bind fun d=>some d else some 0:aB (Int))).bind fun e=>some (YE.mk x1.ID x1.Kind c [] [] e 0 x1.Dynamic [] 0 0)
theorem rJ1 [Inhabited Rc] {k} (d) (x1:YE):OD k (d+2) 138 [.agg (YE.g x1)]=(bQ1 x1).map (fun c=>.agg (YE.g c)):=by
 refine oe rfl ?_;refine bo (e:=id) ?_ fun h=>?_;refine io rfl ?_;refine bo (hJ1 d x1.Kind) fun f=>?_;rfl;refine io rfl ?_;refine bo (e:=(fun(a:YA)=>(nq [(1,.ref 0 0),(2,.ref 1 0),(3,.ref 2 0)] [(2,.box [i64 x1.ID.Site,i64 x1.ID.Number,i64 x1.Kind,i64 a.Log,i64 a.Dots,.v (.slice none 0 0),.v (.slice none 0 0),i64 0,i64 0,i64 x1.Dynamic,.v (.slice none 0 0),i64 0,i64 0]),(1,.box [i64 0,i64 0,i64 0,i64 0,i64 0,.v (.slice none 0 0),.v (.slice none 0 0),i64 0,i64 0,i64 0,.v (.slice none 0 0),i64 0,i64 0]),(0,.box (YE.g x1))]))) ?_ fun a=>?_;refine io rfl rfl;refine bo (e:=(fun(b:Int)=>(nq [(2,.ref 1 0),(3,.ref 2 0)] [(2,.box [i64 x1.ID.Site,i64 x1.ID.Number,i64 x1.Kind,i64 a.Log,i64 a.Dots,.v (.slice none 0 0),.v (.slice none 0 0),i64 b,i64 0,i64 x1.Dynamic,.v (.slice none 0 0),i64 0,i64 0]),(1,.box [i64 0,i64 0,i64 0,i64 0,i64 0,.v (.slice none 0 0),.v (.slice none 0 0),i64 0,i64 0,i64 0,.v (.slice none 0 0),i64 0,i64 0]),(0,.box (YE.g x1))]))) ?_ fun b=>?_;refine io ?_ rfl;refine bo (rI1 d x1.Articulations) fun i=>?_;rfl;rfl
def bR1 (x1 d:aA YB):aB Bool:=
 if(x1.length:Int)!=(d.length:Int)then some false else(aR (E:=Unit⊕Unit) (fun(c:Int)=>if decide (c<(x1.length:Int))then(aT x1 c).bind fun a=>(aT d c).bind fun b=>if((a.Pitch.Step==b.Pitch.Step)&&((a.Pitch.Alter==b.Pitch.Alter)&&((a.Pitch.Octave==b.Pitch.Octave)&&((a.Tied==b.Tied)&&((a.Show==b.Show)&&true)))))!=true then some (.inr (.inl ()))else some (.inl (aW (c+1)))else some (.inr (.inr ()))) bC 0).bind fun e=>(match e with|.inl _=>some false|.inr _=>some true)
theorem rK1 [Inhabited Rc] {k} (d) (x1 a:aA YB):OD k (d+1) 184 [.is 5 (I YB.g x1),.is 5 (I YB.g a)]=(bR1 x1 a).map bv:=by
 refine oe rfl ?_;refine bz lm ?_;refine bz lm ?_;refine io rfl ?_;refine bz lm ?_;refine bo (aK (S:=Int) (enc:=fun b=>(Q [(0,.is 5 (I YB.g x1)),(1,.is 5 (I YB.g a)),(12,i64 (x1.length:Int)),(13,i64 b)] [])) (encE:=(fun|.inl _=>(rq [(4,bv false)] [])|.inr _=>(xq 0 [] []))) (fun b=>?_) bC 0) fun c=>?_;refine io ?_ rfl;refine bo rg fun e=>?_;refine bo rg fun f=>?_;refine io rfl rfl;rcases c with _|_;rfl;rfl
def bS1 (x1 d:aA YD):aB Bool:=
 if(x1.length:Int)!=(d.length:Int)then some false else(aR (E:=Unit⊕Unit) (fun(c:Int)=>if decide (c<(x1.length:Int))then(aT x1 c).bind fun a=>(aT d c).bind fun b=>if((a.Pitch.Step==b.Pitch.Step)&&((a.Pitch.Alter==b.Pitch.Alter)&&((a.Pitch.Octave==b.Pitch.Octave)&&((a.Log==b.Log)&&((a.Slash==b.Slash)&&true)))))!=true then some (.inr (.inl ()))else some (.inl (aW (c+1)))else some (.inr (.inr ()))) bC 0).bind fun e=>(match e with|.inl _=>some false|.inr _=>some true)
theorem rL1 [Inhabited Rc] {k} (d) (x1 a:aA YD):OD k (d+1) 185 [.is 5 (I YD.g x1),.is 5 (I YD.g a)]=(bS1 x1 a).map bv:=by
 refine oe rfl ?_;refine bz lm ?_;refine bz lm ?_;refine io rfl ?_;refine bz lm ?_;refine bo (aK (S:=Int) (enc:=fun b=>(Q [(0,.is 5 (I YD.g x1)),(1,.is 5 (I YD.g a)),(12,i64 (x1.length:Int)),(13,i64 b)] [])) (encE:=(fun|.inl _=>(rq [(4,bv false)] [])|.inr _=>(xq 0 [] []))) (fun b=>?_) bC 0) fun c=>?_;refine io ?_ rfl;refine bo rg fun e=>?_;refine bo rg fun f=>?_;refine io rfl rfl;rcases c with _|_;rfl;rfl
end Go.P
namespace Go.P
open Go.Sim (Ex dW CK)
open K (I Q rq nq xq ck)
def bT1 (x1 b:aA YY):aB Bool:=
 if(x1.length:Int)!=(b.length:Int)then some false else(aR (E:=Unit⊕Unit) (fun(a:Int)=>if decide (a<(x1.length:Int))then(aT x1 a).bind fun c=>(aT b a).bind fun d=>if((c.Text==d.Text)&&((c.Link==d.Link)&&true))!=true then some (.inr (.inl ()))else some (.inl (aW (a+1)))else some (.inr (.inr ()))) bC 0).bind fun e=>(match e with|.inl _=>some false|.inr _=>some true)
theorem rM1 [Inhabited Rc] {k} (d) (x1 a:aA YY):OD k (d+1) 186 [.is 2 (I YY.g x1),.is 2 (I YY.g a)]=(bT1 x1 a).map bv:=by
 refine oe rfl ?_;refine bz lm ?_;refine bz lm ?_;refine io rfl ?_;refine bz lm ?_;refine bo (aK (S:=Int) (enc:=fun b=>(Q [(0,.is 2 (I YY.g x1)),(1,.is 2 (I YY.g a)),(12,i64 (x1.length:Int)),(13,i64 b)] [])) (encE:=(fun|.inl _=>(rq [(4,bv false)] [])|.inr _=>(xq 0 [] []))) (fun b=>?_) bC 0) fun c=>?_;refine io ?_ rfl;refine bo rg fun e=>?_;refine bo rg fun f=>?_;refine io rfl rfl;rcases c with _|_;rfl;rfl
def bU1 (x1 a:YE):aB Bool:=
 ((if((((((x1.Kind==a.Kind)&&(((x1.Value.Log==a.Value.Log)&&((x1.Value.Dots==a.Value.Dots)&&true))!=false))&&(x1.Articulations==a.Articulations))&&(x1.Ornament==a.Ornament))&&(x1.Dynamic==a.Dynamic))&&(x1.Stem==a.Stem))&&(x1.Beam==a.Beam)then(bR1 x1.Heads a.Heads).bind fun b=>some b else some false:aB (Bool))).bind fun c=>((if c then(bS1 x1.Graces a.Graces).bind fun d=>some d else some false:aB (Bool))).bind fun e=>((if e then(bT1 x1.Lyrics a.Lyrics).bind fun f=>some f else some false:aB (Bool))).bind fun g=>some g
theorem rN1 [Inhabited Rc] {k} (d) (x1 a:YE):OD k (d+2) 137 [.agg (YE.g x1),.agg (YE.g a)]=(bU1 x1 a).map bv:=by
 refine oe rfl ?_;refine bz (dO rfl) ?_;refine bz (dO rfl) ?_;refine bz (dO rfl) ?_;refine bz (dO rfl) ?_;refine bz (dO rfl) ?_;refine bz (dO rfl) ?_;refine bo (e:=id) ?_ fun c=>?_;refine io ?_ rfl;refine bo (rK1 d x1.Heads a.Heads) fun b=>?_;rfl;refine bo (e:=id) ?_ fun h=>?_;refine io ?_ rfl;refine bo (rL1 d x1.Graces a.Graces) fun f=>?_;rfl;refine bo (e:=id) ?_ fun j=>?_;refine io ?_ rfl;refine bo (rM1 d x1.Lyrics a.Lyrics) fun i=>?_;rfl;rfl
def Wn (x1:YA):aB Int:=
 if(((decide (x1.Log<(-1)))||(decide (x1.Log>8)))||(decide (x1.Dots<0)))||(decide (x1.Dots>3))then some 17 else some 0
theorem hK1 [Inhabited Rc] {k} (d) (x1:YA):OD k (d+1) 139 [.agg (YA.g x1)]=(Wn x1).map i64:=by
 refine oe rfl ?_;refine bz (fF rfl) ?_;refine bz (fF rfl) ?_;refine bz (fF rfl) ?_;refine io rfl rfl
def bV1:aB yP:=
 some (yP.mk 0 2 4 5 7 9 11)
theorem rO1 [Inhabited Rc] {k} (d):OD k (d+1) 192 []=(bV1).map (fun a=>.agg (yP.g a)):=by
 refine oe rfl ?_;rfl
def Wo (x1:YH):aB Int:=
 (bV1).bind fun a=>(aT [a.c0,a.c1,a.c2,a.c3,a.c4,a.c5,a.c6] x1.Step).bind fun b=>some (aW ((aW ((aW (12*(aW (x1.Octave+1))))+b))+x1.Alter))
theorem hL1 [Inhabited Rc] {k} (d) (x1:YH):OD k (d+2) 144 [.agg (YH.g x1)]=(Wo x1).map i64:=by
 refine oe rfl ?_;refine bo (rO1 d) fun a=>?_;refine bo (qD .i64 [a.c0,a.c1,a.c2,a.c3,a.c4,a.c5,a.c6] x1.Step rfl) fun b=>?_;rfl
def bW1 (x1:YH):aB Int:=
 if(((((decide (x1.Step<0))||(decide (x1.Step>6)))||(decide (x1.Alter<(-2))))||(decide (x1.Alter>2)))||(decide (x1.Octave<(-1))))||(decide (x1.Octave>9))then some 18 else(Wo x1).bind fun a=>if(decide (a<0))||(decide (a>127))then some 18 else some 0
theorem rP1 [Inhabited Rc] {k} (d) (x1:YH):OD k (d+3) 143 [.agg (YH.g x1)]=(bW1 x1).map i64:=by
 refine oe rfl ?_;refine bz (fF rfl) ?_;refine bz (fF rfl) ?_;refine bz (fF rfl) ?_;refine bz (fF rfl) ?_;refine bz (fF rfl) ?_;refine io rfl ?_;refine bo (hL1 d x1) fun a=>?_;refine bz (fF rfl) ?_;refine io rfl rfl
def F80 (x1:YH):aB (Int×Int):=
 (bW1 x1).bind fun a=>if a !=0 then some (0,a)else(Wo x1).bind fun b=>some (b,0)
theorem kF1 [Inhabited Rc] {k} (d) (x1:YH):OD k (d+4) 80 [.agg (YH.g x1)]=(F80 x1).map (fun⟨a,b⟩=>.tup [i64 a,i64 b]):=by
 refine oe rfl ?_;refine bo (rP1 d x1) fun c=>?_;refine io rfl ?_;refine bo (hL1 (d+1) x1) fun e=>?_;rfl
def Re (x1:YH):aB (Int×Int):=
 (F80 x1).bind fun⟨a,b⟩=>if((b !=0)||(decide (a<0)))||(decide (a>127))then some (0,18)else some (a,0)
theorem Wp [Inhabited Rc] {k} (d) (x1:YH):OD k (d+5) 189 [.agg (YH.g x1)]=(Re x1).map (fun⟨a,b⟩=>.tup [i64 a,i64 b]):=by
 refine oe rfl ?_;refine bo (kF1 d x1) fun⟨c,e⟩=>?_;refine bz (fF rfl) ?_;refine bz (fF rfl) ?_;refine io rfl rfl
def bX1 (x1:YB):aB Int:=
 (Re x1.Pitch).bind fun⟨d,a⟩=>(pA x1.Show 2).bind fun b=>(Ic [a,b]).bind fun c=>some c
theorem rQ1 [Inhabited Rc] {k} (d) (x1:YB):OD k (d+6) 188 [.agg (YB.g x1)]=(bX1 x1).map i64:=by
 refine oe rfl ?_;refine bo (Wp d x1.Pitch) fun⟨c,a⟩=>?_;refine bo (lV (d+4) x1.Show 2) fun b=>?_;refine bo (Ie (d+4) [a,b]) fun e=>?_;rfl
def bY1 (x1:aA YB):aB Int:=
 if(x1.length:Int)==0 then some 4 else if decide ((x1.length:Int)>10)then some 9 else(aR (E:=Int⊕Unit) (fun(⟨g,c⟩:Int×Int)=>if decide (c<(x1.length:Int))then(aT x1 c).bind fun d=>(bX1 d).bind fun e=>if e !=0 then some (.inr (.inl e))else(Re d.Pitch).bind fun⟨a,f⟩=>if decide (a<=g)then some (.inr (.inl 25))else some (.inl (a,(aW (c+1))))else some (.inr (.inr ()))) bC ((-1),0)).bind fun b=>(match b with|.inl x12=>some x12|.inr _=>some 0)
theorem rR1 [Inhabited Rc] {k} (d) (x1:aA YB):OD k (d+7) 140 [.is 5 (I YB.g x1)]=(bY1 x1).map i64:=by
 refine oe rfl ?_;refine bz lm ?_;refine io rfl ?_;refine bz lm ?_;refine io rfl ?_;refine bz lm ?_;refine bo (aK (S:=Int×Int) (enc:=fun⟨c,e⟩=>(Q [(3,i64 c),(17,.is 5 (I YB.g x1)),(18,i64 (x1.length:Int)),(19,i64 e)] [])) (encE:=(fun|.inl a=>(rq [(2,i64 a)] [])|.inr _=>(xq 1 [] []))) (fun⟨c,e⟩=>?_) bC ((-1),0)) fun b=>?_;refine io ?_ rfl;refine bo rg fun f=>?_;refine bo (rQ1 d f) fun j=>?_;refine io rfl ?_;refine bo (Wp (d+1) f.Pitch) fun⟨h,i⟩=>?_;refine io rfl rfl;rcases b with a|_;rfl;rfl
def bZ1 (x1:aA YD):aB Int:=
 if decide ((x1.length:Int)>8)then some 9 else(aR (E:=Int⊕Unit) (fun(b:Int)=>if decide (b<(x1.length:Int))then(aT x1 b).bind fun c=>(Re c.Pitch).bind fun⟨e,d⟩=>if d !=0 then some (.inr (.inl d))else if(decide (c.Log<1))||(decide (c.Log>6))then some (.inr (.inl 2))else some (.inl (aW (b+1)))else some (.inr (.inr ()))) bC 0).bind fun a=>(match a with|.inl x9=>some x9|.inr _=>some 0)
theorem rS1 [Inhabited Rc] {k} (d) (x1:aA YD):OD k (d+6) 141 [.is 5 (I YD.g x1)]=(bZ1 x1).map i64:=by
 refine oe rfl ?_;refine bz lm ?_;refine io rfl ?_;refine bz lm ?_;refine bo (aK (S:=Int) (enc:=fun b=>(Q [(10,.is 5 (I YD.g x1)),(11,i64 (x1.length:Int)),(12,i64 b)] [])) (encE:=(fun|.inl c=>(rq [(2,i64 c)] [])|.inr _=>(xq 0 [] []))) (fun b=>?_) bC 0) fun a=>?_;refine io ?_ rfl;refine bo rg fun e=>?_;refine bo (Wp d e.Pitch) fun⟨f,h⟩=>?_;refine io rfl ?_;refine bz (fF rfl) ?_;refine io rfl rfl;rcases a with c|_;rfl;rfl
def cA1 (x1:YY):aB Int:=
 if(decide (x1.Link<0))||(decide (x1.Link>2))then some 2 else if decide ((x1.Text.size:Int)>256)then some 5 else(aR (E:=Unit⊕Unit) (fun(a:Int)=>if decide (a<(x1.Text.size:Int))then(nO x1.Text a).bind fun b=>((if decide (b<32)then some true else(nO x1.Text a).bind fun c=>some (c==127):aB (Bool))).bind fun d=>if d then some (.inr (.inl ()))else some (.inl (aW (a+1)))else some (.inr (.inr ()))) bC 0).bind fun e=>(match e with|.inl _=>some 6|.inr _=>if(x1.Text.toList==(⟨#[]⟩:ByteArray).toList)&&(x1.Link==1)then some 3 else some 0)
theorem rT1 [Inhabited Rc] {k} (d) (x1:YY):OD k (d+1) 190 [.agg (YY.g x1)]=(cA1 x1).map i64:=by
 refine oe rfl ?_;refine bz (fF rfl) ?_;refine io rfl ?_;refine io rfl ?_;refine bo (aK (S:=Int) (enc:=fun a=>(Q [(1,.ref 0 0),(20,i64 (x1.Text.size:Int)),(21,i64 a)] [(0,.box (YY.g x1))])) (encE:=(fun|.inl _=>(rq [(1,.ref 0 0),(2,i64 6)] [(0,.box (YY.g x1))])|.inr _=>(xq 1 [(1,.ref 0 0)] [(0,.box (YY.g x1))]))) (fun a=>?_) bC 0) fun b=>?_;refine io ?_ rfl;refine bo oi fun c=>?_;refine bo (e:=id) ?_ fun h=>?_;refine io rfl ?_;refine bo oi fun f=>?_;rfl;refine io rfl rfl;rcases b with _|_;rfl;refine bz (dO rfl) ?_;refine io rfl rfl
def cB1 (x1:YY):aB Bool:=
 some (((x1.Text==(⟨#[]⟩:ByteArray))&&((x1.Link==0)&&true))!=false)
theorem rU1 [Inhabited Rc] {k} (d) (x1:YY):OD k (d+1) 191 [.agg (YY.g x1)]=(cB1 x1).map bv:=by
 refine oe rfl ?_;rfl
def cC1 (x1:aA YY):aB Int:=
 if decide ((x1.length:Int)>4)then some 9 else(aR (E:=Int⊕Unit) (fun(c:Int)=>if decide (c<(x1.length:Int))then(aT x1 c).bind fun e=>(cA1 e).bind fun d=>if d !=0 then some (.inr (.inl d))else some (.inl (aW (c+1)))else some (.inr (.inr ()))) bC 0).bind fun f=>(match f with|.inl x7=>some x7|.inr _=>((if decide ((x1.length:Int)>0)then(aT x1 (aW ((x1.length:Int)-1))).bind fun g=>(cB1 g).bind fun a=>some a else some false:aB (Bool))).bind fun b=>if b then some 3 else some 0)
theorem rV1 [Inhabited Rc] {k} (d) (x1:aA YY):OD k (d+2) 142 [.is 2 (I YY.g x1)]=(cC1 x1).map i64:=by
 refine oe rfl ?_;refine bz lm ?_;refine io rfl ?_;refine bz lm ?_;refine bo (aK (S:=Int) (enc:=fun a=>(Q [(0,.is 2 (I YY.g x1)),(10,.is 2 (I YY.g x1)),(11,i64 (x1.length:Int)),(12,i64 a)] [])) (encE:=(fun|.inl b=>(rq [(0,.is 2 (I YY.g x1)),(2,i64 b)] [])|.inr _=>(xq 0 [(0,.is 2 (I YY.g x1))] []))) (fun a=>?_) bC 0) fun i=>?_;refine io ?_ rfl;refine bo rg fun h=>?_;refine bo (rT1 d h) fun l=>?_;refine io rfl rfl;rcases i with b|_;rfl;refine bz lm ?_;refine bo (e:=id) ?_ fun f=>?_;refine io ?_ rfl;refine bo rg fun j=>?_;refine bo (rU1 d j) fun c=>?_;rfl;refine io rfl rfl
def F77 (x1:YE):aB Int:=
 (pA x1.ID.Site 99).bind fun r=>(pA x1.ID.Number 1073741824).bind fun s=>(Ic [r,s]).bind fun q=>if q !=0 then some q else(Wm x1.Kind).bind fun t=>if !t then some 11 else(bQ1 x1).bind fun u=>(bU1 x1 u).bind fun v=>if !v then some 3 else((if x1.Kind !=3 then(Wn x1.Value).bind fun w=>some (w !=0)else some false:aB (Bool))).bind fun x=>if x then some 17 else if x1.Kind==1 then(bY1 x1.Heads).bind fun b=>(bZ1 x1.Graces).bind fun c=>(cC1 x1.Lyrics).bind fun d=>(Ic [b,c,d]).bind fun a=>if a !=0 then some a else(pA x1.Articulations 31).bind fun e=>(pA x1.Ornament 4).bind fun f=>(pA x1.Dynamic 9).bind fun g=>(pA x1.Stem 2).bind fun h=>(pA x1.Beam 2).bind fun i=>(Ic [e,f,g,h,i]).bind fun j=>some j else(pA x1.Articulations 31).bind fun k=>(pA x1.Ornament 4).bind fun l=>(pA x1.Dynamic 9).bind fun m=>(pA x1.Stem 2).bind fun n=>(pA x1.Beam 2).bind fun o=>(Ic [k,l,m,n,o]).bind fun p=>some p
theorem Rf [Inhabited Rc] {k} (d) (x1:YE):OD k (d+8) 77 [.agg (YE.g x1)]=(F77 x1).map i64:=by
 refine oe rfl ?_;refine bo (lV (d+6) x1.ID.Site 99) fun t=>?_;refine bo (lV (d+6) x1.ID.Number 1073741824) fun v=>?_;refine bo (Ie (d+6) [t,v]) fun x=>?_;refine io rfl ?_;refine bo (hJ1 (d+6) x1.Kind) fun y=>?_;refine io rfl ?_;refine bo (rJ1 (d+5) x1) fun w=>?_;refine bo (rN1 (d+5) x1 w) fun z=>?_;refine io rfl ?_;refine bo (e:=id) ?_ fun B=>?_;refine io ?_ rfl;refine bo (hK1 (d+6) x1.Value) fun A=>?_;rfl;refine io rfl ?_;refine io ?_ ?_;refine bo (rR1 d x1.Heads) fun a=>?_;refine bo (rS1 (d+1) x1.Graces) fun b=>?_;refine bo (rV1 (d+5) x1.Lyrics) fun c=>?_;refine bo (Ie (d+6) [a,b,c]) fun r=>?_;refine io rfl ?_;refine bo (lV (d+6) x1.Articulations 31) fun f=>?_;refine bo (lV (d+6) x1.Ornament 4) fun h=>?_;refine bo (lV (d+6) x1.Dynamic 9) fun i=>?_;refine bo (lV (d+6) x1.Stem 2) fun j=>?_;refine bo (lV (d+6) x1.Beam 2) fun l=>?_;refine bo (Ie (d+6) [f,h,i,j,l]) fun s=>?_;rfl;refine bo (lV (d+6) x1.Articulations 31) fun m=>?_;refine bo (lV (d+6) x1.Ornament 4) fun n=>?_;refine bo (lV (d+6) x1.Dynamic 9) fun o=>?_;refine bo (lV (d+6) x1.Stem 2) fun p=>?_;refine bo (lV (d+6) x1.Beam 2) fun q=>?_;refine bo (Ie (d+6) [m,n,o,p,q]) fun u=>?_;rfl
def cE1 (x1:YE):aB Bool:=
 (F77 x1).bind fun a=>some (a !=0)
theorem rW1 [Inhabited Rc] {k} (d) (x1:YE):OD k (d+9) 128 [.agg (YE.g x1)]=(cE1 x1).map bv:=by
 refine oe rfl ?_;refine bo (Rf d x1) fun a=>?_;rfl
def cF1 (x1:aA YE):aB Int:=
 (aR (E:=Int⊕Unit) (fun(a:Int)=>if decide (a<(x1.length:Int))then(aT x1 a).bind fun b=>(cE1 b).bind fun c=>if c then some (.inr (.inl a))else some (.inl (aW (a+1)))else some (.inr (.inr ()))) bC 0).bind fun d=>(match d with|.inl x7=>some x7|.inr _=>some (-1))
theorem rX1 [Inhabited Rc] {k} (d) (x1:aA YE):OD k (d+10) 183 [.is 13 (I YE.g x1),.fn 128 [] []]=(cF1 x1).map i64:=by
 refine oe rfl ?_;refine bz lm ?_;refine bo (aK (S:=Int) (enc:=fun a=>(Q [(0,.is 13 (I YE.g x1)),(1,.fn 128 [] []),(7,i64 (x1.length:Int)),(8,i64 a)] [])) (encE:=(fun|.inl b=>(rq [(4,i64 b)] [])|.inr _=>(xq 0 [] []))) (fun a=>?_) bC 0) fun e=>?_;refine io ?_ rfl;refine bo rg fun c=>?_;refine bo (rW1 d c) fun f=>?_;refine io rfl rfl;rcases e with b|_;rfl;rfl
def Wq (x1:aA YE):aB Bool:=
 (cF1 x1).bind fun a=>some (decide (a>=0))
theorem hO1 [Inhabited Rc] {k} (d) (x1:aA YE):OD k (d+11) 132 [.is 13 (I YE.g x1),.fn 128 [] []]=(Wq x1).map bv:=by
 refine oe rfl ?_;refine bo (rX1 d x1) fun a=>?_;rfl
def cG1 (x1:YO):aB Bool:=
 ((if decide ((x1.Events.length:Int)>0)then(aT x1.Events 0).bind fun a=>some (a.Kind==3)else some false:aB (Bool))).bind fun b=>some b
theorem rY1 [Inhabited Rc] {k} (d) (x1:YO):OD k (d+1) 214 [.agg (YO.g x1)]=(cG1 x1).map bv:=by
 refine oe rfl ?_;refine bz lm ?_;refine bo (e:=id) ?_ fun b=>?_;refine io ?_ rfl;refine bo rg fun a=>?_;rfl;rfl
def cH1 (x1:YA):aB Int:=
 (rZ .i64 3870720 (aW (x1.Log+1))).bind fun a=>(aR (E:=Int) (fun(⟨e,b,c⟩:Int×Int×Int)=>if decide (c<x1.Dots)then(zR .i64 e 2).bind fun d=>some (.inl (d,(aW (b+d)),(aW (c+1))))else some (.inr b)) bC (a,a,0)).bind fun f=>some f
theorem rZ1 [Inhabited Rc] {k} (d) (x1:YA):OD k (d+1) 231 [.agg (YA.g x1)]=(cH1 x1).map i64:=by
 refine oe rfl ?_;refine bo oi fun a=>?_;refine bo (aK (S:=Int×Int×Int) (enc:=fun⟨b,c,e⟩=>(Q [(3,i64 b),(4,i64 c),(11,i64 x1.Dots),(12,i64 e)] [(0,.box (YA.g x1))])) (encE:=(fun(f:Int)=>(xq 0 [(4,i64 f)] [(0,.box (YA.g x1))]))) (fun⟨b,c,e⟩=>?_) bC (a,a,0)) fun f=>?_;refine io ?_ rfl;refine bo oi fun h=>?_;rfl;rfl
def cI1 (x1:YA):aB (Int×Int):=
 (Wn x1).bind fun a=>if a !=0 then some (0,a)else(cH1 x1).bind fun b=>some (b,0)
theorem sA1 [Inhabited Rc] {k} (d) (x1:YA):OD k (d+2) 225 [.agg (YA.g x1)]=(cI1 x1).map (fun⟨a,b⟩=>.tup [i64 a,i64 b]):=by
 refine oe rfl ?_;refine bo (hK1 d x1) fun c=>?_;refine io rfl ?_;refine bo (rZ1 d x1) fun e=>?_;rfl
def cJ1 (x1:YE):aB (Int×Int):=
 (F77 x1).bind fun a=>if(a !=0)||(x1.Kind==3)then some (0,a)else(cI1 x1.Value).bind fun⟨b,c⟩=>some (b,c)
theorem sB1 [Inhabited Rc] {k} (d) (x1:YE):OD k (d+9) 221 [.agg (YE.g x1)]=(cJ1 x1).map (fun⟨a,b⟩=>.tup [i64 a,i64 b]):=by
 refine oe rfl ?_;refine bo (Rf d x1) fun c=>?_;refine bz (fF rfl) ?_;refine io rfl ?_;refine bo (sA1 (d+6) x1.Value) fun⟨e,f⟩=>?_;rfl
def Rg (x1:aA YE):aB (aA Int):=
 (uU (x1.length:Int) (x1.length:Int) 0).bind fun j=>(aR (E:=aA Int) (fun(⟨b,a⟩:Int×(aA Int))=>if decide (b<(x1.length:Int))then(aT x1 b).bind fun c=>(cJ1 c).bind fun⟨d,h⟩=>(cK a b).bind fun e=>(iZ a e (fun i=>d)).bind fun f=>some (.inl ((aW (b+1)),f))else some (.inr a)) bC (0,j)).bind fun g=>some g
theorem sC1 [Inhabited Rc] {k} (d) (x1:aA YE):OD k (d+10) 217 [.is 13 (I YE.g x1)]=(Rg x1).map (fun q=>.is 1 (I cI q)):=by
 refine oe rfl ?_;refine bz lm ?_;refine bo (jL cI _ _ 0) fun p=>?_;refine bz lm ?_;refine bo (aK (S:=Int×(aA Int)) (enc:=fun⟨i,a⟩=>(Q [(3,.own 0),(9,.is 13 (I YE.g x1)),(10,i64 (x1.length:Int)),(11,i64 i)] [(0,.lst 3 1 true (I cI a))])) (encE:=(fun(b:aA Int)=>(xq 0 [(3,.own 0)] [(0,.lst 3 1 true (I cI b))]))) (fun⟨i,a⟩=>?_) bC (0,p)) fun b=>?_;refine io ?_ rfl;refine bo rg fun e=>?_;refine bo (sB1 d e) fun⟨h,j⟩=>?_;refine bo (aY cI a _) fun l=>?_;refine bo (fE (A:=Int) (c:=cI) (m:=1) (f:=fun n=>h) (fun _=>⟨rfl,rfl⟩) (pY2 rfl) a _) fun o=>?_;rfl;rfl
def Wr (x1:Int):aB Bool:=
 some ((decide (x1>=1))&&(decide (x1<=32)))
theorem hP1 [Inhabited Rc] {k} (d) (x1:Int):OD k (d+1) 228 [i64 x1]=(Wr x1).map bv:=by
 refine oe rfl ?_;refine bz (dO rfl) ?_;rfl
def cK1 (x1 a:YU):aB Int:=
 if x1.First !=a.First then if decide (x1.First<a.First)then some (-1)else some 1 else if x1.Count !=a.Count then if decide (x1.Count>a.Count)then some (-1)else some 1 else some 0
theorem sD1 [Inhabited Rc] {k} (d) (x1 a:YU):OD k (d+1) 229 [.agg (YU.g x1),.agg (YU.g a)]=(cK1 x1 a).map i64:=by
 refine oe rfl ?_;refine io ?_ ?_;refine io rfl rfl;refine io ?_ rfl;refine io rfl rfl
def Ks (x1:YU):aB Int:=
 some (aW (x1.First+x1.Count))
theorem Nv [Inhabited Rc] {k} (d) (x1:YU):OD k (d+1) 227 [.agg (YU.g x1)]=(Ks x1).map i64:=by
 refine oe rfl ?_;rfl
def Nw (x1:YU) (n:aA YU):aB (Bool×(aA YU)):=
 (aR (E:=aA YU) (fun(b:aA YU)=>((if decide ((b.length:Int)>0)then(cK b (aW ((b.length:Int)-1))).bind fun o=>(dG b o).bind fun c=>(Ks c).bind fun d=>some (decide (d<=x1.First))else some false:aB (Bool))).bind fun e=>if e then(yM b (aW ((b.length:Int)-1))).bind fun f=>some (.inl f)else some (.inr b)) bC n).bind fun a=>((if(a.length:Int)==3 then some true else((if decide ((a.length:Int)>0)then(Ks x1).bind fun g=>(cK a (aW ((a.length:Int)-1))).bind fun h=>(dG a h).bind fun i=>(Ks i).bind fun j=>some (decide (g>j))else some false:aB (Bool))).bind fun k=>some k:aB (Bool))).bind fun l=>if l then some (false,a)else(jA true a [x1]).bind fun m=>some (true,m)
theorem kG1 [Inhabited Rc] {k} (d) (x1:YU) (i:aA YU):dC (XD k (d+2)) 226 [.agg (YU.g x1),.ref 0 0] [(1,.lst 291 4 true (I YU.g i)),(0,.box [.own 1])] 2 false=(Nw x1 i).map (fun(⟨j,l⟩:Bool×(aA YU))=>((bv j,[(1,.lst 291 4 true (I YU.g l)),(0,.box [.own 1])],0))):=by
 rw[xd (fn:=qH1) rfl];refine bo (aK (S:=aA YU) (enc:=fun h=>(Q [(1,.ref 0 0),(2,.ref 2 0)] [(2,.box (YU.g x1)),(1,.lst 291 4 true (I YU.g h)),(0,.box [.own 1])])) (encE:=(fun(b:aA YU)=>(xq 0 [(1,.ref 0 0),(2,.ref 2 0)] [(2,.box (YU.g x1)),(1,.lst 291 4 true (I YU.g b)),(0,.box [.own 1])]))) (fun h=>?_) bC i) fun b=>?_;refine bz (cQ YU.g h) ?_;refine bo (e:=id) ?_ fun o=>?_;refine io ?_ rfl;refine bz (cQ YU.g h) ?_;refine bo (aY YU.g h _) fun w=>?_;refine bo (bZ (A:=YU) (c:=YU.g) (m:=4) (g:=fun a=>[i64 a.First,i64 a.Count,i64 a.Actual,i64 a.Normal]) (fun _=>⟨rfl,rfl⟩) (pY2 rfl) h _) fun a=>?_;refine bo (Nv d a) fun n=>?_;rfl;refine io ?_ rfl;refine bz (cQ YU.g h) ?_;refine bo (zQ YU.g h (aW ((h.length:Int)-1))) fun p=>?_;rfl;refine bz (cQ YU.g b) ?_;refine bo (e:=id) ?_ fun u=>?_;refine io rfl ?_;refine bo (e:=id) ?_ fun t=>?_;refine io ?_ rfl;refine bo (Nv d x1) fun q=>?_;refine bo (aY YU.g b _) fun r=>?_;refine bo (bZ (A:=YU) (c:=YU.g) (m:=4) (g:=fun f=>[i64 f.First,i64 f.Count,i64 f.Actual,i64 f.Normal]) (fun _=>⟨rfl,rfl⟩) (pY2 rfl) b _) fun f=>?_;refine bo (Nv d f) fun s=>?_;rfl;rfl;refine io rfl ?_;refine bo (bX true YU.g b [x1]) fun v=>?_;rfl
def cL1 (x1:aA YU) (e:Int):aB Int:=
 if(decide (e<0))||(decide (e>128))then some 2 else if decide ((x1.length:Int)>16)then some 9 else(aR (E:=(Int×(aA YU))⊕(aA YU)) (fun(⟨b,c⟩:Int×(aA YU))=>if decide (b<(x1.length:Int))then(aT x1 b).bind fun a=>((if(((decide (a.Count<1))||(decide (a.Count>e)))||(decide (a.First<0)))||(decide (a.First>(aW (e-a.Count))))then some true else(Wr a.Actual).bind fun f=>some (!f):aB (Bool))).bind fun g=>((if g then some true else(Wr a.Normal).bind fun h=>some (!h):aB (Bool))).bind fun i=>if i||(a.Actual==a.Normal)then some (.inr (.inl (2,c)))else((if decide (b>0)then(aT x1 (aW (b-1))).bind fun j=>(cK1 j a).bind fun k=>some (decide (k>0))else some false:aB (Bool))).bind fun l=>if l then some (.inr (.inl (25,c)))else(Nw a c).bind fun⟨m,d⟩=>if !m then some (.inr (.inl (21,d)))else some (.inl ((aW (b+1)),d))else some (.inr (.inr c))) bC (0,[])).bind fun n=>(match n with|.inl ⟨x25,x26⟩=>some x25|.inr x27=>some 0)
theorem sE1 [Inhabited Rc] {k} (d) (x1:aA YU) (i:Int):OD k (d+3) 222 [.is 4 (I YU.g x1),i64 i]=(cL1 x1 i).map i64:=by
 refine oe rfl ?_;refine bz (fF rfl) ?_;refine io rfl ?_;refine bz lm ?_;refine io rfl ?_;refine bz lm ?_;refine bo (aK (S:=Int×(aA YU)) (enc:=fun⟨c,b⟩=>(Q [(0,.is 4 (I YU.g x1)),(1,i64 i),(6,.fn 226 [] [.ref 0 0]),(19,.is 4 (I YU.g x1)),(20,i64 (x1.length:Int)),(21,i64 c)] [(1,.lst 291 4 true (I YU.g b)),(0,.box [.own 1])])) (encE:=(fun|.inl ⟨f,h⟩=>(rq [(4,i64 f)] [(1,.lst 291 4 true (I YU.g h)),(0,.box [.own 1])])|.inr x27=>(xq 0 [] [(1,.lst 291 4 true (I YU.g x27)),(0,.box [.own 1])]))) (fun⟨c,b⟩=>?_) bC (0,[])) fun l=>?_;refine io ?_ rfl;refine bo rg fun a=>?_;refine bz (fF rfl) ?_;refine bz (fF rfl) ?_;refine bz (fF rfl) ?_;refine bo (e:=id) ?_ fun n=>?_;refine io rfl ?_;refine bo (hP1 (d+1) a.Actual) fun m=>?_;rfl;refine bo (e:=id) ?_ fun p=>?_;refine io rfl ?_;refine bo (hP1 (d+1) a.Normal) fun o=>?_;rfl;refine bz (fF rfl) ?_;refine io rfl ?_;refine bo (e:=id) ?_ fun r=>?_;refine io ?_ rfl;refine bo rg fun j=>?_;refine bo (sD1 (d+1) j a) fun q=>?_;rfl;refine io rfl ?_;refine bo (kG1 d a b) fun⟨s,t⟩=>?_;refine io rfl rfl;rcases l with⟨f,h⟩|x27;rfl;rfl
def cM1 (x1:YU) (a:Int):aB Bool:=
 some ((decide (a>=x1.First))&&(decide ((aW (a-x1.First))<x1.Count)))
theorem sF1 [Inhabited Rc] {k} (d) (x1:YU) (a:Int):OD k (d+1) 232 [.agg (YU.g x1),i64 a]=(cM1 x1 a).map bv:=by
 refine oe rfl ?_;refine bz (dO rfl) ?_;rfl
def cN1 (x1 c:Int):aB Int:=
 (aR (E:=Int) (fun(⟨b,a⟩:Int×Int)=>if decide (a>0)then(Vw .i64 b a).bind fun d=>some (.inl (a,d))else some (.inr b)) bC (x1,c)).bind fun e=>some e
theorem sG1 [Inhabited Rc] {k} (d) (x1 a:Int):OD k (d+1) 233 [i64 x1,i64 a]=(cN1 x1 a).map i64:=by
 refine oe rfl ?_;refine bo (aK (S:=Int×Int) (enc:=fun⟨b,c⟩=>(Q [(0,i64 b),(1,i64 c)] [])) (encE:=(fun(e:Int)=>(xq 0 [(0,i64 e)] []))) (fun⟨b,c⟩=>?_) bC (x1,a)) fun e=>?_;refine io ?_ rfl;refine bo oi fun f=>?_;rfl;rfl
def Rh (x1:aA YU) (m:Int):aB (Int×Int):=
 (aR (E:=Int×Int) (fun(⟨b,c,d⟩:Int×Int×Int)=>if decide (d<(x1.length:Int))then(aT x1 d).bind fun a=>(cM1 a m).bind fun f=>((if f then(cN1 (aW (b*a.Normal)) (aW (c*a.Actual))).bind fun e=>(zR .i64 (aW (b*a.Normal)) e).bind fun g=>(zR .i64 (aW (c*a.Actual)) e).bind fun h=>some (g,h)else some (b,c):aB (Int×Int))).bind fun⟨i,j⟩=>some (.inl (i,j,(aW (d+1))))else some (.inr (b,c))) bC (1,1,0)).bind fun⟨k,l⟩=>some (k,l)
theorem sH1 [Inhabited Rc] {k} (d) (x1:aA YU) (j:Int):OD k (d+2) 230 [.is 4 (I YU.g x1),i64 j]=(Rh x1 j).map (fun⟨r,s⟩=>.tup [i64 r,i64 s]):=by
 refine oe rfl ?_;refine bz lm ?_;refine bo (aK (S:=Int×Int×Int) (enc:=fun⟨b,c,f⟩=>(Q [(1,i64 j),(4,i64 b),(5,i64 c),(9,.is 4 (I YU.g x1)),(10,i64 (x1.length:Int)),(11,i64 f)] [])) (encE:=(fun(⟨l,m⟩:Int×Int)=>(xq 0 [(4,i64 l),(5,i64 m)] []))) (fun⟨b,c,f⟩=>?_) bC (1,1,0)) fun⟨l,m⟩=>?_;refine io ?_ rfl;refine bo rg fun a=>?_;refine bo (sF1 d a j) fun n=>?_;refine bo (e:=(fun(⟨h,i⟩:Int×Int)=>(nq [(1,i64 j),(4,i64 h),(5,i64 i),(9,.is 4 (I YU.g x1)),(10,i64 (x1.length:Int)),(11,i64 f)] [(0,.box (YU.g a))]))) ?_ fun⟨h,i⟩=>?_;refine io ?_ rfl;refine bo (sG1 d (aW (b*a.Normal)) (aW (c*a.Actual))) fun o=>?_;refine bo oi fun p=>?_;refine bo oi fun q=>?_;rfl;rfl;rfl
def Kt (x1:aA YU) (d a:Int):aB (Int×Int):=
 if(decide (a<0))||(decide (a>7741440))then some (0,2)else(Rh x1 d).bind fun⟨b,c⟩=>(Vw .i64 (aW (a*b)) c).bind fun e=>if e !=0 then some (0,16)else(zR .i64 (aW (a*b)) c).bind fun f=>some (f,0)
theorem hQ1 [Inhabited Rc] {k} (d) (x1:aA YU) (a b:Int):OD k (d+3) 223 [.is 4 (I YU.g x1),i64 a,i64 b]=(Kt x1 a b).map (fun⟨c,e⟩=>.tup [i64 c,i64 e]):=by
 refine oe rfl ?_;refine bz (fF rfl) ?_;refine io rfl ?_;refine bo (sH1 d x1 a) fun⟨f,h⟩=>?_;refine bo oi fun i=>?_;refine io rfl ?_;refine bo oi fun j=>?_;rfl
def Ku (x1:aA YU) (c:aA Int):aB ((aA Int)×Int):=
 (cL1 x1 (c.length:Int)).bind fun i=>if i !=0 then some ([],i)else(uU 0 (c.length:Int) 0).bind fun j=>(aR (E:=(Int×(aA Int))⊕(aA Int)) (fun(⟨d,a⟩:Int×(aA Int))=>if decide (d<(c.length:Int))then(aT c d).bind fun e=>(Kt x1 d e).bind fun⟨f,b⟩=>if b !=0 then some (.inr (.inl (b,a)))else(jA true a [f]).bind fun g=>some (.inl ((aW (d+1)),g))else some (.inr (.inr a))) bC (0,j)).bind fun h=>(match h with|.inl ⟨x15,x16⟩=>some ([],x15)|.inr x17=>some (x17,0))
theorem hR1 [Inhabited Rc] {k} (d) (x1:aA YU) (e:aA Int):OD k (d+4) 218 [.is 4 (I YU.g x1),.is 1 (I cI e)]=(Ku x1 e).map (fun⟨o,p⟩=>.tup [.is 1 (I cI o),i64 p]):=by
 refine oe rfl ?_;refine bz lm ?_;refine bo (sE1 d x1 (e.length:Int)) fun q=>?_;refine io rfl ?_;refine bz lm ?_;refine bo (jL cI _ _ 0) fun n=>?_;refine bz lm ?_;refine bo (aK (S:=Int×(aA Int)) (enc:=fun⟨j,a⟩=>(Q [(0,.is 4 (I YU.g x1)),(7,.own 0),(22,.is 1 (I cI e)),(23,i64 (e.length:Int)),(24,i64 j)] [(0,.lst 3 1 true (I cI a))])) (encE:=(fun|.inl ⟨b,c⟩=>(rq [(4,.is 1 (I cI [])),(5,i64 b),(7,.own 0)] [(0,.lst 3 1 true (I cI c))])|.inr x17=>(xq 0 [(7,.own 0)] [(0,.lst 3 1 true (I cI x17))]))) (fun⟨j,a⟩=>?_) bC (0,n)) fun i=>?_;refine io ?_ rfl;refine bo rg fun f=>?_;refine bo (hQ1 d x1 j f) fun⟨h,l⟩=>?_;refine io rfl ?_;refine bo (bX true cI a [h]) fun m=>?_;rfl;rcases i with⟨b,c⟩|x17;rfl;rfl
def cO1 (x1:aA YU) (m:Int) (n:aA Int):aB (Int×Bool):=
 (aT x1 m).bind fun l=>(aR (E:=Int⊕Int) (fun(⟨c,a⟩:Int×Int)=>(Ks l).bind fun d=>if decide (a<d)then(qC x1 (aW (m+1)) ((x1).length)).bind fun e=>(aT n a).bind fun f=>(Kt e a f).bind fun⟨g,h⟩=>if h !=0 then some (.inr (.inl c))else some (.inl ((aW (c+g)),(aW (a+1))))else some (.inr (.inr c))) bC (0,l.First)).bind fun i=>(match i with|.inl x17=>some (0,false)|.inr x18=>(aR (E:=Int⊕Unit) (fun(b:Int)=>if decide (b<=8)then(rZ .i64 3870720 (aW (b+1))).bind fun j=>if x18==(aW (l.Actual*j))then some (.inr (.inl b))else some (.inl (aW (b+1)))else some (.inr (.inr ()))) bC (-1)).bind fun k=>(match k with|.inl x23=>some (x23,true)|.inr _=>some (0,false)))
theorem sI1 [Inhabited Rc] {k} (d) (x1:aA YU) (m:Int) (o:aA Int):OD k (d+4) 224 [.is 4 (I YU.g x1),i64 m,.is 1 (I cI o)]=(cO1 x1 m o).map (fun⟨t,u⟩=>.tup [i64 t,bv u]):=by
 refine oe rfl ?_;refine bo rg fun a=>?_;refine bo (aK (S:=Int×Int) (enc:=fun⟨c,b⟩=>(Q [(0,.is 4 (I YU.g x1)),(1,i64 m),(2,.is 1 (I cI o)),(8,.ref 0 0),(9,i64 c),(10,i64 b)] [(0,.box (YU.g a))])) (encE:=(fun|.inl e=>(rq [(6,i64 0),(7,bv false),(8,.ref 0 0),(9,i64 e)] [(0,.box (YU.g a))])|.inr x18=>(xq 0 [(8,.ref 0 0),(9,i64 x18)] [(0,.box (YU.g a))]))) (fun⟨c,b⟩=>?_) bC (0,a.First)) fun l=>?_;refine bo (Nv (d+2) a) fun p=>?_;refine io ?_ rfl;refine bo (zP _ _ _) fun i=>?_;refine bo rg fun j=>?_;refine bo (hQ1 d i b j) fun⟨q,r⟩=>?_;refine io rfl rfl;rcases l with e|x18;rfl;refine bo (aK (S:=Int) (enc:=fun f=>(Q [(8,.ref 0 0),(9,i64 x18),(13,i64 f)] [(0,.box (YU.g a))])) (encE:=(fun|.inl h=>(rq [(6,i64 h),(7,bv true)] [(0,.box (YU.g a))])|.inr _=>(xq 2 [] [(0,.box (YU.g a))]))) (fun f=>?_) bC (-1)) fun n=>?_;refine io ?_ rfl;refine bo oi fun s=>?_;refine io rfl rfl;rcases n with h|_;rfl;rfl
def cP1 (x1:aA YU) (g:aA Int):aB ((aA Int)×Int):=
 (Ku x1 g).bind fun⟨j,h⟩=>if h !=0 then some ([],h)else(uU 0 (x1.length:Int) 0).bind fun i=>(aR (E:=(aA Int)⊕(aA Int)) (fun(⟨f,a⟩:Int×(aA Int))=>if decide (f<(x1.length:Int))then(cO1 x1 f g).bind fun⟨b,c⟩=>if !c then some (.inr (.inl a))else(jA true a [b]).bind fun d=>some (.inl ((aW (f+1)),d))else some (.inr (.inr a))) bC (0,i)).bind fun e=>(match e with|.inl x14=>some ([],21)|.inr x15=>some (x15,0))
theorem sJ1 [Inhabited Rc] {k} (d) (x1:aA YU) (c:aA Int):OD k (d+5) 219 [.is 4 (I YU.g x1),.is 1 (I cI c)]=(cP1 x1 c).map (fun⟨m,n⟩=>.tup [.is 1 (I cI m),i64 n]):=by
 refine oe rfl ?_;refine bo (hR1 d x1 c) fun⟨o,p⟩=>?_;refine io rfl ?_;refine bz lm ?_;refine bo (jL cI _ _ 0) fun l=>?_;refine bz lm ?_;refine bo (aK (S:=Int×(aA Int)) (enc:=fun⟨h,a⟩=>(Q [(0,.is 4 (I YU.g x1)),(1,.is 1 (I cI c)),(8,.own 0),(25,i64 (x1.length:Int)),(26,i64 h)] [(0,.lst 3 1 true (I cI a))])) (encE:=(fun|.inl b=>(rq [(4,.is 1 (I cI [])),(5,i64 21),(8,.own 0)] [(0,.lst 3 1 true (I cI b))])|.inr x15=>(xq 0 [(8,.own 0)] [(0,.lst 3 1 true (I cI x15))]))) (fun⟨h,a⟩=>?_) bC (0,l)) fun f=>?_;refine io ?_ rfl;refine bo (sI1 d x1 h c) fun⟨e,i⟩=>?_;refine io rfl ?_;refine bo (bX true cI a [e]) fun j=>?_;rfl;rcases f with b|x15;rfl;rfl
def Ri (x1:YO):aB ((aA Int)×Int):=
 (aR (E:=Int⊕Unit) (fun(b:Int)=>if decide (b<(x1.Events.length:Int))then(aT x1.Events b).bind fun e=>(F77 e).bind fun f=>if f !=0 then some (.inr (.inl f))else if(e.Kind==3)&&((decide (b>0))||(decide ((x1.Events.length:Int)>1)))then some (.inr (.inl 11))else some (.inl (aW (b+1)))else some (.inr (.inr ()))) bC 0).bind fun i=>(match i with|.inl x7=>some ([],x7)|.inr _=>(Rg x1.Events).bind fun g=>(Ku x1.Tuplets g).bind fun⟨c,a⟩=>if a !=0 then some ([],a)else(cP1 x1.Tuplets g).bind fun⟨h,d⟩=>if d !=0 then some ([],21)else some (c,0))
theorem sK1 [Inhabited Rc] {k} (d) (x1:YO):OD k (d+11) 215 [.agg (YO.g x1)]=(Ri x1).map (fun⟨m,n⟩=>.tup [.is 1 (I cI m),i64 n]):=by
 refine oe rfl ?_;refine bz lm ?_;refine bo (aK (S:=Int) (enc:=fun a=>(Q [(1,.ref 0 0),(13,.is 13 (I YE.g x1.Events)),(14,i64 (x1.Events.length:Int)),(15,i64 a)] [(0,.box (YO.g x1))])) (encE:=(fun|.inl b=>(rq [(1,.ref 0 0),(2,.is 1 (I cI [])),(3,i64 b)] [(0,.box (YO.g x1))])|.inr _=>(xq 0 [(1,.ref 0 0)] [(0,.box (YO.g x1))]))) (fun a=>?_) bC 0) fun l=>?_;refine io ?_ rfl;refine bo rg fun j=>?_;refine bo (Rf (d+2) j) fun o=>?_;refine io rfl ?_;refine bz (dO (bz (fF (bz lm rfl)) rfl)) ?_;refine io rfl rfl;rcases l with b|_;rfl;refine bo (sC1 d x1.Events) fun c=>?_;refine bo (hR1 (d+6) x1.Tuplets c) fun⟨e,f⟩=>?_;refine io rfl ?_;refine bo (sJ1 (d+5) x1.Tuplets c) fun⟨h,i⟩=>?_;refine io rfl rfl
def Rj (x1:YO) (a:Int):aB ((aA Int)×Int):=
 if(decide (a<1))||(decide (a>15482880))then some ([],2)else if decide ((x1.Events.length:Int)>128)then some ([],9)else(cG1 x1).bind fun c=>if c&&((x1.Events.length:Int)==1)then(aT x1.Events 0).bind fun d=>(F77 d).bind fun b=>if b !=0 then some ([],b)else if decide ((x1.Tuplets.length:Int)>0)then some ([],21)else some ([a],0)else(Ri x1).bind fun⟨e,f⟩=>some (e,f)
theorem sL1 [Inhabited Rc] {k} (d) (x1:YO) (a:Int):OD k (d+12) 205 [.agg (YO.g x1),i64 a]=(Rj x1 a).map (fun⟨c,e⟩=>.tup [.is 1 (I cI c),i64 e]):=by
 refine oe rfl ?_;refine bz (fF rfl) ?_;refine io rfl ?_;refine bz lm ?_;refine io rfl ?_;refine bo (rY1 (d+10) x1) fun f=>?_;refine bz (dO (bz lm rfl)) ?_;refine io ?_ ?_;refine bo rg fun b=>?_;refine bo (Rf (d+3) b) fun h=>?_;refine io rfl ?_;refine bz lm ?_;refine io rfl rfl;refine bo (sK1 d x1) fun⟨i,j⟩=>?_;rfl
def Rk (x1:aA Int):aB Int:=
 (aR (E:=Int) (fun(⟨b,a⟩:Int×Int)=>if decide (a<(x1.length:Int))then(aT x1 a).bind fun c=>some (.inl ((aW (b+c)),(aW (a+1))))else some (.inr b)) bC (0,0)).bind fun d=>some d
theorem sM1 [Inhabited Rc] {k} (d) (x1:aA Int):OD k (d+1) 206 [.is 1 (I cI x1)]=(Rk x1).map i64:=by
 refine oe rfl ?_;refine bz lm ?_;refine bo (aK (S:=Int×Int) (enc:=fun⟨a,b⟩=>(Q [(3,i64 a),(6,.is 1 (I cI x1)),(7,i64 (x1.length:Int)),(8,i64 b)] [])) (encE:=(fun(c:Int)=>(xq 0 [(3,i64 c)] []))) (fun⟨a,b⟩=>?_) bC (0,0)) fun c=>?_;refine io ?_ rfl;refine bo rg fun e=>?_;rfl;rfl
def Kv (x1:YO) (b:Int):aB ((aA Int)×Int):=
 (Rj x1 b).bind fun⟨a,c⟩=>((if(c==0)&&(decide ((a.length:Int)>0))then(Rk a).bind fun e=>some (e !=b)else some false:aB (Bool))).bind fun f=>((if f then some 20 else some c:aB (Int))).bind fun d=>if d !=0 then some ([],d)else some (a,0)
theorem hS1 [Inhabited Rc] {k} (d) (x1:YO) (a:Int):OD k (d+13) 168 [.agg (YO.g x1),i64 a]=(Kv x1 a).map (fun⟨f,h⟩=>.tup [.is 1 (I cI f),i64 h]):=by
 refine oe rfl ?_;refine bo (sL1 d x1 a) fun⟨b,i⟩=>?_;refine bz (dO (bz lm rfl)) ?_;refine bo (e:=id) ?_ fun l=>?_;refine io ?_ rfl;refine bo (sM1 (d+11) b) fun j=>?_;rfl;refine bo (e:=(fun(c:Int)=>(nq [(6,.is 1 (I cI b)),(7,i64 c)] [(0,.box (YO.g x1))]))) ?_ fun c=>?_;refine io rfl rfl;refine io rfl rfl
def Ws (x1:YO) (a:Int):aB Int:=
 (Kv x1 a).bind fun⟨c,b⟩=>some b
theorem hT1 [Inhabited Rc] {k} (d) (x1:YO) (a:Int):OD k (d+14) 133 [.agg (YO.g x1),i64 a]=(Ws x1 a).map i64:=by
 refine oe rfl ?_;refine bo (hS1 d x1 a) fun⟨b,c⟩=>?_;rfl
def F73 (x1:Int):aB Bool:=
 some ((x1==11)||(x1==20))
theorem sO1 [Inhabited Rc] {k} (d) (x1:Int):OD k (d+1) 73 [i64 x1]=(F73 x1).map bv:=by
 refine oe rfl ?_;refine bz (fF rfl) ?_;rfl
def cQ1 (x1:YO) (a:Int):aB Bool:=
 (Wq x1.Events).bind fun b=>((if !b then(Ws x1 a).bind fun c=>(F73 c).bind fun d=>some d else some false:aB (Bool))).bind fun e=>some e
theorem sP1 [Inhabited Rc] {k} (d) (x1:YO) (a:Int):OD k (d+15) 131 [.agg (YO.g x1),.ip [.fn 128 [] []],.ip [.fn 73 [] []],.ip [i64 a]]=(cQ1 x1 a).map bv:=by
 refine oe rfl ?_;refine bo (hO1 (d+3) x1.Events) fun c=>?_;refine bo (e:=id) ?_ fun h=>?_;refine io ?_ rfl;refine bo (hT1 d x1 a) fun b=>?_;refine bo (sO1 (d+13) b) fun f=>?_;rfl;rfl
def cR1 (x1:aA YO) (b:Int):aB Int:=
 (aR (E:=Int⊕Unit) (fun(a:Int)=>if decide (a<(x1.length:Int))then(aT x1 a).bind fun c=>(cQ1 c b).bind fun d=>if d then some (.inr (.inl a))else some (.inl (aW (a+1)))else some (.inr (.inr ()))) bC 0).bind fun e=>(match e with|.inl x8=>some x8|.inr _=>some (-1))
theorem sQ1 [Inhabited Rc] {k} (d) (x1:aA YO) (a:Int):OD k (d+16) 182 [.is 2 (I YO.g x1),.fn 131 [] [.ip [.fn 128 [] []],.ip [.fn 73 [] []],.ip [i64 a]]]=(cR1 x1 a).map i64:=by
 refine oe rfl ?_;refine bz lm ?_;refine bo (aK (S:=Int) (enc:=fun b=>(Q [(0,.is 2 (I YO.g x1)),(1,.fn 131 [] [.ip [.fn 128 [] []],.ip [.fn 73 [] []],.ip [i64 a]]),(7,i64 (x1.length:Int)),(8,i64 b)] [])) (encE:=(fun|.inl c=>(rq [(4,i64 c)] [])|.inr _=>(xq 0 [] []))) (fun b=>?_) bC 0) fun f=>?_;refine io ?_ rfl;refine bo rg fun e=>?_;refine bo (sP1 d e a) fun h=>?_;refine io rfl rfl;rcases f with c|_;rfl;rfl
def cS1 (x1:aA YO) (a:Int):aB Bool:=
 (cR1 x1 a).bind fun b=>some (decide (b>=0))
theorem sR1 [Inhabited Rc] {k} (d) (x1:aA YO) (a:Int):OD k (d+17) 130 [.is 2 (I YO.g x1),.fn 131 [] [.ip [.fn 128 [] []],.ip [.fn 73 [] []],.ip [i64 a]]]=(cS1 x1 a).map bv:=by
 refine oe rfl ?_;refine bo (sQ1 d x1 a) fun b=>?_;rfl
def cT1 (x1:YW) (a:Int):aB Bool:=
 (cS1 x1.Voices a).bind fun b=>some b
theorem sS1 [Inhabited Rc] {k} (d) (x1:YW) (a:Int):OD k (d+18) 129 [.agg (YW.g x1),.ip [.fn 128 [] []],.ip [.fn 73 [] []],.ip [i64 a]]=(cT1 x1 a).map bv:=by
 refine oe rfl ?_;refine bo (sR1 d x1.Voices a) fun b=>?_;rfl
def cU1 (x1:aA YW) (b:Int):aB Int:=
 (aR (E:=Int⊕Unit) (fun(a:Int)=>if decide (a<(x1.length:Int))then(aT x1 a).bind fun c=>(cT1 c b).bind fun d=>if d then some (.inr (.inl a))else some (.inl (aW (a+1)))else some (.inr (.inr ()))) bC 0).bind fun e=>(match e with|.inl x8=>some x8|.inr _=>some (-1))
theorem sT1 [Inhabited Rc] {k} (d) (x1:aA YW) (a:Int):OD k (d+19) 179 [.is 2 (I YW.g x1),.fn 129 [] [.ip [.fn 128 [] []],.ip [.fn 73 [] []],.ip [i64 a]]]=(cU1 x1 a).map i64:=by
 refine oe rfl ?_;refine bz lm ?_;refine bo (aK (S:=Int) (enc:=fun b=>(Q [(0,.is 2 (I YW.g x1)),(1,.fn 129 [] [.ip [.fn 128 [] []],.ip [.fn 73 [] []],.ip [i64 a]]),(7,i64 (x1.length:Int)),(8,i64 b)] [])) (encE:=(fun|.inl c=>(rq [(4,i64 c)] [])|.inr _=>(xq 0 [] []))) (fun b=>?_) bC 0) fun f=>?_;refine io ?_ rfl;refine bo rg fun e=>?_;refine bo (sS1 d e a) fun h=>?_;refine io rfl rfl;rcases f with c|_;rfl;rfl
def cV1 (x1:aA YW) (a:Int):aB Bool:=
 (cU1 x1 a).bind fun b=>some (decide (b>=0))
theorem sU1 [Inhabited Rc] {k} (d) (x1:aA YW) (a:Int):OD k (d+20) 121 [.is 2 (I YW.g x1),.fn 129 [] [.ip [.fn 128 [] []],.ip [.fn 73 [] []],.ip [i64 a]]]=(cV1 x1 a).map bv:=by
 refine oe rfl ?_;refine bo (sT1 d x1 a) fun b=>?_;rfl
def cW1 (x1:Int) (a:YM):aB Bool:=
 (zT a).bind fun⟨b,c⟩=>if c !=0 then some false else(cV1 a.Cells b).bind fun d=>some d
theorem sV1 [Inhabited Rc] {k} (d) (x1:Int) (a:YM):OD k (d+21) 127 [i64 x1,.agg (YM.g a),.ip [.fn 73 [] []]]=(cW1 x1 a).map bv:=by
 refine oe rfl ?_;refine bo (Ib (d+16) a) fun⟨b,c⟩=>?_;refine io rfl ?_;refine bo (sU1 d a.Cells b) fun e=>?_;rfl
def Dl (x1:aA YV) (e:Y0) (h:Int):aB (aA YV):=
 (aR (E:=aA YV) (fun(⟨a,f⟩:Int×(aA YV))=>if decide (a<(e.Measures.length:Int))then(aT e.Measures a).bind fun g=>(cW1 a g).bind fun b=>(iF b g.ID f e h).bind fun c=>some (.inl ((aW (a+1)),c))else some (.inr f)) bC (0,x1)).bind fun d=>some d
theorem cX1 [Inhabited Rc] {k} (d) (x1:aA YV) (a:Y0) (b:Int):dC (XD k (d+22)) 66 [.ref 1 0,.fn 127 [] [.ref 3 0]] [(3,.box [.fn 73 [] []]),(2,.lst 120 3 false (I YV.g x1)),(1,.box (ck a b (.own 2)))] 4 false=(Dl x1 a b).map (fun(f:aA YV)=>((.tup [],[(3,.box [.fn 73 [] []]),(2,.lst 120 3 false (I YV.g f)),(1,.box (ck a b (.own 2)))],0))):=by
 rw[xd (fn:=p66) rfl];refine bz lm ?_;refine bo (aK (S:=Int×(aA YV)) (enc:=fun⟨h,i⟩=>(Q [(0,.ref 1 0),(1,.fn 127 [] [.ref 3 0]),(10,.is 22 (I YM.g a.Measures)),(11,i64 (a.Measures.length:Int)),(12,i64 h)] [(3,.box [.fn 73 [] []]),(2,.lst 120 3 false (I YV.g i)),(1,.box (ck a b (.own 2)))])) (encE:=(fun(c:aA YV)=>(xq 0 [] [(3,.box [.fn 73 [] []]),(2,.lst 120 3 false (I YV.g c)),(1,.box (ck a b (.own 2)))]))) (fun⟨h,i⟩=>?_) bC (0,x1)) fun c=>?_;refine io ?_ rfl;refine bo rg fun j=>?_;refine bo (sV1 d h j) fun e=>?_;refine bo (gB (d+20) e j.ID i a b) fun l=>?_;rfl;rfl
def cY1 (x1:aA YV) (a:Y0) (b:Int):aB (aA YV):=
 (Dl x1 a b).bind fun c=>some c
theorem sW1 [Inhabited Rc] {k} (d) (x1:aA YV) (a:Y0) (b:Int):dC (XD k (d+23)) 72 [.ref 1 0,.fn 73 [] []] [(2,.lst 120 3 false (I YV.g x1)),(1,.box (ck a b (.own 2)))] 3 false=(cY1 x1 a b).map (fun(c:aA YV)=>((.tup [],[(2,.lst 120 3 false (I YV.g c)),(1,.box (ck a b (.own 2)))],0))):=by
 rw[xd (fn:=p72) rfl];refine bo (cX1 d x1 a b) fun e=>?_;rfl
def cZ1 (x1:aA YV) (a:Y0) (b:Int):aB (aA YV):=
 (cY1 x1 a b).bind fun c=>some c
theorem sX1 [Inhabited Rc] {k} (d) (x1:aA YV) (a:Y0) (b:Int):dC (XD k (d+24)) 34 [.ref 1 0] [(2,.lst 120 3 false (I YV.g x1)),(1,.box (ck a b (.own 2)))] 3 false=(cZ1 x1 a b).map (fun(c:aA YV)=>((.tup [],[(2,.lst 120 3 false (I YV.g c)),(1,.box (ck a b (.own 2)))],0))):=by
 rw[xd (fn:=p34) rfl];refine bo (sW1 d x1 a b) fun e=>?_;rfl
def F74 (x1:Int):aB Bool:=
 ((if x1 !=0 then(F73 x1).bind fun a=>some (!a)else some false:aB (Bool))).bind fun b=>some b
theorem dU2 [Inhabited Rc] {k} (d) (x1:Int):OD k (d+2) 74 [i64 x1]=(F74 x1).map bv:=by
 refine oe rfl ?_;refine bo (e:=id) ?_ fun b=>?_;refine io ?_ rfl;refine bo (sO1 d x1) fun a=>?_;rfl;rfl
def Dm (x1:YO) (a:Int):aB Bool:=
 (Wq x1.Events).bind fun b=>((if !b then(Ws x1 a).bind fun c=>(F74 c).bind fun d=>some d else some false:aB (Bool))).bind fun e=>some e
theorem dA1 [Inhabited Rc] {k} (d) (x1:YO) (a:Int):OD k (d+15) 131 [.agg (YO.g x1),.ip [.fn 128 [] []],.ip [.fn 74 [] []],.ip [i64 a]]=(Dm x1 a).map bv:=by
 refine oe rfl ?_;refine bo (hO1 (d+3) x1.Events) fun c=>?_;refine bo (e:=id) ?_ fun h=>?_;refine io ?_ rfl;refine bo (hT1 d x1 a) fun b=>?_;refine bo (dU2 (d+12) b) fun f=>?_;rfl;rfl
def Dn (x1:aA YO) (b:Int):aB Int:=
 (aR (E:=Int⊕Unit) (fun(a:Int)=>if decide (a<(x1.length:Int))then(aT x1 a).bind fun c=>(Dm c b).bind fun d=>if d then some (.inr (.inl a))else some (.inl (aW (a+1)))else some (.inr (.inr ()))) bC 0).bind fun e=>(match e with|.inl x8=>some x8|.inr _=>some (-1))
theorem dB1 [Inhabited Rc] {k} (d) (x1:aA YO) (a:Int):OD k (d+16) 182 [.is 2 (I YO.g x1),.fn 131 [] [.ip [.fn 128 [] []],.ip [.fn 74 [] []],.ip [i64 a]]]=(Dn x1 a).map i64:=by
 refine oe rfl ?_;refine bz lm ?_;refine bo (aK (S:=Int) (enc:=fun b=>(Q [(0,.is 2 (I YO.g x1)),(1,.fn 131 [] [.ip [.fn 128 [] []],.ip [.fn 74 [] []],.ip [i64 a]]),(7,i64 (x1.length:Int)),(8,i64 b)] [])) (encE:=(fun|.inl c=>(rq [(4,i64 c)] [])|.inr _=>(xq 0 [] []))) (fun b=>?_) bC 0) fun f=>?_;refine io ?_ rfl;refine bo rg fun e=>?_;refine bo (dA1 d e a) fun h=>?_;refine io rfl rfl;rcases f with c|_;rfl;rfl
def Dp (x1:aA YO) (a:Int):aB Bool:=
 (Dn x1 a).bind fun b=>some (decide (b>=0))
theorem dC1 [Inhabited Rc] {k} (d) (x1:aA YO) (a:Int):OD k (d+17) 130 [.is 2 (I YO.g x1),.fn 131 [] [.ip [.fn 128 [] []],.ip [.fn 74 [] []],.ip [i64 a]]]=(Dp x1 a).map bv:=by
 refine oe rfl ?_;refine bo (dB1 d x1 a) fun b=>?_;rfl
def Dq (x1:YW) (a:Int):aB Bool:=
 (Dp x1.Voices a).bind fun b=>some b
theorem dD1 [Inhabited Rc] {k} (d) (x1:YW) (a:Int):OD k (d+18) 129 [.agg (YW.g x1),.ip [.fn 128 [] []],.ip [.fn 74 [] []],.ip [i64 a]]=(Dq x1 a).map bv:=by
 refine oe rfl ?_;refine bo (dC1 d x1.Voices a) fun b=>?_;rfl
def Dr (x1:aA YW) (b:Int):aB Int:=
 (aR (E:=Int⊕Unit) (fun(a:Int)=>if decide (a<(x1.length:Int))then(aT x1 a).bind fun c=>(Dq c b).bind fun d=>if d then some (.inr (.inl a))else some (.inl (aW (a+1)))else some (.inr (.inr ()))) bC 0).bind fun e=>(match e with|.inl x8=>some x8|.inr _=>some (-1))
theorem dE1 [Inhabited Rc] {k} (d) (x1:aA YW) (a:Int):OD k (d+19) 179 [.is 2 (I YW.g x1),.fn 129 [] [.ip [.fn 128 [] []],.ip [.fn 74 [] []],.ip [i64 a]]]=(Dr x1 a).map i64:=by
 refine oe rfl ?_;refine bz lm ?_;refine bo (aK (S:=Int) (enc:=fun b=>(Q [(0,.is 2 (I YW.g x1)),(1,.fn 129 [] [.ip [.fn 128 [] []],.ip [.fn 74 [] []],.ip [i64 a]]),(7,i64 (x1.length:Int)),(8,i64 b)] [])) (encE:=(fun|.inl c=>(rq [(4,i64 c)] [])|.inr _=>(xq 0 [] []))) (fun b=>?_) bC 0) fun f=>?_;refine io ?_ rfl;refine bo rg fun e=>?_;refine bo (dD1 d e a) fun h=>?_;refine io rfl rfl;rcases f with c|_;rfl;rfl
def Dt (x1:aA YW) (a:Int):aB Bool:=
 (Dr x1 a).bind fun b=>some (decide (b>=0))
theorem dF1 [Inhabited Rc] {k} (d) (x1:aA YW) (a:Int):OD k (d+20) 121 [.is 2 (I YW.g x1),.fn 129 [] [.ip [.fn 128 [] []],.ip [.fn 74 [] []],.ip [i64 a]]]=(Dt x1 a).map bv:=by
 refine oe rfl ?_;refine bo (dE1 d x1 a) fun b=>?_;rfl
def Du (x1:Int) (a:YM):aB Bool:=
 (zT a).bind fun⟨b,c⟩=>if c !=0 then some false else(Dt a.Cells b).bind fun d=>some d
theorem dG1 [Inhabited Rc] {k} (d) (x1:Int) (a:YM):OD k (d+21) 127 [i64 x1,.agg (YM.g a),.ip [.fn 74 [] []]]=(Du x1 a).map bv:=by
 refine oe rfl ?_;refine bo (Ib (d+16) a) fun⟨b,c⟩=>?_;refine io rfl ?_;refine bo (dF1 d a.Cells b) fun e=>?_;rfl
def Dv (x1:aA YV) (e:Y0) (h:Int):aB (aA YV):=
 (aR (E:=aA YV) (fun(⟨a,f⟩:Int×(aA YV))=>if decide (a<(e.Measures.length:Int))then(aT e.Measures a).bind fun g=>(Du a g).bind fun b=>(iF b g.ID f e h).bind fun c=>some (.inl ((aW (a+1)),c))else some (.inr f)) bC (0,x1)).bind fun d=>some d
theorem dH1 [Inhabited Rc] {k} (d) (x1:aA YV) (a:Y0) (b:Int):dC (XD k (d+22)) 66 [.ref 1 0,.fn 127 [] [.ref 3 0]] [(3,.box [.fn 74 [] []]),(2,.lst 120 3 false (I YV.g x1)),(1,.box (ck a b (.own 2)))] 4 false=(Dv x1 a b).map (fun(f:aA YV)=>((.tup [],[(3,.box [.fn 74 [] []]),(2,.lst 120 3 false (I YV.g f)),(1,.box (ck a b (.own 2)))],0))):=by
 rw[xd (fn:=p66) rfl];refine bz lm ?_;refine bo (aK (S:=Int×(aA YV)) (enc:=fun⟨h,i⟩=>(Q [(0,.ref 1 0),(1,.fn 127 [] [.ref 3 0]),(10,.is 22 (I YM.g a.Measures)),(11,i64 (a.Measures.length:Int)),(12,i64 h)] [(3,.box [.fn 74 [] []]),(2,.lst 120 3 false (I YV.g i)),(1,.box (ck a b (.own 2)))])) (encE:=(fun(c:aA YV)=>(xq 0 [] [(3,.box [.fn 74 [] []]),(2,.lst 120 3 false (I YV.g c)),(1,.box (ck a b (.own 2)))]))) (fun⟨h,i⟩=>?_) bC (0,x1)) fun c=>?_;refine io ?_ rfl;refine bo rg fun j=>?_;refine bo (dG1 d h j) fun e=>?_;refine bo (gB (d+20) e j.ID i a b) fun l=>?_;rfl;rfl
def Dw (x1:aA YV) (a:Y0) (b:Int):aB (aA YV):=
 (Dv x1 a b).bind fun c=>some c
theorem dI1 [Inhabited Rc] {k} (d) (x1:aA YV) (a:Y0) (b:Int):dC (XD k (d+23)) 72 [.ref 1 0,.fn 74 [] []] [(2,.lst 120 3 false (I YV.g x1)),(1,.box (ck a b (.own 2)))] 3 false=(Dw x1 a b).map (fun(c:aA YV)=>((.tup [],[(2,.lst 120 3 false (I YV.g c)),(1,.box (ck a b (.own 2)))],0))):=by
 rw[xd (fn:=p72) rfl];refine bo (dH1 d x1 a b) fun e=>?_;rfl
def dJ1 (x1:aA YV) (a:Y0) (b:Int):aB (aA YV):=
 (Dw x1 a b).bind fun c=>some c
theorem sY1 [Inhabited Rc] {k} (d) (x1:aA YV) (a:Y0) (b:Int):dC (XD k (d+24)) 35 [.ref 1 0] [(2,.lst 120 3 false (I YV.g x1)),(1,.box (ck a b (.own 2)))] 3 false=(dJ1 x1 a b).map (fun(c:aA YV)=>((.tup [],[(2,.lst 120 3 false (I YV.g c)),(1,.box (ck a b (.own 2)))],0))):=by
 rw[xd (fn:=p35) rfl];refine bo (dI1 d x1 a b) fun e=>?_;rfl
def F76 (x1:YP) (a:YE):aB Bool:=
 (F77 a).bind fun b=>some (b !=0)
theorem dV2 [Inhabited Rc] {k} (d) (x1:YP) (a:YE):OD k (d+9) 76 [.agg (YP.g x1),.agg (YE.g a)]=(F76 x1 a).map bv:=by
 refine oe rfl ?_;refine bo (Rf d a) fun b=>?_;rfl
def dK1 (x1:aA YV) (s:Y0) (t:Int):aB (aA YV):=
 (aR (E:=aA YV) (fun(⟨b,m⟩:Int×(aA YV))=>if decide (b<(s.Measures.length:Int))then(aT s.Measures b).bind fun n=>(aR (E:=aA YV) (fun(⟨c,o⟩:Int×(aA YV))=>if decide (c<(n.Cells.length:Int))then(aT n.Cells c).bind fun p=>(aR (E:=aA YV) (fun(⟨d,q⟩:Int×(aA YV))=>if decide (d<(p.Voices.length:Int))then(aT p.Voices d).bind fun r=>(aR (E:=aA YV) (fun(⟨a,e⟩:Int×(aA YV))=>if decide (a<(r.Events.length:Int))then(aT r.Events a).bind fun f=>(F76 (YP.mk 4 0 c b d a 0) f).bind fun g=>(iF g f.ID e s t).bind fun h=>some (.inl ((aW (a+1)),h))else some (.inr e)) bC (0,q)).bind fun i=>some (.inl ((aW (d+1)),i))else some (.inr q)) bC (0,o)).bind fun j=>some (.inl ((aW (c+1)),j))else some (.inr o)) bC (0,m)).bind fun k=>some (.inl ((aW (b+1)),k))else some (.inr m)) bC (0,x1)).bind fun l=>some l
theorem sZ1 [Inhabited Rc] {k} (d) (x1:aA YV) (c:Y0) (i:Int):dC (XD k (d+10)) 75 [.ref 1 0,.fn 76 [] []] [(2,.lst 120 3 false (I YV.g x1)),(1,.box (ck c i (.own 2)))] 3 false=(dK1 x1 c i).map (fun(w:aA YV)=>((.tup [],[(2,.lst 120 3 false (I YV.g w)),(1,.box (ck c i (.own 2)))],0))):=by
 rw[xd (fn:=p75) rfl];refine bz lm ?_;refine bo (aK (S:=Int×(aA YV)) (enc:=fun⟨b,s⟩=>(Q [(0,.ref 1 0),(1,.fn 76 [] []),(16,.is 22 (I YM.g c.Measures)),(17,i64 (c.Measures.length:Int)),(18,i64 b)] [(2,.lst 120 3 false (I YV.g s)),(1,.box (ck c i (.own 2)))])) (encE:=(fun(r:aA YV)=>(xq 0 [] [(2,.lst 120 3 false (I YV.g r)),(1,.box (ck c i (.own 2)))]))) (fun⟨b,s⟩=>?_) bC (0,x1)) fun r=>?_;refine io ?_ rfl;refine bo rg fun a=>?_;refine bz lm ?_;refine bo (aK (S:=Int×(aA YV)) (enc:=fun⟨e,t⟩=>(Q [(0,.ref 1 0),(1,.fn 76 [] []),(4,i64 b),(16,.is 22 (I YM.g c.Measures)),(17,i64 (c.Measures.length:Int)),(18,i64 b),(24,.is 2 (I YW.g a.Cells)),(25,i64 (a.Cells.length:Int)),(26,i64 e)] [(3,.box (YM.g a)),(2,.lst 120 3 false (I YV.g t)),(1,.box (ck c i (.own 2)))])) (encE:=(fun(q:aA YV)=>(xq 2 [(0,.ref 1 0),(1,.fn 76 [] []),(16,.is 22 (I YM.g c.Measures)),(17,i64 (c.Measures.length:Int)),(18,i64 b)] [(3,.box (YM.g a)),(2,.lst 120 3 false (I YV.g q)),(1,.box (ck c i (.own 2)))]))) (fun⟨e,t⟩=>?_) bC (0,s)) fun q=>?_;refine io ?_ rfl;refine bo rg fun f=>?_;refine bz lm ?_;refine bo (aK (S:=Int×(aA YV)) (enc:=fun⟨h,u⟩=>(Q [(0,.ref 1 0),(1,.fn 76 [] []),(4,i64 b),(6,i64 e),(16,.is 22 (I YM.g c.Measures)),(17,i64 (c.Measures.length:Int)),(18,i64 b),(24,.is 2 (I YW.g a.Cells)),(25,i64 (a.Cells.length:Int)),(26,i64 e),(32,.is 2 (I YO.g f.Voices)),(33,i64 (f.Voices.length:Int)),(34,i64 h)] [(4,.box (YW.g f)),(3,.box (YM.g a)),(2,.lst 120 3 false (I YV.g u)),(1,.box (ck c i (.own 2)))])) (encE:=(fun(p:aA YV)=>(xq 4 [(0,.ref 1 0),(1,.fn 76 [] []),(4,i64 b),(16,.is 22 (I YM.g c.Measures)),(17,i64 (c.Measures.length:Int)),(18,i64 b),(24,.is 2 (I YW.g a.Cells)),(25,i64 (a.Cells.length:Int)),(26,i64 e)] [(4,.box (YW.g f)),(3,.box (YM.g a)),(2,.lst 120 3 false (I YV.g p)),(1,.box (ck c i (.own 2)))]))) (fun⟨h,u⟩=>?_) bC (0,t)) fun p=>?_;refine io ?_ rfl;refine bo rg fun m=>?_;refine bz lm ?_;refine bo (aK (S:=Int×(aA YV)) (enc:=fun⟨j,l⟩=>(Q [(0,.ref 1 0),(1,.fn 76 [] []),(4,i64 b),(6,i64 e),(8,i64 h),(16,.is 22 (I YM.g c.Measures)),(17,i64 (c.Measures.length:Int)),(18,i64 b),(24,.is 2 (I YW.g a.Cells)),(25,i64 (a.Cells.length:Int)),(26,i64 e),(32,.is 2 (I YO.g f.Voices)),(33,i64 (f.Voices.length:Int)),(34,i64 h),(40,.is 13 (I YE.g m.Events)),(41,i64 (m.Events.length:Int)),(42,i64 j)] [(5,.box (YO.g m)),(4,.box (YW.g f)),(3,.box (YM.g a)),(2,.lst 120 3 false (I YV.g l)),(1,.box (ck c i (.own 2)))])) (encE:=(fun(o:aA YV)=>(xq 6 [(0,.ref 1 0),(1,.fn 76 [] []),(4,i64 b),(6,i64 e),(16,.is 22 (I YM.g c.Measures)),(17,i64 (c.Measures.length:Int)),(18,i64 b),(24,.is 2 (I YW.g a.Cells)),(25,i64 (a.Cells.length:Int)),(26,i64 e),(32,.is 2 (I YO.g f.Voices)),(33,i64 (f.Voices.length:Int)),(34,i64 h)] [(5,.box (YO.g m)),(4,.box (YW.g f)),(3,.box (YM.g a)),(2,.lst 120 3 false (I YV.g o)),(1,.box (ck c i (.own 2)))]))) (fun⟨j,l⟩=>?_) bC (0,u)) fun o=>?_;refine io ?_ rfl;refine bo rg fun n=>?_;refine bo (dV2 d (YP.mk 4 0 e b h j 0) n) fun v=>?_;refine bo (gB (d+8) v n.ID l c i) fun x=>?_;rfl;rfl;rfl;rfl;rfl
end Go.P
namespace Go.P
open Go.Sim (Ex dW CK)
open K (I Q rq nq xq ck)
def dL1 (x1:aA YV) (a:Y0) (b:Int):aB (aA YV):=
 (dK1 x1 a b).bind fun c=>some c
theorem tA1 [Inhabited Rc] {k} (d) (x1:aA YV) (a:Y0) (b:Int):dC (XD k (d+11)) 36 [.ref 1 0] [(2,.lst 120 3 false (I YV.g x1)),(1,.box (ck a b (.own 2)))] 3 false=(dL1 x1 a b).map (fun(c:aA YV)=>((.tup [],[(2,.lst 120 3 false (I YV.g c)),(1,.box (ck a b (.own 2)))],0))):=by
 rw[xd (fn:=p36) rfl];refine bo (sZ1 d x1 a b) fun e=>?_;rfl
def F21 (x1:Y0) (c:Int):aB (Int×Int×Int):=
 if decide (c<0)then some (0,0,2)else(aR (E:=(Int×Int)⊕Unit) (fun(⟨b,a⟩:Int×Int)=>if decide (a<(x1.Parts.length:Int))then(aT x1.Parts a).bind fun d=>if decide (b<(d.Staves.length:Int))then some (.inr (.inl (a,b)))else some (.inl ((aW (b-(d.Staves.length:Int))),(aW (a+1))))else some (.inr (.inr ()))) bC (c,0)).bind fun e=>(match e with|.inl ⟨x7,x8⟩=>some (x7,x8,0)|.inr _=>some (0,0,2))
theorem tB1 [Inhabited Rc] {k} (d) (x1:Y0) (a:Int):OD k (d+1) 21 [.agg (Y0.g x1),i64 a]=(F21 x1 a).map (fun⟨i,j,l⟩=>.tup [i64 i,i64 j,i64 l]):=by
 refine oe rfl ?_;refine io rfl ?_;refine bz lm ?_;refine bo (aK (S:=Int×Int) (enc:=fun⟨b,c⟩=>(Q [(1,i64 b),(12,.is 6 (I YJ.g x1.Parts)),(13,i64 (x1.Parts.length:Int)),(14,i64 c)] [(0,.box (Y0.g x1))])) (encE:=(fun|.inl ⟨e,f⟩=>(rq [(4,i64 e),(5,i64 f),(6,i64 0)] [(0,.box (Y0.g x1))])|.inr _=>(xq 0 [] [(0,.box (Y0.g x1))]))) (fun⟨b,c⟩=>?_) bC (a,0)) fun h=>?_;refine io ?_ rfl;refine bo rg fun m=>?_;refine bz lm ?_;refine io rfl ?_;refine bz lm ?_;rfl;rcases h with⟨e,f⟩|_;rfl;rfl
def F79 (x1:YH) (a:Int):aB Bool:=
 (F80 x1).bind fun⟨b,d⟩=>(zS (aW (b+a)) 0 127).bind fun c=>some (!c)
theorem tD1 [Inhabited Rc] {k} (d) (x1:YH) (a:Int):OD k (d+5) 79 [.agg (YH.g x1),.ip [i64 a]]=(F79 x1 a).map bv:=by
 refine oe rfl ?_;refine bo (kF1 d x1) fun⟨b,c⟩=>?_;refine bo (oA (d+3) (aW (b+a)) 0 127) fun e=>?_;rfl
def F82 (x1:YB) (a:Int):aB Bool:=
 (F79 x1.Pitch a).bind fun b=>some b
theorem dW2 [Inhabited Rc] {k} (d) (x1:YB) (a:Int):OD k (d+6) 82 [.agg (YB.g x1),.ip [.fn 79 [] [.ip [i64 a]]]]=(F82 x1 a).map bv:=by
 refine oe rfl ?_;refine bo (tD1 d x1.Pitch a) fun b=>?_;rfl
def dM1 (x1:aA YB) (b:Int):aB Int:=
 (aR (E:=Int⊕Unit) (fun(a:Int)=>if decide (a<(x1.length:Int))then(aT x1 a).bind fun c=>(F82 c b).bind fun d=>if d then some (.inr (.inl a))else some (.inl (aW (a+1)))else some (.inr (.inr ()))) bC 0).bind fun e=>(match e with|.inl x8=>some x8|.inr _=>some (-1))
theorem tE1 [Inhabited Rc] {k} (d) (x1:aA YB) (a:Int):OD k (d+7) 145 [.is 5 (I YB.g x1),.fn 82 [] [.ip [.fn 79 [] [.ip [i64 a]]]]]=(dM1 x1 a).map i64:=by
 refine oe rfl ?_;refine bz lm ?_;refine bo (aK (S:=Int) (enc:=fun b=>(Q [(0,.is 5 (I YB.g x1)),(1,.fn 82 [] [.ip [.fn 79 [] [.ip [i64 a]]]]),(7,i64 (x1.length:Int)),(8,i64 b)] [])) (encE:=(fun|.inl c=>(rq [(4,i64 c)] [])|.inr _=>(xq 0 [] []))) (fun b=>?_) bC 0) fun f=>?_;refine io ?_ rfl;refine bo rg fun e=>?_;refine bo (dW2 d e a) fun h=>?_;refine io rfl rfl;rcases f with c|_;rfl;rfl
def F81 (x1:aA YB) (a:Int):aB Bool:=
 (dM1 x1 a).bind fun b=>some (decide (b>=0))
theorem dX2 [Inhabited Rc] {k} (d) (x1:aA YB) (a:Int):OD k (d+8) 81 [.is 5 (I YB.g x1),.fn 82 [] [.ip [.fn 79 [] [.ip [i64 a]]]]]=(F81 x1 a).map bv:=by
 refine oe rfl ?_;refine bo (tE1 d x1 a) fun b=>?_;rfl
def F84 (x1:YD) (a:Int):aB Bool:=
 (F79 x1.Pitch a).bind fun b=>some b
theorem dY2 [Inhabited Rc] {k} (d) (x1:YD) (a:Int):OD k (d+6) 84 [.agg (YD.g x1),.ip [.fn 79 [] [.ip [i64 a]]]]=(F84 x1 a).map bv:=by
 refine oe rfl ?_;refine bo (tD1 d x1.Pitch a) fun b=>?_;rfl
def dN1 (x1:aA YD) (b:Int):aB Int:=
 (aR (E:=Int⊕Unit) (fun(a:Int)=>if decide (a<(x1.length:Int))then(aT x1 a).bind fun c=>(F84 c b).bind fun d=>if d then some (.inr (.inl a))else some (.inl (aW (a+1)))else some (.inr (.inr ()))) bC 0).bind fun e=>(match e with|.inl x8=>some x8|.inr _=>some (-1))
theorem tF1 [Inhabited Rc] {k} (d) (x1:aA YD) (a:Int):OD k (d+7) 146 [.is 5 (I YD.g x1),.fn 84 [] [.ip [.fn 79 [] [.ip [i64 a]]]]]=(dN1 x1 a).map i64:=by
 refine oe rfl ?_;refine bz lm ?_;refine bo (aK (S:=Int) (enc:=fun b=>(Q [(0,.is 5 (I YD.g x1)),(1,.fn 84 [] [.ip [.fn 79 [] [.ip [i64 a]]]]),(7,i64 (x1.length:Int)),(8,i64 b)] [])) (encE:=(fun|.inl c=>(rq [(4,i64 c)] [])|.inr _=>(xq 0 [] []))) (fun b=>?_) bC 0) fun f=>?_;refine io ?_ rfl;refine bo rg fun e=>?_;refine bo (dY2 d e a) fun h=>?_;refine io rfl rfl;rcases f with c|_;rfl;rfl
def F83 (x1:aA YD) (a:Int):aB Bool:=
 (dN1 x1 a).bind fun b=>some (decide (b>=0))
theorem dZ2 [Inhabited Rc] {k} (d) (x1:aA YD) (a:Int):OD k (d+8) 83 [.is 5 (I YD.g x1),.fn 84 [] [.ip [.fn 79 [] [.ip [i64 a]]]]]=(F83 x1 a).map bv:=by
 refine oe rfl ?_;refine bo (tF1 d x1 a) fun b=>?_;rfl
def F78 (x1:YP) (e:YE) (f:YK):aB Bool:=
 (F77 e).bind fun h=>if h !=0 then some false else(F21 f.s' x1.Staff).bind fun⟨i,l,j⟩=>((if j==0 then(aT f.s'.Parts i).bind fun k=>some k.Transpose.Semitones else some 0:aB (Int))).bind fun g=>((if f.s'.Written then some (aW (0-g))else some g:aB (Int))).bind fun a=>(F81 e.Heads a).bind fun b=>((if b then some true else(F83 e.Graces a).bind fun c=>some c:aB (Bool))).bind fun d=>some d
theorem eA2 [Inhabited Rc] {k} (d) (x1:YP) (b:YE) (c:YK):OD k (d+9) 78 [.agg (YP.g x1),.agg (YE.g b),.ip [.ip (YK.g c)]]=(F78 x1 b c).map bv:=by
 refine oe rfl ?_;refine bo (Rf d b) fun l=>?_;refine io rfl ?_;refine bo (tB1 (d+7) c.s' x1.Staff) fun⟨m,n,o⟩=>?_;refine bo (e:=(fun(f:Int)=>(nq [(2,.ip [.ip (YK.g c)]),(4,.ref 1 0),(6,.ref 2 0)] [(2,.box [i64 f]),(1,.box (YE.g b)),(0,.box (YP.g x1))]))) ?_ fun f=>?_;refine io ?_ rfl;refine bo rg fun p=>?_;rfl;refine bo (e:=(fun(a:Int)=>(nq [(4,.ref 1 0),(6,.ref 2 0)] [(2,.box [i64 a]),(1,.box (YE.g b)),(0,.box (YP.g x1))]))) ?_ fun a=>?_;refine io rfl rfl;refine bo (dX2 d b.Heads a) fun h=>?_;refine bo (e:=id) ?_ fun j=>?_;refine io rfl ?_;refine bo (dZ2 d b.Graces a) fun i=>?_;rfl;rfl
def Dx (x1:aA YV) (s:Y0) (t:Int):aB (aA YV):=
 (aR (E:=aA YV) (fun(⟨c,m⟩:Int×(aA YV))=>if decide (c<(s.Measures.length:Int))then(aT s.Measures c).bind fun n=>(aR (E:=aA YV) (fun(⟨d,o⟩:Int×(aA YV))=>if decide (d<(n.Cells.length:Int))then(aT n.Cells d).bind fun p=>(aR (E:=aA YV) (fun(⟨e,q⟩:Int×(aA YV))=>if decide (e<(p.Voices.length:Int))then(aT p.Voices e).bind fun r=>(aR (E:=aA YV) (fun(⟨a,b⟩:Int×(aA YV))=>if decide (a<(r.Events.length:Int))then(aT r.Events a).bind fun f=>(F78 (YP.mk 4 0 d c e a 0) f (YK.mk s t b)).bind fun g=>(iF g f.ID b s t).bind fun h=>some (.inl ((aW (a+1)),h))else some (.inr b)) bC (0,q)).bind fun i=>some (.inl ((aW (e+1)),i))else some (.inr q)) bC (0,o)).bind fun j=>some (.inl ((aW (d+1)),j))else some (.inr o)) bC (0,m)).bind fun k=>some (.inl ((aW (c+1)),k))else some (.inr m)) bC (0,x1)).bind fun l=>some l
theorem dO1 [Inhabited Rc] {k} (d) (x1:aA YV) (c:Y0) (i:Int):dC (XD k (d+10)) 75 [.ref 1 0,.fn 78 [] [.ref 3 0]] [(3,.box [.ref 1 0]),(2,.lst 120 3 false (I YV.g x1)),(1,.box (ck c i (.own 2)))] 4 false=(Dx x1 c i).map (fun(w:aA YV)=>((.tup [],[(3,.box [.ref 1 0]),(2,.lst 120 3 false (I YV.g w)),(1,.box (ck c i (.own 2)))],0))):=by
 rw[xd (fn:=p75) rfl];refine bz lm ?_;refine bo (aK (S:=Int×(aA YV)) (enc:=fun⟨b,s⟩=>(Q [(0,.ref 1 0),(1,.fn 78 [] [.ref 3 0]),(16,.is 22 (I YM.g c.Measures)),(17,i64 (c.Measures.length:Int)),(18,i64 b)] [(3,.box [.ref 1 0]),(2,.lst 120 3 false (I YV.g s)),(1,.box (ck c i (.own 2)))])) (encE:=(fun(r:aA YV)=>(xq 0 [] [(3,.box [.ref 1 0]),(2,.lst 120 3 false (I YV.g r)),(1,.box (ck c i (.own 2)))]))) (fun⟨b,s⟩=>?_) bC (0,x1)) fun r=>?_;refine io ?_ rfl;refine bo rg fun a=>?_;refine bz lm ?_;refine bo (aK (S:=Int×(aA YV)) (enc:=fun⟨e,t⟩=>(Q [(0,.ref 1 0),(1,.fn 78 [] [.ref 3 0]),(4,i64 b),(16,.is 22 (I YM.g c.Measures)),(17,i64 (c.Measures.length:Int)),(18,i64 b),(24,.is 2 (I YW.g a.Cells)),(25,i64 (a.Cells.length:Int)),(26,i64 e)] [(4,.box (YM.g a)),(3,.box [.ref 1 0]),(2,.lst 120 3 false (I YV.g t)),(1,.box (ck c i (.own 2)))])) (encE:=(fun(q:aA YV)=>(xq 2 [(0,.ref 1 0),(1,.fn 78 [] [.ref 3 0]),(16,.is 22 (I YM.g c.Measures)),(17,i64 (c.Measures.length:Int)),(18,i64 b)] [(4,.box (YM.g a)),(3,.box [.ref 1 0]),(2,.lst 120 3 false (I YV.g q)),(1,.box (ck c i (.own 2)))]))) (fun⟨e,t⟩=>?_) bC (0,s)) fun q=>?_;refine io ?_ rfl;refine bo rg fun f=>?_;refine bz lm ?_;refine bo (aK (S:=Int×(aA YV)) (enc:=fun⟨j,u⟩=>(Q [(0,.ref 1 0),(1,.fn 78 [] [.ref 3 0]),(4,i64 b),(6,i64 e),(16,.is 22 (I YM.g c.Measures)),(17,i64 (c.Measures.length:Int)),(18,i64 b),(24,.is 2 (I YW.g a.Cells)),(25,i64 (a.Cells.length:Int)),(26,i64 e),(32,.is 2 (I YO.g f.Voices)),(33,i64 (f.Voices.length:Int)),(34,i64 j)] [(5,.box (YW.g f)),(4,.box (YM.g a)),(3,.box [.ref 1 0]),(2,.lst 120 3 false (I YV.g u)),(1,.box (ck c i (.own 2)))])) (encE:=(fun(p:aA YV)=>(xq 4 [(0,.ref 1 0),(1,.fn 78 [] [.ref 3 0]),(4,i64 b),(16,.is 22 (I YM.g c.Measures)),(17,i64 (c.Measures.length:Int)),(18,i64 b),(24,.is 2 (I YW.g a.Cells)),(25,i64 (a.Cells.length:Int)),(26,i64 e)] [(5,.box (YW.g f)),(4,.box (YM.g a)),(3,.box [.ref 1 0]),(2,.lst 120 3 false (I YV.g p)),(1,.box (ck c i (.own 2)))]))) (fun⟨j,u⟩=>?_) bC (0,t)) fun p=>?_;refine io ?_ rfl;refine bo rg fun m=>?_;refine bz lm ?_;refine bo (aK (S:=Int×(aA YV)) (enc:=fun⟨l,h⟩=>(Q [(0,.ref 1 0),(1,.fn 78 [] [.ref 3 0]),(4,i64 b),(6,i64 e),(8,i64 j),(16,.is 22 (I YM.g c.Measures)),(17,i64 (c.Measures.length:Int)),(18,i64 b),(24,.is 2 (I YW.g a.Cells)),(25,i64 (a.Cells.length:Int)),(26,i64 e),(32,.is 2 (I YO.g f.Voices)),(33,i64 (f.Voices.length:Int)),(34,i64 j),(40,.is 13 (I YE.g m.Events)),(41,i64 (m.Events.length:Int)),(42,i64 l)] [(6,.box (YO.g m)),(5,.box (YW.g f)),(4,.box (YM.g a)),(3,.box [.ref 1 0]),(2,.lst 120 3 false (I YV.g h)),(1,.box (ck c i (.own 2)))])) (encE:=(fun(o:aA YV)=>(xq 6 [(0,.ref 1 0),(1,.fn 78 [] [.ref 3 0]),(4,i64 b),(6,i64 e),(16,.is 22 (I YM.g c.Measures)),(17,i64 (c.Measures.length:Int)),(18,i64 b),(24,.is 2 (I YW.g a.Cells)),(25,i64 (a.Cells.length:Int)),(26,i64 e),(32,.is 2 (I YO.g f.Voices)),(33,i64 (f.Voices.length:Int)),(34,i64 j)] [(6,.box (YO.g m)),(5,.box (YW.g f)),(4,.box (YM.g a)),(3,.box [.ref 1 0]),(2,.lst 120 3 false (I YV.g o)),(1,.box (ck c i (.own 2)))]))) (fun⟨l,h⟩=>?_) bC (0,u)) fun o=>?_;refine io ?_ rfl;refine bo rg fun n=>?_;refine bo (eA2 d (YP.mk 4 0 e b j l 0) n (YK.mk c i h)) fun v=>?_;refine bo (gB (d+8) v n.ID h c i) fun x=>?_;rfl;rfl;rfl;rfl;rfl
def dP1 (x1:aA YV) (a:Y0) (b:Int):aB (aA YV):=
 (Dx x1 a b).bind fun c=>some c
theorem tG1 [Inhabited Rc] {k} (d) (x1:aA YV) (a:Y0) (b:Int):dC (XD k (d+11)) 37 [.ref 1 0] [(2,.lst 120 3 false (I YV.g x1)),(1,.box (ck a b (.own 2)))] 3 false=(dP1 x1 a b).map (fun(c:aA YV)=>((.tup [],[(2,.lst 120 3 false (I YV.g c)),(1,.box (ck a b (.own 2)))],0))):=by
 rw[xd (fn:=p37) rfl];refine bo (dO1 d x1 a b) fun e=>?_;rfl
def dQ1 (x1:YB):aB Bool:=
 some x1.Tied
theorem tH1 [Inhabited Rc] {k} (d) (x1:YB):OD k (d+1) 147 [.agg (YB.g x1)]=(dQ1 x1).map bv:=by
 refine oe rfl ?_;rfl
def Dy (x1:aA YB):aB Int:=
 (aR (E:=Int⊕Unit) (fun(a:Int)=>if decide (a<(x1.length:Int))then(aT x1 a).bind fun b=>(dQ1 b).bind fun c=>if c then some (.inr (.inl a))else some (.inl (aW (a+1)))else some (.inr (.inr ()))) bC 0).bind fun d=>(match d with|.inl x7=>some x7|.inr _=>some (-1))
theorem dR1 [Inhabited Rc] {k} (d) (x1:aA YB):OD k (d+2) 145 [.is 5 (I YB.g x1),.fn 147 [] []]=(Dy x1).map i64:=by
 refine oe rfl ?_;refine bz lm ?_;refine bo (aK (S:=Int) (enc:=fun a=>(Q [(0,.is 5 (I YB.g x1)),(1,.fn 147 [] []),(7,i64 (x1.length:Int)),(8,i64 a)] [])) (encE:=(fun|.inl b=>(rq [(4,i64 b)] [])|.inr _=>(xq 0 [] []))) (fun a=>?_) bC 0) fun e=>?_;refine io ?_ rfl;refine bo rg fun c=>?_;refine bo (tH1 d c) fun f=>?_;refine io rfl rfl;rcases e with b|_;rfl;rfl
def Nx (x1:aA YB):aB Bool:=
 (Dy x1).bind fun a=>some (decide (a>=0))
theorem kI1 [Inhabited Rc] {k} (d) (x1:aA YB):OD k (d+3) 81 [.is 5 (I YB.g x1),.fn 147 [] []]=(Nx x1).map bv:=by
 refine oe rfl ?_;refine bo (dR1 d x1) fun a=>?_;rfl
def F86 (x1:YE):aB Bool:=
 ((if x1.Kind==1 then(Nx x1.Heads).bind fun a=>some a else some false:aB (Bool))).bind fun b=>some b
theorem tJ1 [Inhabited Rc] {k} (d) (x1:YE):OD k (d+4) 86 [.agg (YE.g x1)]=(F86 x1).map bv:=by
 refine oe rfl ?_;refine bo (e:=id) ?_ fun b=>?_;refine io ?_ rfl;refine bo (kI1 d x1.Heads) fun a=>?_;rfl;rfl
def Dz (x1:Y0) (a b f:Int):aB (aA YE):=
 ((if((decide (a<0))||(decide (a>=(x1.Measures.length:Int))))||(decide (b<0))then some true else(aT x1.Measures a).bind fun g=>some (decide (b>=(g.Cells.length:Int))):aB (Bool))).bind fun h=>((if h||(decide (f<0))then some true else(aT x1.Measures a).bind fun i=>(aT i.Cells b).bind fun j=>some (decide (f>=(j.Voices.length:Int))):aB (Bool))).bind fun k=>if k then some []else(aT x1.Measures a).bind fun c=>(aT c.Cells b).bind fun d=>(aT d.Voices f).bind fun e=>some e.Events
theorem Ny [Inhabited Rc] {k} (d) (x1:Y0) (a b c:Int):OD k (d+1) 149 [.agg (Y0.g x1),i64 a,i64 b,i64 c]=(Dz x1 a b c).map (fun j=>.is 13 (I YE.g j)):=by
 refine oe rfl ?_;refine bz (fF (bz lm rfl)) ?_;refine bz (fF rfl) ?_;refine bo (e:=id) ?_ fun m=>?_;refine io rfl ?_;refine bo rg fun l=>?_;refine bz lm ?_;rfl;refine bz (fF rfl) ?_;refine bo (e:=id) ?_ fun p=>?_;refine io rfl ?_;refine bo rg fun n=>?_;refine bo rg fun o=>?_;refine bz lm ?_;rfl;refine io rfl ?_;refine bo rg fun f=>?_;refine bo rg fun h=>?_;refine bo rg fun i=>?_;rfl
def Wt (x1:Y0) (a:YP):aB Int:=
 if a.Kind !=4 then some 11 else((if decide (a.Event<0)then some true else(Dz x1 a.Measure a.Staff a.Voice).bind fun b=>some (decide (a.Event>=(b.length:Int))):aB (Bool))).bind fun c=>if c then some 2 else some 0
theorem hU1 [Inhabited Rc] {k} (d) (x1:Y0) (a:YP):OD k (d+2) 148 [.agg (Y0.g x1),.agg (YP.g a)]=(Wt x1 a).map i64:=by
 refine oe rfl ?_;refine io rfl ?_;refine bo (e:=id) ?_ fun c=>?_;refine io rfl ?_;refine bo (Ny d x1 a.Measure a.Staff a.Voice) fun b=>?_;refine bz lm ?_;rfl;refine io rfl rfl
def Wu (x1 a:Int) (b c:Int):aB YP:=
 some (YP.mk 4 0 a x1 b c 0)
theorem hV1 [Inhabited Rc] {k} (d) (x1 a:Int) (b c:Int):OD k (d+1) 150 [i64 x1,i64 a,i64 b,i64 c]=(Wu x1 a b c).map (fun e=>.agg (YP.g e)):=by
 refine oe rfl ?_;rfl
def F87 (x1:Y0) (a:YP):aB (YP×Bool):=
 (Wt x1 a).bind fun b=>if b !=0 then some ((YP.mk 0 0 0 0 0 0 0),false)else(Dz x1 a.Measure a.Staff a.Voice).bind fun c=>if decide ((aW (a.Event+1))<(c.length:Int))then(Wu a.Measure a.Staff a.Voice (aW (a.Event+1))).bind fun d=>some (d,true)else(Dz x1 (aW (a.Measure+1)) a.Staff a.Voice).bind fun e=>if decide ((e.length:Int)>0)then(Wu (aW (a.Measure+1)) a.Staff a.Voice 0).bind fun f=>some (f,true)else some ((YP.mk 0 0 0 0 0 0 0),false)
theorem tL1 [Inhabited Rc] {k} (d) (x1:Y0) (a:YP):OD k (d+3) 87 [.agg (Y0.g x1),.agg (YP.g a)]=(F87 x1 a).map (fun⟨b,c⟩=>.tup [.agg (YP.g b),bv c]):=by
 refine oe rfl ?_;refine bo (hU1 d x1 a) fun e=>?_;refine io rfl ?_;refine bo (Ny (d+1) x1 a.Measure a.Staff a.Voice) fun f=>?_;refine bz lm ?_;refine io ?_ ?_;refine bo (hV1 (d+1) a.Measure a.Staff a.Voice (aW (a.Event+1))) fun h=>?_;rfl;refine bo (Ny (d+1) x1 (aW (a.Measure+1)) a.Staff a.Voice) fun i=>?_;refine bz lm ?_;refine io ?_ rfl;refine bo (hV1 (d+1) (aW (a.Measure+1)) a.Staff a.Voice 0) fun j=>?_;rfl
def dS1 (x1:YE):aB YE:=
 (qF x1.Heads).bind fun a=>(qF x1.Graces).bind fun b=>(qF x1.Lyrics).bind fun c=>some (YE.mk x1.ID x1.Kind x1.Value a b x1.Articulations x1.Ornament x1.Dynamic c x1.Stem x1.Beam)
theorem tM1 [Inhabited Rc] {k} (d) (x1:YE):OD k (d+2) 151 [.agg (YE.g x1)]=(dS1 x1).map (fun a=>.agg (YE.g a)):=by
 refine oe rfl ?_;refine bo (qG 193 (d+1) 5 _ _ rfl rfl rfl) fun b=>?_;refine bo (qG 194 (d+1) 5 _ _ rfl rfl rfl) fun c=>?_;refine bo (qG 195 (d+1) 2 _ _ rfl rfl rfl) fun e=>?_;rfl
def F88 (x1:Y0) (a:YP):aB (YE×Int):=
 (Wt x1 a).bind fun b=>if b !=0 then some ((YE.mk (YZ.mk 0 0) 0 (YA.mk 0 0) [] [] 0 0 0 [] 0 0),b)else(Dz x1 a.Measure a.Staff a.Voice).bind fun c=>(aT c a.Event).bind fun d=>(dS1 d).bind fun e=>some (e,0)
theorem eB2 [Inhabited Rc] {k} (d) (x1:Y0) (a:YP):OD k (d+3) 88 [.agg (Y0.g x1),.agg (YP.g a)]=(F88 x1 a).map (fun⟨c,e⟩=>.tup [.agg (YE.g c),i64 e]):=by
 refine oe rfl ?_;refine bo (hU1 d x1 a) fun f=>?_;refine io rfl ?_;refine bo (Ny (d+1) x1 a.Measure a.Staff a.Voice) fun h=>?_;refine bo rg fun b=>?_;refine bo (tM1 d b) fun i=>?_;rfl
def dT1 (x1 a:YB):aB Bool:=
 some (((x1.Pitch.Step==a.Pitch.Step)&&((x1.Pitch.Alter==a.Pitch.Alter)&&((x1.Pitch.Octave==a.Pitch.Octave)&&true)))!=false)
theorem tN1 [Inhabited Rc] {k} (d) (x1 a:YB):OD k (d+1) 152 [.agg (YB.g x1),.ip (YB.g a)]=(dT1 x1 a).map bv:=by
 refine oe rfl ?_;rfl
def Ea (x1:aA YB) (b:YB):aB Int:=
 (aR (E:=Int⊕Unit) (fun(a:Int)=>if decide (a<(x1.length:Int))then(aT x1 a).bind fun c=>(dT1 c b).bind fun d=>if d then some (.inr (.inl a))else some (.inl (aW (a+1)))else some (.inr (.inr ()))) bC 0).bind fun e=>(match e with|.inl x8=>some x8|.inr _=>some (-1))
theorem dU1 [Inhabited Rc] {k} (d) (x1:aA YB) (a:YB):OD k (d+2) 145 [.is 5 (I YB.g x1),.fn 152 [] [.ip (YB.g a)]]=(Ea x1 a).map i64:=by
 refine oe rfl ?_;refine bz lm ?_;refine bo (aK (S:=Int) (enc:=fun b=>(Q [(0,.is 5 (I YB.g x1)),(1,.fn 152 [] [.ip (YB.g a)]),(7,i64 (x1.length:Int)),(8,i64 b)] [])) (encE:=(fun|.inl c=>(rq [(4,i64 c)] [])|.inr _=>(xq 0 [] []))) (fun b=>?_) bC 0) fun f=>?_;refine io ?_ rfl;refine bo rg fun e=>?_;refine bo (tN1 d e a) fun h=>?_;refine io rfl rfl;rcases f with c|_;rfl;rfl
def Nz (x1:aA YB) (a:YB):aB Bool:=
 (Ea x1 a).bind fun b=>some (decide (b>=0))
theorem kJ1 [Inhabited Rc] {k} (d) (x1:aA YB) (a:YB):OD k (d+3) 81 [.is 5 (I YB.g x1),.fn 152 [] [.ip (YB.g a)]]=(Nz x1 a).map bv:=by
 refine oe rfl ?_;refine bo (dU1 d x1 a) fun b=>?_;rfl
def F89 (x1 e:YE):aB Bool:=
 if x1.Kind !=1 then some true else(aR (E:=Unit⊕Unit) (fun(d:Int)=>if decide (d<(x1.Heads.length:Int))then(aT x1.Heads d).bind fun f=>((if f.Tied then((if e.Kind==1 then(Nz e.Heads f).bind fun g=>some g else some false:aB (Bool))).bind fun a=>some (!a)else some false:aB (Bool))).bind fun b=>if b then some (.inr (.inl ()))else some (.inl (aW (d+1)))else some (.inr (.inr ()))) bC 0).bind fun c=>(match c with|.inl _=>some false|.inr _=>some true)
theorem eC2 [Inhabited Rc] {k} (d) (x1 a:YE):OD k (d+4) 89 [.agg (YE.g x1),.agg (YE.g a)]=(F89 x1 a).map bv:=by
 refine oe rfl ?_;refine io rfl ?_;refine bz lm ?_;refine bo (aK (S:=Int) (enc:=fun c=>(Q [(3,.ref 1 0),(11,.is 5 (I YB.g x1.Heads)),(12,i64 (x1.Heads.length:Int)),(13,i64 c)] [(1,.box (YE.g a)),(0,.box (YE.g x1))])) (encE:=(fun|.inl _=>(rq [(4,bv false)] [(1,.box (YE.g a)),(0,.box (YE.g x1))])|.inr _=>(xq 0 [] [(1,.box (YE.g a)),(0,.box (YE.g x1))]))) (fun c=>?_) bC 0) fun b=>?_;refine io ?_ rfl;refine bo rg fun i=>?_;refine bo (e:=id) ?_ fun h=>?_;refine io ?_ rfl;refine bo (e:=id) ?_ fun f=>?_;refine io ?_ rfl;refine bo (kJ1 d a.Heads i) fun j=>?_;rfl;rfl;refine io rfl rfl;rcases b with _|_;rfl;rfl
def F85 (x1:YP) (b:YE) (c:YK):aB Bool:=
 (F86 b).bind fun d=>if !d then some false else(F87 c.s' x1).bind fun⟨e,f⟩=>(F88 c.s' e).bind fun⟨g,i⟩=>((if !f then some true else(F89 b g).bind fun h=>some (!h):aB (Bool))).bind fun a=>some a
theorem eD2 [Inhabited Rc] {k} (d) (x1:YP) (a:YE) (b:YK):OD k (d+5) 85 [.agg (YP.g x1),.agg (YE.g a),.ip [.ip (YK.g b)]]=(F85 x1 a b).map bv:=by
 refine oe rfl ?_;refine bo (tJ1 d a) fun i=>?_;refine io rfl ?_;refine bo (tL1 (d+1) b.s' x1) fun⟨f,j⟩=>?_;refine bo (eB2 (d+1) b.s' f) fun⟨h,l⟩=>?_;refine bo (e:=id) ?_ fun c=>?_;refine io rfl ?_;refine bo (eC2 d a h) fun m=>?_;rfl;rfl
def Eb (x1:aA YV) (s:Y0) (t:Int):aB (aA YV):=
 (aR (E:=aA YV) (fun(⟨c,m⟩:Int×(aA YV))=>if decide (c<(s.Measures.length:Int))then(aT s.Measures c).bind fun n=>(aR (E:=aA YV) (fun(⟨d,o⟩:Int×(aA YV))=>if decide (d<(n.Cells.length:Int))then(aT n.Cells d).bind fun p=>(aR (E:=aA YV) (fun(⟨e,q⟩:Int×(aA YV))=>if decide (e<(p.Voices.length:Int))then(aT p.Voices e).bind fun r=>(aR (E:=aA YV) (fun(⟨a,b⟩:Int×(aA YV))=>if decide (a<(r.Events.length:Int))then(aT r.Events a).bind fun f=>(F85 (YP.mk 4 0 d c e a 0) f (YK.mk s t b)).bind fun g=>(iF g f.ID b s t).bind fun h=>some (.inl ((aW (a+1)),h))else some (.inr b)) bC (0,q)).bind fun i=>some (.inl ((aW (e+1)),i))else some (.inr q)) bC (0,o)).bind fun j=>some (.inl ((aW (d+1)),j))else some (.inr o)) bC (0,m)).bind fun k=>some (.inl ((aW (c+1)),k))else some (.inr m)) bC (0,x1)).bind fun l=>some l
theorem dV1 [Inhabited Rc] {k} (d) (x1:aA YV) (c:Y0) (i:Int):dC (XD k (d+6)) 75 [.ref 1 0,.fn 85 [] [.ref 3 0]] [(3,.box [.ref 1 0]),(2,.lst 120 3 false (I YV.g x1)),(1,.box (ck c i (.own 2)))] 4 false=(Eb x1 c i).map (fun(w:aA YV)=>((.tup [],[(3,.box [.ref 1 0]),(2,.lst 120 3 false (I YV.g w)),(1,.box (ck c i (.own 2)))],0))):=by
 rw[xd (fn:=p75) rfl];refine bz lm ?_;refine bo (aK (S:=Int×(aA YV)) (enc:=fun⟨b,s⟩=>(Q [(0,.ref 1 0),(1,.fn 85 [] [.ref 3 0]),(16,.is 22 (I YM.g c.Measures)),(17,i64 (c.Measures.length:Int)),(18,i64 b)] [(3,.box [.ref 1 0]),(2,.lst 120 3 false (I YV.g s)),(1,.box (ck c i (.own 2)))])) (encE:=(fun(r:aA YV)=>(xq 0 [] [(3,.box [.ref 1 0]),(2,.lst 120 3 false (I YV.g r)),(1,.box (ck c i (.own 2)))]))) (fun⟨b,s⟩=>?_) bC (0,x1)) fun r=>?_;refine io ?_ rfl;refine bo rg fun a=>?_;refine bz lm ?_;refine bo (aK (S:=Int×(aA YV)) (enc:=fun⟨e,t⟩=>(Q [(0,.ref 1 0),(1,.fn 85 [] [.ref 3 0]),(4,i64 b),(16,.is 22 (I YM.g c.Measures)),(17,i64 (c.Measures.length:Int)),(18,i64 b),(24,.is 2 (I YW.g a.Cells)),(25,i64 (a.Cells.length:Int)),(26,i64 e)] [(4,.box (YM.g a)),(3,.box [.ref 1 0]),(2,.lst 120 3 false (I YV.g t)),(1,.box (ck c i (.own 2)))])) (encE:=(fun(q:aA YV)=>(xq 2 [(0,.ref 1 0),(1,.fn 85 [] [.ref 3 0]),(16,.is 22 (I YM.g c.Measures)),(17,i64 (c.Measures.length:Int)),(18,i64 b)] [(4,.box (YM.g a)),(3,.box [.ref 1 0]),(2,.lst 120 3 false (I YV.g q)),(1,.box (ck c i (.own 2)))]))) (fun⟨e,t⟩=>?_) bC (0,s)) fun q=>?_;refine io ?_ rfl;refine bo rg fun f=>?_;refine bz lm ?_;refine bo (aK (S:=Int×(aA YV)) (enc:=fun⟨j,u⟩=>(Q [(0,.ref 1 0),(1,.fn 85 [] [.ref 3 0]),(4,i64 b),(6,i64 e),(16,.is 22 (I YM.g c.Measures)),(17,i64 (c.Measures.length:Int)),(18,i64 b),(24,.is 2 (I YW.g a.Cells)),(25,i64 (a.Cells.length:Int)),(26,i64 e),(32,.is 2 (I YO.g f.Voices)),(33,i64 (f.Voices.length:Int)),(34,i64 j)] [(5,.box (YW.g f)),(4,.box (YM.g a)),(3,.box [.ref 1 0]),(2,.lst 120 3 false (I YV.g u)),(1,.box (ck c i (.own 2)))])) (encE:=(fun(p:aA YV)=>(xq 4 [(0,.ref 1 0),(1,.fn 85 [] [.ref 3 0]),(4,i64 b),(16,.is 22 (I YM.g c.Measures)),(17,i64 (c.Measures.length:Int)),(18,i64 b),(24,.is 2 (I YW.g a.Cells)),(25,i64 (a.Cells.length:Int)),(26,i64 e)] [(5,.box (YW.g f)),(4,.box (YM.g a)),(3,.box [.ref 1 0]),(2,.lst 120 3 false (I YV.g p)),(1,.box (ck c i (.own 2)))]))) (fun⟨j,u⟩=>?_) bC (0,t)) fun p=>?_;refine io ?_ rfl;refine bo rg fun m=>?_;refine bz lm ?_;refine bo (aK (S:=Int×(aA YV)) (enc:=fun⟨l,h⟩=>(Q [(0,.ref 1 0),(1,.fn 85 [] [.ref 3 0]),(4,i64 b),(6,i64 e),(8,i64 j),(16,.is 22 (I YM.g c.Measures)),(17,i64 (c.Measures.length:Int)),(18,i64 b),(24,.is 2 (I YW.g a.Cells)),(25,i64 (a.Cells.length:Int)),(26,i64 e),(32,.is 2 (I YO.g f.Voices)),(33,i64 (f.Voices.length:Int)),(34,i64 j),(40,.is 13 (I YE.g m.Events)),(41,i64 (m.Events.length:Int)),(42,i64 l)] [(6,.box (YO.g m)),(5,.box (YW.g f)),(4,.box (YM.g a)),(3,.box [.ref 1 0]),(2,.lst 120 3 false (I YV.g h)),(1,.box (ck c i (.own 2)))])) (encE:=(fun(o:aA YV)=>(xq 6 [(0,.ref 1 0),(1,.fn 85 [] [.ref 3 0]),(4,i64 b),(6,i64 e),(16,.is 22 (I YM.g c.Measures)),(17,i64 (c.Measures.length:Int)),(18,i64 b),(24,.is 2 (I YW.g a.Cells)),(25,i64 (a.Cells.length:Int)),(26,i64 e),(32,.is 2 (I YO.g f.Voices)),(33,i64 (f.Voices.length:Int)),(34,i64 j)] [(6,.box (YO.g m)),(5,.box (YW.g f)),(4,.box (YM.g a)),(3,.box [.ref 1 0]),(2,.lst 120 3 false (I YV.g o)),(1,.box (ck c i (.own 2)))]))) (fun⟨l,h⟩=>?_) bC (0,u)) fun o=>?_;refine io ?_ rfl;refine bo rg fun n=>?_;refine bo (eD2 d (YP.mk 4 0 e b j l 0) n (YK.mk c i h)) fun v=>?_;refine bo (gB (d+4) v n.ID h c i) fun x=>?_;rfl;rfl;rfl;rfl;rfl
def dW1 (x1:aA YV) (a:Y0) (b:Int):aB (aA YV):=
 (Eb x1 a b).bind fun c=>some c
theorem tO1 [Inhabited Rc] {k} (d) (x1:aA YV) (a:Y0) (b:Int):dC (XD k (d+7)) 38 [.ref 1 0] [(2,.lst 120 3 false (I YV.g x1)),(1,.box (ck a b (.own 2)))] 3 false=(dW1 x1 a b).map (fun(c:aA YV)=>((.tup [],[(2,.lst 120 3 false (I YV.g c)),(1,.box (ck a b (.own 2)))],0))):=by
 rw[xd (fn:=p38) rfl];refine bo (dV1 d x1 a b) fun e=>?_;rfl
def dX1 (x1:YE) (a:Int):aB Bool:=
 ((if decide (a>=(x1.Lyrics.length:Int))then some true else(aT x1.Lyrics a).bind fun b=>some (((b.Text==(⟨#[]⟩:ByteArray))&&((b.Link==0)&&true))!=false):aB (Bool))).bind fun c=>some c
theorem tP1 [Inhabited Rc] {k} (d) (x1:YE) (a:Int):OD k (d+1) 153 [.agg (YE.g x1),i64 a]=(dX1 x1 a).map bv:=by
 refine oe rfl ?_;refine bz lm ?_;refine bo (e:=id) ?_ fun c=>?_;refine io rfl ?_;refine bo rg fun b=>?_;rfl;rfl
def dY1 (x1 O T:Int) (V:aA (YP×Bool)) (W:aA YV) (U:Y0) (X:Int):aB (aA (YP×Bool)):=
 (aR (E:=Int×Int×Int×Int×Int×YY×(aA (YP×Bool))) (fun(⟨e,n,o,p,q,r,s,t⟩:Int×Int×Int×Int×Int×Int×YY×(aA (YP×Bool)))=>if decide (e<(U.Measures.length:Int))then(aT U.Measures e).bind fun u=>((if decide (x1>=(u.Cells.length:Int))then some true else(aT u.Cells x1).bind fun P=>some (decide (O>=(P.Voices.length:Int))):aB (Bool))).bind fun R=>if R then some (.inl ((aW (e+1)),n,o,p,q,r,s,t))else(aT u.Cells x1).bind fun S=>(aT S.Voices O).bind fun N=>(aR (E:=Int×Int×Int×Int×Int×YY×(aA (YP×Bool))) (fun(⟨a,f,g,h,i,j,b,c⟩:Int×Int×Int×Int×Int×Int×YY×(aA (YP×Bool)))=>if decide (a<(N.Events.length:Int))then(aT N.Events a).bind fun k=>(dX1 k T).bind fun v=>if v then some (.inl ((aW (a+1)),f,g,h,i,j,b,c))else(aT k.Lyrics T).bind fun d=>((if(b.Link==1)&&(d.Text.toList==(⟨#[]⟩:ByteArray).toList)then some (oZ c (YP.mk f 0 g h i j 0) true)else some c:aB (aA (YP×Bool)))).bind fun l=>((if((d.Text.toList==(⟨#[]⟩:ByteArray).toList)&&(d.Link==2))&&(b.Link !=2)then some (oZ l (YP.mk 4 0 x1 e O a 0) true)else some l:aB (aA (YP×Bool)))).bind fun w=>some (.inl ((aW (a+1)),4,x1,e,O,a,d,w))else some (.inr (f,g,h,i,j,b,c))) bC (0,n,o,p,q,r,s,t)).bind fun⟨x,y,z,A,B,C,D⟩=>some (.inl ((aW (e+1)),x,y,z,A,B,C,D))else some (.inr (n,o,p,q,r,s,t))) bC (0,0,0,0,0,0,(YY.mk (⟨#[]⟩:ByteArray) 0),V)).bind fun⟨F,G,H,J,K,L,m⟩=>((if L.Link==1 then some (oZ m (YP.mk F 0 G H J K 0) true)else some m:aB (aA (YP×Bool)))).bind fun M=>some M
theorem tQ1 [Inhabited Rc] {k} (d) (x1 y N:Int) (Y:aA (YP×Bool)) (z:aA YV) (c:Y0) (A:Int):dC (XD k (d+2)) 90 [.ref 1 0,i64 x1,i64 y,i64 N,.map 3] [(3,.mp (I (cE (eA YP.g) bv) Y)),(2,.lst 120 3 false (I YV.g z)),(1,.box (ck c A (.own 2)))] 4 false=(dY1 x1 y N Y z c A).map (fun(X:aA (YP×Bool))=>((.tup [],[(3,.mp (I (cE (eA YP.g) bv) X)),(2,.lst 120 3 false (I YV.g z)),(1,.box (ck c A (.own 2)))],0))):=by
 rw[xd (fn:=p90) rfl];refine bz lm ?_;refine bo (aK (S:=Int×Int×Int×Int×Int×Int×YY×(aA (YP×Bool))) (enc:=fun⟨a,O,P,R,T,U,V,W⟩=>(Q [(1,i64 x1),(2,i64 y),(3,i64 N),(4,.map 3),(10,.ref 4 0),(11,.ref 5 0),(22,.is 22 (I YM.g c.Measures)),(23,i64 (c.Measures.length:Int)),(24,i64 a)] [(5,.box [i64 O,i64 0,i64 P,i64 R,i64 T,i64 U,i64 0]),(4,.box (YY.g V)),(3,.mp (I (cE (eA YP.g) bv) W)),(2,.lst 120 3 false (I YV.g z)),(1,.box (ck c A (.own 2)))])) (encE:=(fun(⟨n,o,p,q,r,w,x⟩:Int×Int×Int×Int×Int×YY×(aA (YP×Bool)))=>(xq 0 [(4,.map 3),(10,.ref 4 0),(11,.ref 5 0)] [(5,.box [i64 n,i64 0,i64 o,i64 p,i64 q,i64 r,i64 0]),(4,.box (YY.g w)),(3,.mp (I (cE (eA YP.g) bv) x)),(2,.lst 120 3 false (I YV.g z)),(1,.box (ck c A (.own 2)))]))) (fun⟨a,O,P,R,T,U,V,W⟩=>?_) bC (0,0,0,0,0,0,(YY.mk (⟨#[]⟩:ByteArray) 0),Y)) fun⟨n,o,p,q,r,w,x⟩=>?_;refine io ?_ rfl;refine bo rg fun B=>?_;refine bz lm ?_;refine bo (e:=id) ?_ fun b0=>?_;refine io rfl ?_;refine bo rg fun a0=>?_;refine bz lm ?_;rfl;refine io rfl ?_;refine bo rg fun b4=>?_;refine bo rg fun s=>?_;refine bz lm ?_;refine bo (aK (S:=Int×Int×Int×Int×Int×Int×YY×(aA (YP×Bool))) (enc:=fun⟨b,f,h,i,j,l,m,t⟩=>(Q [(1,i64 x1),(2,i64 y),(3,i64 N),(4,.map 3),(10,.ref 4 0),(11,.ref 5 0),(12,i64 a),(22,.is 22 (I YM.g c.Measures)),(23,i64 (c.Measures.length:Int)),(24,i64 a),(54,.is 13 (I YE.g s.Events)),(55,i64 (s.Events.length:Int)),(56,i64 b)] [(6,.box (YM.g B)),(5,.box [i64 f,i64 0,i64 h,i64 i,i64 j,i64 l,i64 0]),(4,.box (YY.g m)),(3,.mp (I (cE (eA YP.g) bv) t)),(2,.lst 120 3 false (I YV.g z)),(1,.box (ck c A (.own 2)))])) (encE:=(fun(⟨E,F,G,H,J,K,L⟩:Int×Int×Int×Int×Int×YY×(aA (YP×Bool)))=>(xq 2 [(1,i64 x1),(2,i64 y),(3,i64 N),(4,.map 3),(10,.ref 4 0),(11,.ref 5 0),(22,.is 22 (I YM.g c.Measures)),(23,i64 (c.Measures.length:Int)),(24,i64 a)] [(6,.box (YM.g B)),(5,.box [i64 E,i64 0,i64 F,i64 G,i64 H,i64 J,i64 0]),(4,.box (YY.g K)),(3,.mp (I (cE (eA YP.g) bv) L)),(2,.lst 120 3 false (I YV.g z)),(1,.box (ck c A (.own 2)))]))) (fun⟨b,f,h,i,j,l,m,t⟩=>?_) bC (0,O,P,R,T,U,V,W)) fun⟨E,F,G,H,J,K,L⟩=>?_;refine io ?_ rfl;refine bo rg fun u=>?_;refine bo (tP1 d u N) fun Z=>?_;refine io rfl ?_;refine bo rg fun C=>?_;refine bz (dO rfl) ?_;refine bo (e:=(fun(v:aA (YP×Bool))=>(nq [(1,i64 x1),(2,i64 y),(3,i64 N),(4,.map 3),(10,.ref 4 0),(11,.ref 5 0),(12,i64 a),(16,.ref 8 0),(17,.ref 9 0),(22,.is 22 (I YM.g c.Measures)),(23,i64 (c.Measures.length:Int)),(24,i64 a),(54,.is 13 (I YE.g s.Events)),(55,i64 (s.Events.length:Int)),(56,i64 b)] [(9,.box (YY.g C)),(8,.box [i64 4,i64 0,i64 x1,i64 a,i64 y,i64 b,i64 0]),(7,.box (YE.g u)),(6,.box (YM.g B)),(5,.box [i64 f,i64 0,i64 h,i64 i,i64 j,i64 l,i64 0]),(4,.box (YY.g m)),(3,.mp (I (cE (eA YP.g) bv) v)),(2,.lst 120 3 false (I YV.g z)),(1,.box (ck c A (.own 2)))]))) ?_ fun v=>?_;refine io ?_ rfl;refine bz (gS gN bv t (YP.mk f 0 h i j l 0) true) ?_;rfl;refine bz (dO rfl) ?_;refine bz (dO rfl) ?_;refine bo (e:=(fun(D:aA (YP×Bool))=>(nq [(1,i64 x1),(2,i64 y),(3,i64 N),(4,.map 3),(10,.ref 4 0),(11,.ref 5 0),(12,i64 a),(16,.ref 8 0),(17,.ref 9 0),(22,.is 22 (I YM.g c.Measures)),(23,i64 (c.Measures.length:Int)),(24,i64 a),(54,.is 13 (I YE.g s.Events)),(55,i64 (s.Events.length:Int)),(56,i64 b)] [(9,.box (YY.g C)),(8,.box [i64 4,i64 0,i64 x1,i64 a,i64 y,i64 b,i64 0]),(7,.box (YE.g u)),(6,.box (YM.g B)),(5,.box [i64 f,i64 0,i64 h,i64 i,i64 j,i64 l,i64 0]),(4,.box (YY.g m)),(3,.mp (I (cE (eA YP.g) bv) D)),(2,.lst 120 3 false (I YV.g z)),(1,.box (ck c A (.own 2)))]))) ?_ fun D=>?_;refine io ?_ rfl;refine bz (gS gN bv v (YP.mk 4 0 x1 a y b 0) true) ?_;rfl;rfl;rfl;refine bo (e:=(fun(M:aA (YP×Bool))=>(nq [] [(5,.box [i64 n,i64 0,i64 o,i64 p,i64 q,i64 r,i64 0]),(4,.box (YY.g w)),(3,.mp (I (cE (eA YP.g) bv) M)),(2,.lst 120 3 false (I YV.g z)),(1,.box (ck c A (.own 2)))]))) ?_ fun M=>?_;refine io ?_ rfl;refine bz (gS gN bv x (YP.mk n 0 o p q r 0) true) ?_;rfl;rfl
def F91 (x1:YP) (b:YE) (a:aA (YP×Bool)):aB Bool:=
 some (kE a x1 false)
theorem eE2 [Inhabited Rc] {k} (d) (x1:YP) (b:YE) (a:aA (YP×Bool)):OD k (d+1) 91 [.agg (YP.g x1),.agg (YE.g b),.ip [.im (I (cE (eA YP.g) bv) a)]]=(F91 x1 b a).map bv:=by
 refine oe rfl ?_;refine bz (qE gN bv a x1 false) ?_;rfl
def Ec (x1:aA (YP×Bool)) (t:aA YV) (s:Y0) (u:Int):aB (aA YV):=
 (aR (E:=aA YV) (fun(⟨b,m⟩:Int×(aA YV))=>if decide (b<(s.Measures.length:Int))then(aT s.Measures b).bind fun n=>(aR (E:=aA YV) (fun(⟨c,o⟩:Int×(aA YV))=>if decide (c<(n.Cells.length:Int))then(aT n.Cells c).bind fun p=>(aR (E:=aA YV) (fun(⟨d,q⟩:Int×(aA YV))=>if decide (d<(p.Voices.length:Int))then(aT p.Voices d).bind fun r=>(aR (E:=aA YV) (fun(⟨a,e⟩:Int×(aA YV))=>if decide (a<(r.Events.length:Int))then(aT r.Events a).bind fun f=>(F91 (YP.mk 4 0 c b d a 0) f x1).bind fun g=>(iF g f.ID e s u).bind fun h=>some (.inl ((aW (a+1)),h))else some (.inr e)) bC (0,q)).bind fun i=>some (.inl ((aW (d+1)),i))else some (.inr q)) bC (0,o)).bind fun j=>some (.inl ((aW (c+1)),j))else some (.inr o)) bC (0,m)).bind fun k=>some (.inl ((aW (b+1)),k))else some (.inr m)) bC (0,t)).bind fun l=>some l
theorem dZ1 [Inhabited Rc] {k} (d) (x1:aA (YP×Bool)) (x:aA YV) (c:Y0) (i:Int):dC (XD k (d+2)) 75 [.ref 1 0,.fn 91 [] [.ref 4 0]] [(4,.box [.map 3]),(3,.mp (I (cE (eA YP.g) bv) x1)),(2,.lst 120 3 false (I YV.g x)),(1,.box (ck c i (.own 2)))] 5 false=(Ec x1 x c i).map (fun(w:aA YV)=>((.tup [],[(4,.box [.map 3]),(3,.mp (I (cE (eA YP.g) bv) x1)),(2,.lst 120 3 false (I YV.g w)),(1,.box (ck c i (.own 2)))],0))):=by
 rw[xd (fn:=p75) rfl];refine bz lm ?_;refine bo (aK (S:=Int×(aA YV)) (enc:=fun⟨b,s⟩=>(Q [(0,.ref 1 0),(1,.fn 91 [] [.ref 4 0]),(16,.is 22 (I YM.g c.Measures)),(17,i64 (c.Measures.length:Int)),(18,i64 b)] [(4,.box [.map 3]),(3,.mp (I (cE (eA YP.g) bv) x1)),(2,.lst 120 3 false (I YV.g s)),(1,.box (ck c i (.own 2)))])) (encE:=(fun(r:aA YV)=>(xq 0 [] [(4,.box [.map 3]),(3,.mp (I (cE (eA YP.g) bv) x1)),(2,.lst 120 3 false (I YV.g r)),(1,.box (ck c i (.own 2)))]))) (fun⟨b,s⟩=>?_) bC (0,x)) fun r=>?_;refine io ?_ rfl;refine bo rg fun a=>?_;refine bz lm ?_;refine bo (aK (S:=Int×(aA YV)) (enc:=fun⟨e,t⟩=>(Q [(0,.ref 1 0),(1,.fn 91 [] [.ref 4 0]),(4,i64 b),(16,.is 22 (I YM.g c.Measures)),(17,i64 (c.Measures.length:Int)),(18,i64 b),(24,.is 2 (I YW.g a.Cells)),(25,i64 (a.Cells.length:Int)),(26,i64 e)] [(5,.box (YM.g a)),(4,.box [.map 3]),(3,.mp (I (cE (eA YP.g) bv) x1)),(2,.lst 120 3 false (I YV.g t)),(1,.box (ck c i (.own 2)))])) (encE:=(fun(q:aA YV)=>(xq 2 [(0,.ref 1 0),(1,.fn 91 [] [.ref 4 0]),(16,.is 22 (I YM.g c.Measures)),(17,i64 (c.Measures.length:Int)),(18,i64 b)] [(5,.box (YM.g a)),(4,.box [.map 3]),(3,.mp (I (cE (eA YP.g) bv) x1)),(2,.lst 120 3 false (I YV.g q)),(1,.box (ck c i (.own 2)))]))) (fun⟨e,t⟩=>?_) bC (0,s)) fun q=>?_;refine io ?_ rfl;refine bo rg fun f=>?_;refine bz lm ?_;refine bo (aK (S:=Int×(aA YV)) (enc:=fun⟨h,u⟩=>(Q [(0,.ref 1 0),(1,.fn 91 [] [.ref 4 0]),(4,i64 b),(6,i64 e),(16,.is 22 (I YM.g c.Measures)),(17,i64 (c.Measures.length:Int)),(18,i64 b),(24,.is 2 (I YW.g a.Cells)),(25,i64 (a.Cells.length:Int)),(26,i64 e),(32,.is 2 (I YO.g f.Voices)),(33,i64 (f.Voices.length:Int)),(34,i64 h)] [(6,.box (YW.g f)),(5,.box (YM.g a)),(4,.box [.map 3]),(3,.mp (I (cE (eA YP.g) bv) x1)),(2,.lst 120 3 false (I YV.g u)),(1,.box (ck c i (.own 2)))])) (encE:=(fun(p:aA YV)=>(xq 4 [(0,.ref 1 0),(1,.fn 91 [] [.ref 4 0]),(4,i64 b),(16,.is 22 (I YM.g c.Measures)),(17,i64 (c.Measures.length:Int)),(18,i64 b),(24,.is 2 (I YW.g a.Cells)),(25,i64 (a.Cells.length:Int)),(26,i64 e)] [(6,.box (YW.g f)),(5,.box (YM.g a)),(4,.box [.map 3]),(3,.mp (I (cE (eA YP.g) bv) x1)),(2,.lst 120 3 false (I YV.g p)),(1,.box (ck c i (.own 2)))]))) (fun⟨h,u⟩=>?_) bC (0,t)) fun p=>?_;refine io ?_ rfl;refine bo rg fun m=>?_;refine bz lm ?_;refine bo (aK (S:=Int×(aA YV)) (enc:=fun⟨j,l⟩=>(Q [(0,.ref 1 0),(1,.fn 91 [] [.ref 4 0]),(4,i64 b),(6,i64 e),(8,i64 h),(16,.is 22 (I YM.g c.Measures)),(17,i64 (c.Measures.length:Int)),(18,i64 b),(24,.is 2 (I YW.g a.Cells)),(25,i64 (a.Cells.length:Int)),(26,i64 e),(32,.is 2 (I YO.g f.Voices)),(33,i64 (f.Voices.length:Int)),(34,i64 h),(40,.is 13 (I YE.g m.Events)),(41,i64 (m.Events.length:Int)),(42,i64 j)] [(7,.box (YO.g m)),(6,.box (YW.g f)),(5,.box (YM.g a)),(4,.box [.map 3]),(3,.mp (I (cE (eA YP.g) bv) x1)),(2,.lst 120 3 false (I YV.g l)),(1,.box (ck c i (.own 2)))])) (encE:=(fun(o:aA YV)=>(xq 6 [(0,.ref 1 0),(1,.fn 91 [] [.ref 4 0]),(4,i64 b),(6,i64 e),(16,.is 22 (I YM.g c.Measures)),(17,i64 (c.Measures.length:Int)),(18,i64 b),(24,.is 2 (I YW.g a.Cells)),(25,i64 (a.Cells.length:Int)),(26,i64 e),(32,.is 2 (I YO.g f.Voices)),(33,i64 (f.Voices.length:Int)),(34,i64 h)] [(7,.box (YO.g m)),(6,.box (YW.g f)),(5,.box (YM.g a)),(4,.box [.map 3]),(3,.mp (I (cE (eA YP.g) bv) x1)),(2,.lst 120 3 false (I YV.g o)),(1,.box (ck c i (.own 2)))]))) (fun⟨j,l⟩=>?_) bC (0,u)) fun o=>?_;refine io ?_ rfl;refine bo rg fun n=>?_;refine bo (eE2 d (YP.mk 4 0 e b h j 0) n x1) fun v=>?_;refine bo (gB d v n.ID l c i) fun y=>?_;rfl;rfl;rfl;rfl;rfl
def eA1 (x1:aA YV) (g:Y0) (m:Int):aB (aA YV):=
 (F20 g).bind fun n=>(aR (E:=aA (YP×Bool)) (fun(⟨a,d⟩:Int×(aA (YP×Bool)))=>if decide (a<n)then(aR (E:=aA (YP×Bool)) (fun(⟨b,e⟩:Int×(aA (YP×Bool)))=>if decide (b<2)then(aR (E:=aA (YP×Bool)) (fun(⟨c,f⟩:Int×(aA (YP×Bool)))=>if decide (c<4)then(dY1 a b c f x1 g m).bind fun h=>some (.inl ((aW (c+1)),h))else some (.inr f)) bC (0,e)).bind fun i=>some (.inl ((aW (b+1)),i))else some (.inr e)) bC (0,d)).bind fun j=>some (.inl ((aW (a+1)),j))else some (.inr d)) bC (0,[])).bind fun k=>(Ec k x1 g m).bind fun l=>some l
theorem tR1 [Inhabited Rc] {k} (d) (x1:aA YV) (c:Y0) (e:Int):dC (XD k (d+3)) 39 [.ref 1 0] [(2,.lst 120 3 false (I YV.g x1)),(1,.box (ck c e (.own 2)))] 3 false=(eA1 x1 c e).map (fun(p:aA YV)=>((.tup [],[(2,.lst 120 3 false (I YV.g p)),(1,.box (ck c e (.own 2)))],0))):=by
 rw[xd (fn:=p39) rfl];refine bo (kE1 (d+1) c) fun o=>?_;refine bo (aK (S:=Int×(aA (YP×Bool))) (enc:=fun⟨a,f⟩=>(Q [(0,.ref 1 0),(2,.ref 4 0),(13,i64 o),(14,i64 a)] [(4,.box [.map 3]),(3,.mp (I (cE (eA YP.g) bv) f)),(2,.lst 120 3 false (I YV.g x1)),(1,.box (ck c e (.own 2)))])) (encE:=(fun(l:aA (YP×Bool))=>(xq 0 [(0,.ref 1 0),(2,.ref 4 0)] [(4,.box [.map 3]),(3,.mp (I (cE (eA YP.g) bv) l)),(2,.lst 120 3 false (I YV.g x1)),(1,.box (ck c e (.own 2)))]))) (fun⟨a,f⟩=>?_) bC (0,[])) fun l=>?_;refine io ?_ rfl;refine bo (aK (S:=Int×(aA (YP×Bool))) (enc:=fun⟨b,h⟩=>(Q [(0,.ref 1 0),(2,.ref 4 0),(4,i64 a),(13,i64 o),(14,i64 a),(17,i64 b)] [(4,.box [.map 3]),(3,.mp (I (cE (eA YP.g) bv) h)),(2,.lst 120 3 false (I YV.g x1)),(1,.box (ck c e (.own 2)))])) (encE:=(fun(n:aA (YP×Bool))=>(xq 2 [(0,.ref 1 0),(2,.ref 4 0),(13,i64 o),(14,i64 a)] [(4,.box [.map 3]),(3,.mp (I (cE (eA YP.g) bv) n)),(2,.lst 120 3 false (I YV.g x1)),(1,.box (ck c e (.own 2)))]))) (fun⟨b,h⟩=>?_) bC (0,f)) fun n=>?_;refine io ?_ rfl;refine bo (aK (S:=Int×(aA (YP×Bool))) (enc:=fun⟨i,j⟩=>(Q [(0,.ref 1 0),(2,.ref 4 0),(4,i64 a),(5,i64 b),(13,i64 o),(14,i64 a),(17,i64 b),(20,i64 i)] [(4,.box [.map 3]),(3,.mp (I (cE (eA YP.g) bv) j)),(2,.lst 120 3 false (I YV.g x1)),(1,.box (ck c e (.own 2)))])) (encE:=(fun(m:aA (YP×Bool))=>(xq 4 [(0,.ref 1 0),(2,.ref 4 0),(4,i64 a),(13,i64 o),(14,i64 a),(17,i64 b)] [(4,.box [.map 3]),(3,.mp (I (cE (eA YP.g) bv) m)),(2,.lst 120 3 false (I YV.g x1)),(1,.box (ck c e (.own 2)))]))) (fun⟨i,j⟩=>?_) bC (0,h)) fun m=>?_;refine io ?_ rfl;refine bo (tQ1 d a b i j x1 c e) fun q=>?_;rfl;rfl;rfl;refine bo (dZ1 d l x1 c e) fun r=>?_;rfl
def Ed (x1:Y0):aB Unit:=
 some ()
theorem eB1 [Inhabited Rc] {k} (d) (x1:Y0):dC (XD k (d+1)) 25 [.ref 0 0] [(0,.box (Y0.g x1))] 4 true=(Ed x1).map (fun(_:Unit)=>((.fn 53 [] [.ref 4 0],[(4,.box [.ref 0 0]),(0,.box (Y0.g x1))],5))):=by
 rw[xd (fn:=p25) rfl];rfl
def vW (x1 d:Int) (e f:Int) (g h i:Int) (b:YJ) (j:Bool) (c:YP) (a:YZ):aB (Unit⊕Unit):=
 if((b.ID.Site==a.Site)&&((b.ID.Number==a.Number)&&true))!=false then some (.inl ())else some (.inr ())
theorem Wv [Inhabited Rc] {k} (d) (x1 c:Int) (e f:Int) (h i j:Int) (m:YJ) (l:Bool) (b:YP) (a:YZ):tA (XD k (d+1)) 5 [.agg [i64 x1,i64 c,i64 e,i64 f,i64 h,i64 i,i64 j],.ip (YJ.g m)] [(5,.loop 22 [(3,.ref 1 0),(4,.ref 2 0),(5,.ref 3 0)] [13,14] bP bQ false none),(3,.box [bv l]),(2,.box (YP.g b)),(1,.box (YZ.g a))] 6=(vW x1 c e f h i j m l b a).map (fun|.inl _=>((bv false,[(5,.loop 22 [(3,.ref 1 0),(4,.ref 2 0),(5,.ref 3 0)] [13,14] bP bQ false (some .ret)),(3,.box [bv true]),(2,.box [i64 x1,i64 c,i64 e,i64 f,i64 h,i64 i,i64 j]),(1,.box (YZ.g a))],0))|.inr _=>((bv true,[(5,.loop 22 [(3,.ref 1 0),(4,.ref 2 0),(5,.ref 3 0)] [13,14] bP bQ false none),(3,.box [bv l]),(2,.box (YP.g b)),(1,.box (YZ.g a))],0))):=by
 rw[yd];refine bz (So lU) ?_;refine io rfl rfl
def oQ (x1 d:Int) (e f:Int) (g h i:Int) (b:YF) (j:Bool) (c:YP) (a:YZ):aB (Unit⊕Unit):=
 if((b.ID.Site==a.Site)&&((b.ID.Number==a.Number)&&true))!=false then some (.inl ())else some (.inr ())
theorem Kw [Inhabited Rc] {k} (d) (x1 c:Int) (e f:Int) (h i j:Int) (m:YF) (l:Bool) (b:YP) (a:YZ):tA (XD k (d+1)) 5 [.agg [i64 x1,i64 c,i64 e,i64 f,i64 h,i64 i,i64 j],.ip (YF.g m)] [(5,.loop 22 [(3,.ref 1 0),(4,.ref 2 0),(5,.ref 3 0)] [13,14] bP bQ false none),(3,.box [bv l]),(2,.box (YP.g b)),(1,.box (YZ.g a))] 6=(oQ x1 c e f h i j m l b a).map (fun|.inl _=>((bv false,[(5,.loop 22 [(3,.ref 1 0),(4,.ref 2 0),(5,.ref 3 0)] [13,14] bP bQ false (some .ret)),(3,.box [bv true]),(2,.box [i64 x1,i64 c,i64 e,i64 f,i64 h,i64 i,i64 j]),(1,.box (YZ.g a))],0))|.inr _=>((bv true,[(5,.loop 22 [(3,.ref 1 0),(4,.ref 2 0),(5,.ref 3 0)] [13,14] bP bQ false none),(3,.box [bv l]),(2,.box (YP.g b)),(1,.box (YZ.g a))],0))):=by
 rw[yd];refine bz (So lU) ?_;refine io rfl rfl
def oR (x1 d:Int) (e f:Int) (g h i:Int) (b:YM) (j:Bool) (c:YP) (a:YZ):aB (Unit⊕Unit):=
 if((b.ID.Site==a.Site)&&((b.ID.Number==a.Number)&&true))!=false then some (.inl ())else some (.inr ())
theorem Kx [Inhabited Rc] {k} (d) (x1 c:Int) (e f:Int) (h i j:Int) (m:YM) (l:Bool) (b:YP) (a:YZ):tA (XD k (d+1)) 5 [.agg [i64 x1,i64 c,i64 e,i64 f,i64 h,i64 i,i64 j],.ip (YM.g m)] [(5,.loop 22 [(3,.ref 1 0),(4,.ref 2 0),(5,.ref 3 0)] [13,14] bP bQ false none),(3,.box [bv l]),(2,.box (YP.g b)),(1,.box (YZ.g a))] 6=(oR x1 c e f h i j m l b a).map (fun|.inl _=>((bv false,[(5,.loop 22 [(3,.ref 1 0),(4,.ref 2 0),(5,.ref 3 0)] [13,14] bP bQ false (some .ret)),(3,.box [bv true]),(2,.box [i64 x1,i64 c,i64 e,i64 f,i64 h,i64 i,i64 j]),(1,.box (YZ.g a))],0))|.inr _=>((bv true,[(5,.loop 22 [(3,.ref 1 0),(4,.ref 2 0),(5,.ref 3 0)] [13,14] bP bQ false none),(3,.box [bv l]),(2,.box (YP.g b)),(1,.box (YZ.g a))],0))):=by
 rw[yd];refine bz (So lU) ?_;refine io rfl rfl
def jR (x1 d:Int) (e f:Int) (g h i:Int) (b:YE) (j:Bool) (c:YP) (a:YZ):aB (Unit⊕Unit):=
 if((b.ID.Site==a.Site)&&((b.ID.Number==a.Number)&&true))!=false then some (.inl ())else some (.inr ())
theorem Ky [Inhabited Rc] {k} (d) (x1 c:Int) (e f:Int) (h i j:Int) (m:YE) (l:Bool) (b:YP) (a:YZ):tA (XD k (d+1)) 5 [.agg [i64 x1,i64 c,i64 e,i64 f,i64 h,i64 i,i64 j],.ip (YE.g m)] [(5,.loop 22 [(3,.ref 1 0),(4,.ref 2 0),(5,.ref 3 0)] [13,14] bP bQ false none),(3,.box [bv l]),(2,.box (YP.g b)),(1,.box (YZ.g a))] 6=(jR x1 c e f h i j m l b a).map (fun|.inl _=>((bv false,[(5,.loop 22 [(3,.ref 1 0),(4,.ref 2 0),(5,.ref 3 0)] [13,14] bP bQ false (some .ret)),(3,.box [bv true]),(2,.box [i64 x1,i64 c,i64 e,i64 f,i64 h,i64 i,i64 j]),(1,.box (YZ.g a))],0))|.inr _=>((bv true,[(5,.loop 22 [(3,.ref 1 0),(4,.ref 2 0),(5,.ref 3 0)] [13,14] bP bQ false none),(3,.box [bv l]),(2,.box (YP.g b)),(1,.box (YZ.g a))],0))):=by
 rw[yd];refine bz (So lU) ?_;refine io rfl rfl
def oS (x1 d:Int) (e f:Int) (g h i:Int) (b:YN) (j:Bool) (c:YP) (a:YZ):aB (Unit⊕Unit):=
 if((b.ID.Site==a.Site)&&((b.ID.Number==a.Number)&&true))!=false then some (.inl ())else some (.inr ())
theorem Kz [Inhabited Rc] {k} (d) (x1 c:Int) (e f:Int) (h i j:Int) (m:YN) (l:Bool) (b:YP) (a:YZ):tA (XD k (d+1)) 5 [.agg [i64 x1,i64 c,i64 e,i64 f,i64 h,i64 i,i64 j],.ip (YN.g m)] [(5,.loop 22 [(3,.ref 1 0),(4,.ref 2 0),(5,.ref 3 0)] [13,14] bP bQ false none),(3,.box [bv l]),(2,.box (YP.g b)),(1,.box (YZ.g a))] 6=(oS x1 c e f h i j m l b a).map (fun|.inl _=>((bv false,[(5,.loop 22 [(3,.ref 1 0),(4,.ref 2 0),(5,.ref 3 0)] [13,14] bP bQ false (some .ret)),(3,.box [bv true]),(2,.box [i64 x1,i64 c,i64 e,i64 f,i64 h,i64 i,i64 j]),(1,.box (YZ.g a))],0))|.inr _=>((bv true,[(5,.loop 22 [(3,.ref 1 0),(4,.ref 2 0),(5,.ref 3 0)] [13,14] bP bQ false none),(3,.box [bv l]),(2,.box (YP.g b)),(1,.box (YZ.g a))],0))):=by
 rw[yd];refine bz (So lU) ?_;refine io rfl rfl
def tP (x1:Y0) (u:Bool) (D:YP) (F:YZ):aB (YP⊕Unit):=
 (aR (E:=(Int×Int×Int)⊕Unit) (fun(⟨G,f⟩:Int×Int)=>if decide (f<(x1.Parts.length:Int))then(aT x1.Parts f).bind fun H=>(vW 1 f 0 0 0 0 0 H u D F).bind fun J=>(match J with|.inl _=>some (.inr (.inl (1,f,0)))|.inr _=>(aT x1.Parts f).bind fun K=>(aR (E:=(Int×Int)⊕Int) (fun(⟨g,h⟩:Int×Int)=>if decide (h<(K.Staves.length:Int))then(aT x1.Parts f).bind fun L=>(aT L.Staves h).bind fun M=>(oQ 2 0 g 0 0 0 0 M u D F).bind fun N=>(match N with|.inl _=>some (.inr (.inl (g,g)))|.inr _=>some (.inl ((aW (g+1)),(aW (h+1)))))else some (.inr (.inr g))) bC (G,0)).bind fun O=>(match O with|.inl ⟨x33,x34⟩=>some (.inr (.inl (2,0,x34)))|.inr x35=>some (.inl (x35,(aW (f+1))))))else some (.inr (.inr ()))) bC (0,0)).bind fun P=>(match P with|.inl ⟨x37,x38,x39⟩=>some (.inl (YP.mk x37 x38 x39 0 0 0 0))|.inr _=>(aR (E:=(Int×Int×Int×Int×Int)⊕Unit) (fun(a:Int)=>if decide (a<(x1.Measures.length:Int))then(aT x1.Measures a).bind fun i=>(oR 3 0 0 a 0 0 0 i u D F).bind fun j=>(match j with|.inl _=>some (.inr (.inl (3,0,a,0,0)))|.inr _=>(aT x1.Measures a).bind fun k=>(aR (E:=(Int×Int×Int)⊕Unit) (fun(b:Int)=>if decide (b<(k.Cells.length:Int))then(aT x1.Measures a).bind fun l=>(aT l.Cells b).bind fun m=>(aR (E:=(Int×Int)⊕Unit) (fun(c:Int)=>if decide (c<(m.Voices.length:Int))then(aT x1.Measures a).bind fun n=>(aT n.Cells b).bind fun o=>(aT o.Voices c).bind fun p=>(aR (E:=Int⊕Unit) (fun(d:Int)=>if decide (d<(p.Events.length:Int))then(aT x1.Measures a).bind fun q=>(aT q.Cells b).bind fun r=>(aT r.Voices c).bind fun s=>(aT s.Events d).bind fun t=>(jR 4 0 b a c d 0 t u D F).bind fun v=>(match v with|.inl _=>some (.inr (.inl d))|.inr _=>some (.inl (aW (d+1))))else some (.inr (.inr ()))) bC 0).bind fun w=>(match w with|.inl x201=>some (.inr (.inl (c,x201)))|.inr _=>some (.inl (aW (c+1))))else some (.inr (.inr ()))) bC 0).bind fun x=>(match x with|.inl ⟨x203,x204⟩=>some (.inr (.inl (b,x203,x204)))|.inr _=>some (.inl (aW (b+1))))else some (.inr (.inr ()))) bC 0).bind fun y=>(match y with|.inl ⟨x206,x207,x208⟩=>some (.inr (.inl (4,x206,a,x207,x208)))|.inr _=>some (.inl (aW (a+1)))))else some (.inr (.inr ()))) bC 0).bind fun z=>(match z with|.inl ⟨x210,x211,x212,x213,x214⟩=>some (.inl (YP.mk x210 0 x211 x212 x213 x214 0))|.inr _=>(aR (E:=Int⊕Unit) (fun(e:Int)=>if decide (e<(x1.Spanners.length:Int))then(aT x1.Spanners e).bind fun A=>(oS 5 0 0 0 0 0 e A u D F).bind fun B=>(match B with|.inl _=>some (.inr (.inl e))|.inr _=>some (.inl (aW (e+1))))else some (.inr (.inr ()))) bC 0).bind fun C=>(match C with|.inl x221=>some (.inl (YP.mk 5 0 0 0 0 0 x221))|.inr _=>some (.inr ()))))
theorem eC1 [Inhabited Rc] {k} (d) (x1:Y0) (h:Bool) (i:YP) (c:YZ):dC (XD k (d+2)) 53 [.yld 5,.ref 4 0] [(5,.loop 22 [(3,.ref 1 0),(4,.ref 2 0),(5,.ref 3 0)] [13,14] bP bQ false none),(4,.box [.ref 0 0]),(0,.box (Y0.g x1)),(3,.box [bv h]),(2,.box (YP.g i)),(1,.box (YZ.g c))] 6 false=(tP x1 h i c).map (fun|.inl x223=>((.tup [],[(5,.loop 22 [(3,.ref 1 0),(4,.ref 2 0),(5,.ref 3 0)] [13,14] bP bQ false (some .ret)),(4,.box [.ref 0 0]),(0,.box (Y0.g x1)),(3,.box [bv true]),(2,.box (YP.g x223)),(1,.box (YZ.g c))],0))|.inr _=>((.tup [],[(5,.loop 22 [(3,.ref 1 0),(4,.ref 2 0),(5,.ref 3 0)] [13,14] bP bQ false none),(4,.box [.ref 0 0]),(0,.box (Y0.g x1)),(3,.box [bv h]),(2,.box (YP.g i)),(1,.box (YZ.g c))],0))):=by
 rw[xd (fn:=p53) rfl];refine bz lm ?_;refine bo (aK (S:=Int×Int) (enc:=fun⟨A,j⟩=>(Q [(0,.yld 5),(1,.ref 4 0),(3,i64 A),(15,i64 (x1.Parts.length:Int)),(16,i64 j)] [(5,.loop 22 [(3,.ref 1 0),(4,.ref 2 0),(5,.ref 3 0)] [13,14] bP bQ false none),(4,.box [.ref 0 0]),(0,.box (Y0.g x1)),(3,.box [bv h]),(2,.box (YP.g i)),(1,.box (YZ.g c))])) (encE:=(fun|.inl ⟨U,V,W⟩=>(rq [(0,.yld 5),(1,.ref 4 0)] [(5,.loop 22 [(3,.ref 1 0),(4,.ref 2 0),(5,.ref 3 0)] [13,14] bP bQ false (some .ret)),(4,.box [.ref 0 0]),(0,.box (Y0.g x1)),(3,.box [bv true]),(2,.box [i64 U,i64 V,i64 W,i64 0,i64 0,i64 0,i64 0]),(1,.box (YZ.g c))])|.inr _=>(xq 0 [(0,.yld 5),(1,.ref 4 0)] [(5,.loop 22 [(3,.ref 1 0),(4,.ref 2 0),(5,.ref 3 0)] [13,14] bP bQ false none),(4,.box [.ref 0 0]),(0,.box (Y0.g x1)),(3,.box [bv h]),(2,.box (YP.g i)),(1,.box (YZ.g c))]))) (fun⟨A,j⟩=>?_) bC (0,0)) fun b5=>?_;refine io ?_ rfl;refine bo rg fun X=>?_;refine bo (Wv d 1 j 0 0 0 0 0 X h i c) fun Y=>?_;rcases Y with _|_;rfl;refine bo rg fun Z=>?_;refine bz lm ?_;refine bo (aK (S:=Int×Int) (enc:=fun⟨B,P⟩=>(Q [(0,.yld 5),(1,.ref 4 0),(3,i64 B),(4,i64 j),(15,i64 (x1.Parts.length:Int)),(16,i64 j),(39,i64 (Z.Staves.length:Int)),(40,i64 P)] [(5,.loop 22 [(3,.ref 1 0),(4,.ref 2 0),(5,.ref 3 0)] [13,14] bP bQ false none),(3,.box [bv h]),(2,.box (YP.g i)),(1,.box (YZ.g c)),(4,.box [.ref 0 0]),(0,.box (Y0.g x1))])) (encE:=(fun|.inl ⟨R,T⟩=>(rq [(0,.yld 5),(1,.ref 4 0),(3,i64 R),(15,i64 (x1.Parts.length:Int)),(16,i64 j)] [(5,.loop 22 [(3,.ref 1 0),(4,.ref 2 0),(5,.ref 3 0)] [13,14] bP bQ false (some .ret)),(3,.box [bv true]),(2,.box [i64 2,i64 0,i64 T,i64 0,i64 0,i64 0,i64 0]),(1,.box (YZ.g c)),(4,.box [.ref 0 0]),(0,.box (Y0.g x1))])|.inr x35=>(xq 2 [(0,.yld 5),(1,.ref 4 0),(3,i64 x35),(15,i64 (x1.Parts.length:Int)),(16,i64 j)] [(5,.loop 22 [(3,.ref 1 0),(4,.ref 2 0),(5,.ref 3 0)] [13,14] bP bQ false none),(3,.box [bv h]),(2,.box (YP.g i)),(1,.box (YZ.g c)),(4,.box [.ref 0 0]),(0,.box (Y0.g x1))]))) (fun⟨B,P⟩=>?_) bC (A,0)) fun b4=>?_;refine io ?_ rfl;refine bo rg fun d3=>?_;refine bo rg fun a0=>?_;refine bo (Kw d 2 0 B 0 0 0 0 a0 h i c) fun b0=>?_;rcases b0 with _|_;rfl;rfl;rcases b4 with⟨R,T⟩|x35;rfl;rfl;rcases b5 with⟨U,V,W⟩|_;rfl;refine bz lm ?_;refine bo (aK (S:=Int) (enc:=fun a=>(Q [(0,.yld 5),(1,.ref 4 0),(67,i64 (x1.Measures.length:Int)),(68,i64 a)] [(5,.loop 22 [(3,.ref 1 0),(4,.ref 2 0),(5,.ref 3 0)] [13,14] bP bQ false none),(4,.box [.ref 0 0]),(0,.box (Y0.g x1)),(3,.box [bv h]),(2,.box (YP.g i)),(1,.box (YZ.g c))])) (encE:=(fun|.inl ⟨u,v,w,x,y⟩=>(rq [(0,.yld 5),(1,.ref 4 0)] [(5,.loop 22 [(3,.ref 1 0),(4,.ref 2 0),(5,.ref 3 0)] [13,14] bP bQ false (some .ret)),(4,.box [.ref 0 0]),(0,.box (Y0.g x1)),(3,.box [bv true]),(2,.box [i64 u,i64 0,i64 v,i64 w,i64 x,i64 y,i64 0]),(1,.box (YZ.g c))])|.inr _=>(xq 4 [(0,.yld 5),(1,.ref 4 0)] [(5,.loop 22 [(3,.ref 1 0),(4,.ref 2 0),(5,.ref 3 0)] [13,14] bP bQ false none),(4,.box [.ref 0 0]),(0,.box (Y0.g x1)),(3,.box [bv h]),(2,.box (YP.g i)),(1,.box (YZ.g c))]))) (fun a=>?_) bC 0) fun L=>?_;refine io ?_ rfl;refine bo rg fun C=>?_;refine bo (Kx d 3 0 0 a 0 0 0 C h i c) fun D=>?_;rcases D with _|_;rfl;refine bo rg fun f=>?_;refine bz lm ?_;refine bo (aK (S:=Int) (enc:=fun b=>(Q [(0,.yld 5),(1,.ref 4 0),(6,i64 a),(67,i64 (x1.Measures.length:Int)),(68,i64 a),(91,i64 (f.Cells.length:Int)),(92,i64 b)] [(5,.loop 22 [(3,.ref 1 0),(4,.ref 2 0),(5,.ref 3 0)] [13,14] bP bQ false none),(3,.box [bv h]),(2,.box (YP.g i)),(1,.box (YZ.g c)),(4,.box [.ref 0 0]),(0,.box (Y0.g x1))])) (encE:=(fun|.inl ⟨r,s,t⟩=>(rq [(0,.yld 5),(1,.ref 4 0),(67,i64 (x1.Measures.length:Int)),(68,i64 a)] [(5,.loop 22 [(3,.ref 1 0),(4,.ref 2 0),(5,.ref 3 0)] [13,14] bP bQ false (some .ret)),(3,.box [bv true]),(2,.box [i64 4,i64 0,i64 r,i64 a,i64 s,i64 t,i64 0]),(1,.box (YZ.g c)),(4,.box [.ref 0 0]),(0,.box (Y0.g x1))])|.inr _=>(xq 6 [(0,.yld 5),(1,.ref 4 0),(67,i64 (x1.Measures.length:Int)),(68,i64 a)] [(5,.loop 22 [(3,.ref 1 0),(4,.ref 2 0),(5,.ref 3 0)] [13,14] bP bQ false none),(3,.box [bv h]),(2,.box (YP.g i)),(1,.box (YZ.g c)),(4,.box [.ref 0 0]),(0,.box (Y0.g x1))]))) (fun b=>?_) bC 0) fun K=>?_;refine io ?_ rfl;refine bo rg fun b6=>?_;refine bo rg fun l=>?_;refine bz lm ?_;refine bo (aK (S:=Int) (enc:=fun e=>(Q [(0,.yld 5),(1,.ref 4 0),(6,i64 a),(7,i64 b),(67,i64 (x1.Measures.length:Int)),(68,i64 a),(91,i64 (f.Cells.length:Int)),(92,i64 b),(107,i64 (l.Voices.length:Int)),(108,i64 e)] [(5,.loop 22 [(3,.ref 1 0),(4,.ref 2 0),(5,.ref 3 0)] [13,14] bP bQ false none),(3,.box [bv h]),(2,.box (YP.g i)),(1,.box (YZ.g c)),(4,.box [.ref 0 0]),(0,.box (Y0.g x1))])) (encE:=(fun|.inl ⟨p,q⟩=>(rq [(0,.yld 5),(1,.ref 4 0),(6,i64 a),(67,i64 (x1.Measures.length:Int)),(68,i64 a),(91,i64 (f.Cells.length:Int)),(92,i64 b)] [(5,.loop 22 [(3,.ref 1 0),(4,.ref 2 0),(5,.ref 3 0)] [13,14] bP bQ false (some .ret)),(3,.box [bv true]),(2,.box [i64 4,i64 0,i64 b,i64 a,i64 p,i64 q,i64 0]),(1,.box (YZ.g c)),(4,.box [.ref 0 0]),(0,.box (Y0.g x1))])|.inr _=>(xq 8 [(0,.yld 5),(1,.ref 4 0),(6,i64 a),(67,i64 (x1.Measures.length:Int)),(68,i64 a),(91,i64 (f.Cells.length:Int)),(92,i64 b)] [(5,.loop 22 [(3,.ref 1 0),(4,.ref 2 0),(5,.ref 3 0)] [13,14] bP bQ false none),(3,.box [bv h]),(2,.box (YP.g i)),(1,.box (YZ.g c)),(4,.box [.ref 0 0]),(0,.box (Y0.g x1))]))) (fun e=>?_) bC 0) fun J=>?_;refine io ?_ rfl;refine bo rg fun b7=>?_;refine bo rg fun b8=>?_;refine bo rg fun E=>?_;refine bz lm ?_;refine bo (aK (S:=Int) (enc:=fun m=>(Q [(0,.yld 5),(1,.ref 4 0),(6,i64 a),(7,i64 b),(8,i64 e),(67,i64 (x1.Measures.length:Int)),(68,i64 a),(91,i64 (f.Cells.length:Int)),(92,i64 b),(107,i64 (l.Voices.length:Int)),(108,i64 e),(127,i64 (E.Events.length:Int)),(128,i64 m)] [(5,.loop 22 [(3,.ref 1 0),(4,.ref 2 0),(5,.ref 3 0)] [13,14] bP bQ false none),(3,.box [bv h]),(2,.box (YP.g i)),(1,.box (YZ.g c)),(4,.box [.ref 0 0]),(0,.box (Y0.g x1))])) (encE:=(fun|.inl o=>(rq [(0,.yld 5),(1,.ref 4 0),(6,i64 a),(7,i64 b),(67,i64 (x1.Measures.length:Int)),(68,i64 a),(91,i64 (f.Cells.length:Int)),(92,i64 b),(107,i64 (l.Voices.length:Int)),(108,i64 e)] [(5,.loop 22 [(3,.ref 1 0),(4,.ref 2 0),(5,.ref 3 0)] [13,14] bP bQ false (some .ret)),(3,.box [bv true]),(2,.box [i64 4,i64 0,i64 b,i64 a,i64 e,i64 o,i64 0]),(1,.box (YZ.g c)),(4,.box [.ref 0 0]),(0,.box (Y0.g x1))])|.inr _=>(xq 10 [(0,.yld 5),(1,.ref 4 0),(6,i64 a),(7,i64 b),(67,i64 (x1.Measures.length:Int)),(68,i64 a),(91,i64 (f.Cells.length:Int)),(92,i64 b),(107,i64 (l.Voices.length:Int)),(108,i64 e)] [(5,.loop 22 [(3,.ref 1 0),(4,.ref 2 0),(5,.ref 3 0)] [13,14] bP bQ false none),(3,.box [bv h]),(2,.box (YP.g i)),(1,.box (YZ.g c)),(4,.box [.ref 0 0]),(0,.box (Y0.g x1))]))) (fun m=>?_) bC 0) fun H=>?_;refine io ?_ rfl;refine bo rg fun b9=>?_;refine bo rg fun d1=>?_;refine bo rg fun d2=>?_;refine bo rg fun F=>?_;refine bo (Ky d 4 0 b a e m 0 F h i c) fun G=>?_;rcases G with _|_;rfl;rfl;rcases H with o|_;rfl;rfl;rcases J with⟨p,q⟩|_;rfl;rfl;rcases K with⟨r,s,t⟩|_;rfl;rfl;rcases L with⟨u,v,w,x,y⟩|_;rfl;refine bz lm ?_;refine bo (aK (S:=Int) (enc:=fun n=>(Q [(0,.yld 5),(1,.ref 4 0),(166,i64 (x1.Spanners.length:Int)),(167,i64 n)] [(5,.loop 22 [(3,.ref 1 0),(4,.ref 2 0),(5,.ref 3 0)] [13,14] bP bQ false none),(4,.box [.ref 0 0]),(0,.box (Y0.g x1)),(3,.box [bv h]),(2,.box (YP.g i)),(1,.box (YZ.g c))])) (encE:=(fun|.inl z=>(rq [] [(5,.loop 22 [(3,.ref 1 0),(4,.ref 2 0),(5,.ref 3 0)] [13,14] bP bQ false (some .ret)),(4,.box [.ref 0 0]),(0,.box (Y0.g x1)),(3,.box [bv true]),(2,.box [i64 5,i64 0,i64 0,i64 0,i64 0,i64 0,i64 z]),(1,.box (YZ.g c))])|.inr _=>(xq 12 [] [(5,.loop 22 [(3,.ref 1 0),(4,.ref 2 0),(5,.ref 3 0)] [13,14] bP bQ false none),(4,.box [.ref 0 0]),(0,.box (Y0.g x1)),(3,.box [bv h]),(2,.box (YP.g i)),(1,.box (YZ.g c))]))) (fun n=>?_) bC 0) fun O=>?_;refine io ?_ rfl;refine bo rg fun M=>?_;refine bo (Kz d 5 0 0 0 0 0 n M h i c) fun N=>?_;rcases N with _|_;rfl;rfl;rcases O with z|_;rfl;rfl
end Go.P
namespace Go.P
open Go.Sim (Ex dW CK)
open K (I Q rq nq xq ck)
def Yu (x1:Y0) (a:YZ):aB (YP×Bool):=
 if((a.Site==0)&&((a.Number==0)&&true))!=false then some ((YP.mk 0 0 0 0 0 0 0),false)else(Ed x1).bind fun _=>(tP x1 false (YP.mk 0 0 0 0 0 0 0) a).bind fun b=>(match b with|.inl x3=>some (x3,true)|.inr _=>some ((YP.mk 0 0 0 0 0 0 0),false))
theorem kK1 [Inhabited Rc] {k} (d) (x1:Y0) (a:YZ):OD k (d+3) 11 [.agg (Y0.g x1),.agg (YZ.g a)]=(Yu x1 a).map (fun⟨c,e⟩=>.tup [.agg (YP.g c),bv e]):=by
 refine oe rfl ?_;refine io rfl ?_;refine bo (eB1 (d+1) x1) fun _=>?_;refine bo (eC1 d x1 false (YP.mk 0 0 0 0 0 0 0) a) fun b=>?_;rcases b with f|_;rfl;rfl
def Rl (x1:aA Int):aB (aA Int):=
 (uU (x1.length:Int) (x1.length:Int) 0).bind fun j=>(aR (E:=aA Int) (fun(⟨b,a⟩:Int×(aA Int))=>if decide (b<(x1.length:Int))then(cK a (aW (b-1))).bind fun c=>(dG a c).bind fun d=>(aT x1 (aW (b-1))).bind fun e=>(cK a b).bind fun f=>(iZ a f (fun i=>(aW (d+e)))).bind fun g=>some (.inl ((aW (b+1)),g))else some (.inr a)) bC (1,j)).bind fun h=>some h
theorem tS1 [Inhabited Rc] {k} (d) (x1:aA Int):OD k (d+1) 169 [.is 1 (I cI x1)]=(Rl x1).map (fun q=>.is 1 (I cI q)):=by
 refine oe rfl ?_;refine bz lm ?_;refine bo (jL cI _ _ 0) fun p=>?_;refine bo (aK (S:=Int×(aA Int)) (enc:=fun⟨i,a⟩=>(Q [(0,.is 1 (I cI x1)),(3,.own 0),(4,i64 i)] [(0,.lst 3 1 true (I cI a))])) (encE:=(fun(e:aA Int)=>(xq 0 [(3,.own 0)] [(0,.lst 3 1 true (I cI e))]))) (fun⟨i,a⟩=>?_) bC (1,p)) fun e=>?_;refine bz lm ?_;refine io ?_ rfl;refine bo (aY cI a _) fun j=>?_;refine bo (cC (A:=Int) (c:=cI) (g:=fun b=>i64 b) (fun _=>rfl) a _) fun b=>?_;refine bo rg fun h=>?_;refine bo (aY cI a _) fun l=>?_;refine bo (fE (A:=Int) (c:=cI) (m:=1) (f:=fun n=>(aW (b+h))) (fun _=>⟨rfl,rfl⟩) (pY2 rfl) a _) fun o=>?_;rfl;rfl
def La (x1:YO) (b:Int):aB ((aA Int)×Int):=
 (Kv x1 b).bind fun⟨c,a⟩=>if a !=0 then some ([],a)else(Rl c).bind fun d=>some (d,0)
theorem hW1 [Inhabited Rc] {k} (d) (x1:YO) (a:Int):OD k (d+14) 107 [.agg (YO.g x1),i64 a]=(La x1 a).map (fun⟨c,e⟩=>.tup [.is 1 (I cI c),i64 e]):=by
 refine oe rfl ?_;refine bo (hS1 d x1 a) fun⟨b,f⟩=>?_;refine io rfl ?_;refine bo (tS1 (d+12) b) fun h=>?_;rfl
def Lb (x1:YK) (f:YZ):aB (YQ×Bool):=
 (Yu x1.s' f).bind fun⟨a,g⟩=>if(!g)||(a.Kind !=4)then some ((YQ.mk 0 0 0 0),false)else(aT x1.s'.Measures a.Measure).bind fun d=>(zT d).bind fun⟨h,k⟩=>(aT d.Cells a.Staff).bind fun i=>(aT i.Voices a.Voice).bind fun j=>(La j h).bind fun⟨b,e⟩=>if decide (a.Event>=(b.length:Int))then some ((YQ.mk 0 0 0 0),false)else(aT b a.Event).bind fun c=>some ((YQ.mk a.Measure c a.Staff a.Voice),true)
theorem hY1 [Inhabited Rc] {k} (d) (x1:YK) (a:YZ):OD k (d+15) 154 [.ip (YK.g x1),.agg (YZ.g a)]=(Lb x1 a).map (fun⟨j,l⟩=>.tup [.agg (YQ.g j),bv l]):=by
 refine oe rfl ?_;refine bo (kK1 (d+11) x1.s' a) fun⟨m,n⟩=>?_;refine bz (fF rfl) ?_;refine io rfl ?_;refine bo rg fun f=>?_;refine bo (Ib (d+10) f) fun⟨h,o⟩=>?_;refine bo rg fun p=>?_;refine bo rg fun i=>?_;refine bo (hW1 d i h) fun⟨b,c⟩=>?_;refine bz lm ?_;refine io rfl ?_;refine bo rg fun e=>?_;rfl
def Lc (x1 a:Int):aB Bool:=
 some ((decide (x1>=0))&&(decide (x1<=a)))
theorem Oa [Inhabited Rc] {k} (d) (x1 a:Int):OD k (d+1) 211 [i64 x1,i64 a]=(Lc x1 a).map bv:=by
 refine oe rfl ?_;refine bz (dO rfl) ?_;rfl
def Ww (x1:YQ):aB Bool:=
 (Lc x1.Measure 1023).bind fun a=>((if a then(Lc x1.At 4398046511104).bind fun b=>some b else some false:aB (Bool))).bind fun c=>((if c then(Lc x1.Staff 127).bind fun d=>some d else some false:aB (Bool))).bind fun e=>((if e then(Lc x1.Voice 1).bind fun f=>some f else some false:aB (Bool))).bind fun g=>some g
theorem hZ1 [Inhabited Rc] {k} (d) (x1:YQ):OD k (d+2) 196 [.agg (YQ.g x1)]=(Ww x1).map bv:=by
 refine oe rfl ?_;refine bo (Oa d x1.Measure 1023) fun a=>?_;refine bo (e:=id) ?_ fun c=>?_;refine io ?_ rfl;refine bo (Oa d x1.At 4398046511104) fun b=>?_;rfl;refine bo (e:=id) ?_ fun h=>?_;refine io ?_ rfl;refine bo (Oa d x1.Staff 127) fun f=>?_;rfl;refine bo (e:=id) ?_ fun j=>?_;refine io ?_ rfl;refine bo (Oa d x1.Voice 1) fun i=>?_;rfl;rfl
def Wx (x1:Int):aB Bool:=
 some ((x1==1)||(x1==7))
theorem iA1 [Inhabited Rc] {k} (d) (x1:Int):OD k (d+1) 197 [i64 x1]=(Wx x1).map bv:=by
 refine oe rfl ?_;refine bz (fF rfl) ?_;rfl
def Rm (x1:Int):aB Bool:=
 some (x1 !=x1)
theorem iB1 [Inhabited Rc] {k} (d) (x1:Int):OD k (d+1) 172 [i64 x1]=(Rm x1).map bv:=by
 refine oe rfl ?_;rfl
def pB (x1 a:Int):aB Int:=
 (Rm x1).bind fun c=>(Rm a).bind fun b=>if c then if b then some 0 else some (-1)else if b then some 1 else if decide (x1<a)then some (-1)else if decide (x1>a)then some 1 else some 0
theorem oB [Inhabited Rc] {k} (d) (x1 a:Int):OD k (d+2) 112 [i64 x1,i64 a]=(pB x1 a).map i64:=by
 refine oe rfl ?_;refine bo (iB1 d x1) fun b=>?_;refine bo (iB1 d a) fun c=>?_;refine io ?_ ?_;refine io rfl rfl;refine io rfl ?_;refine io rfl ?_;refine io rfl rfl
def Ld (x1:aA Int):aB Int:=
 (aR (E:=Int⊕Unit) (fun(a:Int)=>if decide (a<(x1.length:Int))then(aT x1 a).bind fun b=>if b !=0 then some (.inr (.inl b))else some (.inl (aW (a+1)))else some (.inr (.inr ()))) bC 0).bind fun c=>(match c with|.inl x5=>some x5|.inr _=>some 0)
theorem iC1 [Inhabited Rc] {k} (d) (x1:aA Int):OD k (d+1) 111 [.is 1 (I cI x1)]=(Ld x1).map i64:=by
 refine oe rfl ?_;refine bz lm ?_;refine bo (aK (S:=Int) (enc:=fun a=>(Q [(3,i64 0),(6,.is 1 (I cI x1)),(7,i64 (x1.length:Int)),(8,i64 a)] [])) (encE:=(fun|.inl b=>(rq [(2,i64 b),(3,i64 0)] [])|.inr _=>(xq 0 [(3,i64 0)] []))) (fun a=>?_) bC 0) fun c=>?_;refine io ?_ rfl;refine bo rg fun e=>?_;refine io rfl rfl;rcases c with b|_;rfl;rfl
def zU (x1 a:YQ):aB Int:=
 (pB x1.Measure a.Measure).bind fun b=>(pB x1.At a.At).bind fun c=>(Ld [b,c]).bind fun d=>some d
theorem yR [Inhabited Rc] {k} (d) (x1 a:YQ):OD k (d+3) 198 [.agg (YQ.g x1),.agg (YQ.g a)]=(zU x1 a).map i64:=by
 refine oe rfl ?_;refine bo (oB d x1.Measure a.Measure) fun b=>?_;refine bo (oB d x1.At a.At) fun c=>?_;refine bo (iC1 (d+1) [b,c]) fun e=>?_;rfl
def eD1 (x1:YS):aB Int:=
 if(decide (x1.Kind<1))||(decide (x1.Kind>7))then some 11 else(Ww x1.From).bind fun a=>((if !a then some true else(Ww x1.To).bind fun b=>some (!b):aB (Bool))).bind fun c=>if c then some 2 else((if x1.From.Staff !=x1.To.Staff then some true else(Wx x1.Kind).bind fun d=>some (d&&(x1.From.Voice !=x1.To.Voice)):aB (Bool))).bind fun e=>if e then some 23 else(zU x1.From x1.To).bind fun f=>if decide (f>=0)then some 25 else some 0
theorem tT1 [Inhabited Rc] {k} (d) (x1:YS):OD k (d+4) 155 [.agg (YS.g x1)]=(eD1 x1).map i64:=by
 refine oe rfl ?_;refine bz (fF rfl) ?_;refine io rfl ?_;refine bo (hZ1 (d+1) x1.From) fun a=>?_;refine bo (e:=id) ?_ fun c=>?_;refine io rfl ?_;refine bo (hZ1 (d+1) x1.To) fun b=>?_;rfl;refine io rfl ?_;refine bo (e:=id) ?_ fun h=>?_;refine io rfl ?_;refine bo (iA1 (d+2) x1.Kind) fun f=>?_;refine bz (dO rfl) ?_;rfl;refine io rfl ?_;refine bo (yR d x1.From x1.To) fun i=>?_;refine io rfl rfl
def Le (x1:aA YV) (g:Y0) (p:Int):aB ((aA Bool)×(aA YS)):=
 (aR (E:=(aA Bool)×(aA YS)) (fun(⟨b,c,d⟩:Int×(aA Bool)×(aA YS))=>if decide (b<(g.Spanners.length:Int))then(aT g.Spanners b).bind fun a=>(Lb (YK.mk g p x1) a.From).bind fun⟨e,h⟩=>(Lb (YK.mk g p x1) a.To).bind fun⟨f,i⟩=>(jA false d [(YS.mk a.Kind e f)]).bind fun j=>((if(!h)||(!i)then some true else(eD1 (YS.mk a.Kind e f)).bind fun k=>some (k !=0):aB (Bool))).bind fun l=>(jA false c [l]).bind fun m=>some (.inl ((aW (b+1)),m,j))else some (.inr (c,d))) bC (0,[],[])).bind fun⟨n,o⟩=>some (n,o)
theorem iD1 [Inhabited Rc] {k} (d) (x1:aA YV) (b:Y0) (h:Int):dC (XD k (d+16)) 92 [.ref 1 0] [(2,.lst 120 3 false (I YV.g x1)),(1,.box (ck b h (.own 2)))] 3 true=(Le x1 b h).map (fun(⟨p,q⟩:(aA Bool)×(aA YS))=>((.tup [.own 3,.own 4],[(4,.lst 4 1 false (I cB p)),(3,.lst 184 9 false (I YS.g q)),(2,.lst 120 3 false (I YV.g x1)),(1,.box (ck b h (.own 2)))],5))):=by
 rw[xd (fn:=p92) rfl];refine bz lm ?_;refine bo (aK (S:=Int×(aA Bool)×(aA YS)) (enc:=fun⟨i,c,f⟩=>(Q [(0,.ref 1 0),(4,.own 3),(5,.own 4),(17,.is 7 (I YN.g b.Spanners)),(18,i64 (b.Spanners.length:Int)),(19,i64 i)] [(4,.lst 4 1 false (I cB c)),(3,.lst 184 9 false (I YS.g f)),(2,.lst 120 3 false (I YV.g x1)),(1,.box (ck b h (.own 2)))])) (encE:=(fun(⟨m,n⟩:(aA Bool)×(aA YS))=>(xq 0 [(4,.own 3),(5,.own 4)] [(4,.lst 4 1 false (I cB m)),(3,.lst 184 9 false (I YS.g n)),(2,.lst 120 3 false (I YV.g x1)),(1,.box (ck b h (.own 2)))]))) (fun⟨i,c,f⟩=>?_) bC (0,[],[])) fun⟨m,n⟩=>?_;refine io ?_ rfl;refine bo rg fun a=>?_;refine bo (hY1 d (YK.mk b h x1) a.From) fun⟨j,r⟩=>?_;refine bo (hY1 d (YK.mk b h x1) a.To) fun⟨l,s⟩=>?_;refine bo (bX false YS.g f [(YS.mk a.Kind j l)]) fun t=>?_;refine bz (fF rfl) ?_;refine bo (e:=id) ?_ fun o=>?_;refine io rfl ?_;refine bo (tT1 (d+11) (YS.mk a.Kind j l)) fun u=>?_;rfl;refine bo (bX false cB c [o]) fun v=>?_;rfl;rfl
def Rn (x1:aA YV) (c:Y0) (i:Int):aB (aA YV):=
 (Le x1 c i).bind fun⟨j,k⟩=>(aR (E:=aA YV) (fun(⟨a,b⟩:Int×(aA YV))=>if decide (a<(c.Spanners.length:Int))then(aT c.Spanners a).bind fun d=>(cK j a).bind fun e=>(dG j e).bind fun f=>(iF f d.ID b c i).bind fun g=>some (.inl ((aW (a+1)),g))else some (.inr b)) bC (0,x1)).bind fun h=>some h
theorem tU1 [Inhabited Rc] {k} (d) (x1:aA YV) (a:Y0) (f:Int):dC (XD k (d+17)) 40 [.ref 1 0] [(2,.lst 120 3 false (I YV.g x1)),(1,.box (ck a f (.own 2)))] 3 false=(Rn x1 a f).map (fun(m:aA YV)=>((.tup [],[(2,.lst 120 3 false (I YV.g m)),(1,.box (ck a f (.own 2)))],0))):=by
 rw[xd (fn:=p40) rfl];refine bo (iD1 d x1 a f) fun⟨j,n⟩=>?_;refine bz lm ?_;refine bo (aK (S:=Int×(aA YV)) (enc:=fun⟨h,b⟩=>(Q [(0,.ref 1 0),(3,.own 4),(15,.is 7 (I YN.g a.Spanners)),(16,i64 (a.Spanners.length:Int)),(17,i64 h)] [(4,.lst 4 1 false (I cB j)),(3,.lst 184 9 false (I YS.g n)),(2,.lst 120 3 false (I YV.g b)),(1,.box (ck a f (.own 2)))])) (encE:=(fun(i:aA YV)=>(xq 0 [] [(4,.lst 4 1 false (I cB j)),(3,.lst 184 9 false (I YS.g n)),(2,.lst 120 3 false (I YV.g i)),(1,.box (ck a f (.own 2)))]))) (fun⟨h,b⟩=>?_) bC (0,x1)) fun i=>?_;refine io ?_ rfl;refine bo rg fun l=>?_;refine bo (aY cB j _) fun o=>?_;refine bo (cC (A:=Bool) (c:=cB) (g:=fun e=>bv e) (fun _=>rfl) j _) fun e=>?_;refine bo (gB (d+15) e l.ID b a f) fun p=>?_;rfl;rfl
def Ro (x1:Int):aB Int:=
 if(decide (x1<1))||(decide (x1>7))then some 0 else(aT [1,2,2,4,4,6,7] (aW (x1-1))).bind fun a=>some a
theorem Wy [Inhabited Rc] {k} (d) (x1:Int):OD k (d+1) 199 [i64 x1]=(Ro x1).map i64:=by
 refine oe rfl ?_;refine bz (fF rfl) ?_;refine io rfl ?_;refine bo (qD .i64 [1,2,2,4,4,6,7] (aW (x1-1)) rfl) fun a=>?_;rfl
def eE1 (x1 a:YS):aB Bool:=
 (Ro x1.Kind).bind fun b=>((if decide (b>0)then(Ro x1.Kind).bind fun c=>(Ro a.Kind).bind fun d=>some (c==d)else some false:aB (Bool))).bind fun e=>((if e&&(x1.From.Staff==a.From.Staff)then(Wx x1.Kind).bind fun f=>some ((!f)||(x1.From.Voice==a.From.Voice))else some false:aB (Bool))).bind fun g=>some g
theorem tV1 [Inhabited Rc] {k} (d) (x1 a:YS):OD k (d+2) 156 [.agg (YS.g x1),.agg (YS.g a)]=(eE1 x1 a).map bv:=by
 refine oe rfl ?_;refine bo (Wy d x1.Kind) fun b=>?_;refine bo (e:=id) ?_ fun h=>?_;refine io ?_ rfl;refine bo (Wy d x1.Kind) fun c=>?_;refine bo (Wy d a.Kind) fun f=>?_;rfl;refine bz (dO rfl) ?_;refine bo (e:=id) ?_ fun j=>?_;refine io ?_ rfl;refine bo (iA1 d x1.Kind) fun i=>?_;refine bz (fF rfl) ?_;rfl;rfl
def eF1 (x1 a:YS):aB Bool:=
 (zU x1.To a.From).bind fun b=>((if decide (b<0)then some true else(zU a.To x1.From).bind fun c=>some (decide (c<0)):aB (Bool))).bind fun d=>some d
theorem tW1 [Inhabited Rc] {k} (d) (x1 a:YS):OD k (d+4) 160 [.agg (YS.g x1),.agg (YS.g a)]=(eF1 x1 a).map bv:=by
 refine oe rfl ?_;refine bo (yR d x1.To a.From) fun b=>?_;refine bo (e:=id) ?_ fun f=>?_;refine io rfl ?_;refine bo (yR d a.To x1.From) fun c=>?_;rfl;rfl
def Rp (x1 a:YS):aB Bool:=
 (eF1 x1 a).bind fun b=>some (!b)
theorem Wz [Inhabited Rc] {k} (d) (x1 a:YS):OD k (d+5) 159 [.agg (YS.g x1),.agg (YS.g a)]=(Rp x1 a).map bv:=by
 refine oe rfl ?_;refine bo (tW1 d x1 a) fun b=>?_;rfl
def Xa (x1 a:YS):aB Bool:=
 (zU x1.To a.From).bind fun b=>((if decide (b<=0)then some true else(zU a.To x1.From).bind fun c=>some (decide (c<=0)):aB (Bool))).bind fun d=>some d
theorem iE1 [Inhabited Rc] {k} (d) (x1 a:YS):OD k (d+4) 158 [.agg (YS.g x1),.agg (YS.g a)]=(Xa x1 a).map bv:=by
 refine oe rfl ?_;refine bo (yR d x1.To a.From) fun b=>?_;refine bo (e:=id) ?_ fun f=>?_;refine io rfl ?_;refine bo (yR d a.To x1.From) fun c=>?_;rfl;rfl
def Rq (x1 a:YS):aB Bool:=
 (Xa x1 a).bind fun b=>some (!b)
theorem Xb [Inhabited Rc] {k} (d) (x1 a:YS):OD k (d+5) 157 [.agg (YS.g x1),.agg (YS.g a)]=(Rq x1 a).map bv:=by
 refine oe rfl ?_;refine bo (iE1 d x1 a) fun b=>?_;rfl
def Xc (x1 a:YS):aB Bool:=
 (zU x1.From a.From).bind fun b=>((if decide (b>=0)then(zU x1.To a.To).bind fun c=>some (decide (c<=0))else some false:aB (Bool))).bind fun d=>some d
theorem iF1 [Inhabited Rc] {k} (d) (x1 a:YS):OD k (d+4) 200 [.agg (YS.g x1),.agg (YS.g a)]=(Xc x1 a).map bv:=by
 refine oe rfl ?_;refine bo (yR d x1.From a.From) fun b=>?_;refine bo (e:=id) ?_ fun f=>?_;refine io ?_ rfl;refine bo (yR d x1.To a.To) fun c=>?_;rfl;rfl
def eG1 (x1 a:YS):aB Bool:=
 (Xa x1 a).bind fun b=>((if !b then(Xc x1 a).bind fun c=>(Xc a x1).bind fun d=>some ((c==d)!=false)else some false:aB (Bool))).bind fun e=>some e
theorem tX1 [Inhabited Rc] {k} (d) (x1 a:YS):OD k (d+5) 161 [.agg (YS.g x1),.agg (YS.g a)]=(eG1 x1 a).map bv:=by
 refine oe rfl ?_;refine bo (iE1 d x1 a) fun b=>?_;refine bo (e:=id) ?_ fun h=>?_;refine io ?_ rfl;refine bo (iF1 d x1 a) fun c=>?_;refine bo (iF1 d a x1) fun f=>?_;rfl;rfl
def F93 (x1 a:YS):aB Bool:=
 (eE1 x1 a).bind fun c=>if !c then some false else if(aW (x1.Kind-1))==6 then(Rp x1 a).bind fun d=>some d else if(aW (x1.Kind-1))==5 then(Rq x1 a).bind fun e=>some e else if(aW (x1.Kind-1))==4 then(Rp x1 a).bind fun f=>some f else if(aW (x1.Kind-1))==3 then(Rp x1 a).bind fun g=>some g else if(aW (x1.Kind-1))==2 then(Rq x1 a).bind fun h=>some h else if(aW (x1.Kind-1))==1 then(Rq x1 a).bind fun i=>some i else if(aW (x1.Kind-1))==0 then(eG1 x1 a).bind fun b=>some b else none
theorem eF2 [Inhabited Rc] {k} (d) (x1 a:YS):OD k (d+6) 93 [.agg (YS.g x1),.agg (YS.g a)]=(F93 x1 a).map bv:=by
 refine oe rfl ?_;refine bo (tV1 (d+3) x1 a) fun c=>?_;refine io rfl ?_;refine io ?_ ?_;refine bo (Wz d x1 a) fun e=>?_;rfl;refine io ?_ ?_;refine bo (Xb d x1 a) fun f=>?_;rfl;refine io ?_ ?_;refine bo (Wz d x1 a) fun h=>?_;rfl;refine io ?_ ?_;refine bo (Wz d x1 a) fun i=>?_;rfl;refine io ?_ ?_;refine bo (Xb d x1 a) fun j=>?_;rfl;refine io ?_ ?_;refine bo (Xb d x1 a) fun l=>?_;rfl;refine io ?_ ?_;refine bo (tX1 d x1 a) fun b=>?_;rfl;rfl
def eH1 (x1:aA YV) (e:Y0) (w:Int):aB (aA YV):=
 (Le x1 e w).bind fun⟨f,g⟩=>(aR (E:=aA YV) (fun(⟨a,c⟩:Int×(aA YV))=>if decide (a<(e.Spanners.length:Int))then(aT e.Spanners a).bind fun h=>(aR (E:=Bool) (fun(⟨d,b⟩:Bool×Int)=>((if decide (b<a)then(cK f a).bind fun i=>(dG f i).bind fun j=>some (!j)else some false:aB (Bool))).bind fun k=>if k&&(!d)then(cK f b).bind fun l=>(dG f l).bind fun m=>((if !m then(cK g b).bind fun n=>(dG g n).bind fun o=>(cK g a).bind fun p=>(dG g p).bind fun q=>(F93 o q).bind fun r=>some r else some false:aB (Bool))).bind fun s=>some (.inl (s,(aW (b+1))))else some (.inr d)) bC (false,0)).bind fun t=>(iF t h.ID c e w).bind fun u=>some (.inl ((aW (a+1)),u))else some (.inr c)) bC (0,x1)).bind fun v=>some v
theorem tY1 [Inhabited Rc] {k} (d) (x1:aA YV) (f:Y0) (j:Int):dC (XD k (d+17)) 41 [.ref 1 0] [(2,.lst 120 3 false (I YV.g x1)),(1,.box (ck f j (.own 2)))] 3 false=(eH1 x1 f j).map (fun(v:aA YV)=>((.tup [],[(2,.lst 120 3 false (I YV.g v)),(1,.box (ck f j (.own 2)))],0))):=by
 rw[xd (fn:=p41) rfl];refine bo (iD1 d x1 f j) fun⟨l,n⟩=>?_;refine bz lm ?_;refine bo (aK (S:=Int×(aA YV)) (enc:=fun⟨h,i⟩=>(Q [(0,.ref 1 0),(2,.own 3),(3,.own 4),(17,.is 7 (I YN.g f.Spanners)),(18,i64 (f.Spanners.length:Int)),(19,i64 h)] [(4,.lst 4 1 false (I cB l)),(3,.lst 184 9 false (I YS.g n)),(2,.lst 120 3 false (I YV.g i)),(1,.box (ck f j (.own 2)))])) (encE:=(fun(u:aA YV)=>(xq 0 [] [(4,.lst 4 1 false (I cB l)),(3,.lst 184 9 false (I YS.g n)),(2,.lst 120 3 false (I YV.g u)),(1,.box (ck f j (.own 2)))]))) (fun⟨h,i⟩=>?_) bC (0,x1)) fun u=>?_;refine io ?_ rfl;refine bo rg fun o=>?_;refine bo (aK (S:=Bool×Int) (enc:=fun⟨q,r⟩=>(Q [(0,.ref 1 0),(2,.own 3),(3,.own 4),(4,i64 h),(5,.ref 5 0),(6,bv q),(7,i64 r),(17,.is 7 (I YN.g f.Spanners)),(18,i64 (f.Spanners.length:Int)),(19,i64 h)] [(5,.box (YN.g o)),(4,.lst 4 1 false (I cB l)),(3,.lst 184 9 false (I YS.g n)),(2,.lst 120 3 false (I YV.g i)),(1,.box (ck f j (.own 2)))])) (encE:=(fun(p:Bool)=>(xq 2 [(0,.ref 1 0),(2,.own 3),(3,.own 4),(5,.ref 5 0),(6,bv p),(17,.is 7 (I YN.g f.Spanners)),(18,i64 (f.Spanners.length:Int)),(19,i64 h)] [(5,.box (YN.g o)),(4,.lst 4 1 false (I cB l)),(3,.lst 184 9 false (I YS.g n)),(2,.lst 120 3 false (I YV.g i)),(1,.box (ck f j (.own 2)))]))) (fun⟨q,r⟩=>?_) bC (false,0)) fun p=>?_;refine bo (e:=id) ?_ fun x=>?_;refine io ?_ rfl;refine bo (aY cB l _) fun w=>?_;refine bo (cC (A:=Bool) (c:=cB) (g:=fun s=>bv s) (fun _=>rfl) l _) fun s=>?_;rfl;refine bz (dO rfl) ?_;refine io ?_ rfl;refine bo (aY cB l _) fun y=>?_;refine bo (cC (A:=Bool) (c:=cB) (g:=fun t=>bv t) (fun _=>rfl) l _) fun t=>?_;refine bo (e:=id) ?_ fun D=>?_;refine io ?_ rfl;refine bo (aY YS.g n _) fun z=>?_;refine bo (bZ (A:=YS) (c:=YS.g) (m:=9) (g:=fun a=>[i64 a.Kind,i64 a.From.Measure,i64 a.From.At,i64 a.From.Staff,i64 a.From.Voice,i64 a.To.Measure,i64 a.To.At,i64 a.To.Staff,i64 a.To.Voice]) (fun _=>⟨rfl,rfl⟩) (pY2 rfl) n _) fun a=>?_;refine bo (aY YS.g n _) fun B=>?_;refine bo (bZ (A:=YS) (c:=YS.g) (m:=9) (g:=fun b=>[i64 b.Kind,i64 b.From.Measure,i64 b.From.At,i64 b.From.Staff,i64 b.From.Voice,i64 b.To.Measure,i64 b.To.At,i64 b.To.Staff,i64 b.To.Voice]) (fun _=>⟨rfl,rfl⟩) (pY2 rfl) n _) fun b=>?_;refine bo (eF2 (d+10) a b) fun C=>?_;rfl;rfl;refine bo (gB (d+15) p o.ID i f j) fun E=>?_;rfl;rfl
def F94 (x1:Int) (a:YM):aB Bool:=
 ((if a.RepeatEnd !=0 then(zS a.RepeatEnd 2 8).bind fun b=>some (!b)else some false:aB (Bool))).bind fun c=>((if c then some true else(zS a.Endings 0 255).bind fun d=>some (!d):aB (Bool))).bind fun e=>some e
theorem eG2 [Inhabited Rc] {k} (d) (x1:Int) (a:YM):OD k (d+2) 94 [i64 x1,.agg (YM.g a)]=(F94 x1 a).map bv:=by
 refine oe rfl ?_;refine bo (e:=id) ?_ fun c=>?_;refine io ?_ rfl;refine bo (oA d a.RepeatEnd 2 8) fun b=>?_;rfl;refine bo (e:=id) ?_ fun h=>?_;refine io rfl ?_;refine bo (oA d a.Endings 0 255) fun f=>?_;rfl;rfl
def Ee (x1:aA YV) (e:Y0) (h:Int):aB (aA YV):=
 (aR (E:=aA YV) (fun(⟨a,f⟩:Int×(aA YV))=>if decide (a<(e.Measures.length:Int))then(aT e.Measures a).bind fun g=>(F94 a g).bind fun b=>(iF b g.ID f e h).bind fun c=>some (.inl ((aW (a+1)),c))else some (.inr f)) bC (0,x1)).bind fun d=>some d
theorem eI1 [Inhabited Rc] {k} (d) (x1:aA YV) (a:Y0) (b:Int):dC (XD k (d+3)) 66 [.ref 1 0,.fn 94 [] []] [(2,.lst 120 3 false (I YV.g x1)),(1,.box (ck a b (.own 2)))] 3 false=(Ee x1 a b).map (fun(f:aA YV)=>((.tup [],[(2,.lst 120 3 false (I YV.g f)),(1,.box (ck a b (.own 2)))],0))):=by
 rw[xd (fn:=p66) rfl];refine bz lm ?_;refine bo (aK (S:=Int×(aA YV)) (enc:=fun⟨h,i⟩=>(Q [(0,.ref 1 0),(1,.fn 94 [] []),(10,.is 22 (I YM.g a.Measures)),(11,i64 (a.Measures.length:Int)),(12,i64 h)] [(2,.lst 120 3 false (I YV.g i)),(1,.box (ck a b (.own 2)))])) (encE:=(fun(c:aA YV)=>(xq 0 [] [(2,.lst 120 3 false (I YV.g c)),(1,.box (ck a b (.own 2)))]))) (fun⟨h,i⟩=>?_) bC (0,x1)) fun c=>?_;refine io ?_ rfl;refine bo rg fun j=>?_;refine bo (eG2 d h j) fun e=>?_;refine bo (gB (d+1) e j.ID i a b) fun l=>?_;rfl;rfl
def eJ1 (x1:Int):aB Int:=
 ((if decide (x1>=4294967296)then(rZ .u64 x1 32).bind fun g=>some (g,32)else some (x1,0):aB (Int×Int))).bind fun⟨c,e⟩=>((if decide (c>=65536)then(rZ .u64 c 16).bind fun h=>some (h,(aW (e+16)))else some (c,e):aB (Int×Int))).bind fun⟨d,f⟩=>((if decide (d>=256)then(rZ .u64 d 8).bind fun i=>some (i,(aW (f+8)))else some (d,f):aB (Int×Int))).bind fun⟨j,a⟩=>(nO (⟨#[0,1,2,2,3,3,3,3,4,4,4,4,4,4,4,4,5,5,5,5,5,5,5,5,5,5,5,5,5,5,5,5,6,6,6,6,6,6,6,6,6,6,6,6,6,6,6,6,6,6,6,6,6,6,6,6,6,6,6,6,6,6,6,6,7,7,7,7,7,7,7,7,7,7,7,7,7,7,7,7,7,7,7,7,7,7,7,7,7,7,7,7,7,7,7,7,7,7,7,7,7,7,7,7,7,7,7,7,7,7,7,7,7,7,7,7,7,7,7,7,7,7,7,7,7,7,7,7,8,8,8,8,8,8,8,8,8,8,8,8,8,8,8,8,8,8,8,8,8,8,8,8,8,8,8,8,8,8,8,8,8,8,8,8,8,8,8,8,8,8,8,8,8,8,8,8,8,8,8,8,8,8,8,8,8,8,8,8,8,8,8,8,8,8,8,8,8,8,8,8,8,8,8,8,8,8,8,8,8,8,8,8,8,8,8,8,8,8,8,8,8,8,8,8,8,8,8,8,8,8,8,8,8,8,8,8,8,8,8,8,8,8,8,8,8,8,8,8,8,8,8,8,8,8,8,8]⟩:ByteArray) (IntKind.wrap .u8 (j))).bind fun b=>some (aW (a+(aW (b))))
theorem tZ1 [Inhabited Rc] {k} (d) (x1:Int):OD k (d+1) 213 [.v (.int .u64 x1)]=(eJ1 x1).map i64:=by
 refine oe rfl ?_;refine bo (e:=(fun(⟨b,c⟩:Int×Int)=>(nq [(0,.v (.int .u64 b)),(2,i64 c)] []))) ?_ fun⟨b,c⟩=>?_;refine io ?_ rfl;refine bo oi fun j=>?_;rfl;refine bo (e:=(fun(⟨f,g⟩:Int×Int)=>(nq [(0,.v (.int .u64 f)),(2,i64 g)] []))) ?_ fun⟨f,g⟩=>?_;refine io ?_ rfl;refine bo oi fun l=>?_;rfl;refine bo (e:=(fun(⟨h,a⟩:Int×Int)=>(nq [(0,.v (.int .u64 h)),(2,i64 a)] []))) ?_ fun⟨h,a⟩=>?_;refine io ?_ rfl;refine bo oi fun m=>?_;rfl;refine bo oi fun i=>?_;rfl
def Lf (x1:Int):aB Int:=
 (eJ1 x1).bind fun a=>some a
theorem Oc [Inhabited Rc] {k} (d) (x1:Int):OD k (d+2) 201 [.v (.int .u64 x1)]=(Lf x1).map i64:=by
 refine oe rfl ?_;refine bo (tZ1 d x1) fun a=>?_;rfl
def F96 (x1:YG):aB Bool:=
 ((if decide (x1.passes>0)then(aS1 .i64 1 (aW (x1.passes-1))).bind fun a=>some (x1.ending==a)else some false:aB (Bool))).bind fun b=>some b
theorem Rr [Inhabited Rc] {k} (d) (x1:YG):OD k (d+1) 96 [.agg (YG.g x1)]=(F96 x1).map bv:=by
 refine oe rfl ?_;refine bo (e:=id) ?_ fun b=>?_;refine io ?_ rfl;refine bo oi fun a=>?_;rfl;rfl
def eL1 (x1:YG) (a:YM):aB (YG×Bool):=
 if a.RepeatStart||(x1.body==0)then some (x1,false)else if a.Endings !=x1.ending then if((x1.ending !=0)&&(!x1.ended))||((Dh .i64 a.Endings x1.used)!=0)then some (x1,false)else(Lf (IntKind.wrap .u64 (a.Endings))).bind fun j=>if x1.passes==0 then if((Dh .i64 a.Endings 1)==0)||(decide ((aW (j-1))>6))then some ((YG.mk x1.started x1.body (Kp .i64 x1.used a.Endings) a.Endings false x1.passes),false)else if a.RepeatEnd !=0 then(F96 (YG.mk x1.started x1.body (Kp .i64 x1.used a.Endings) a.Endings false x1.passes)).bind fun k=>((if k||((x1.passes !=0)&&(a.RepeatEnd !=x1.passes))then some true else(Lf (IntKind.wrap .u64 (a.Endings))).bind fun l=>some (decide (l>=a.RepeatEnd)):aB (Bool))).bind fun m=>if m then some ((YG.mk x1.started x1.body (Kp .i64 x1.used a.Endings) a.Endings false x1.passes),false)else some ((YG.mk x1.started x1.body (Kp .i64 x1.used a.Endings) a.Endings true a.RepeatEnd),true)else some ((YG.mk x1.started x1.body (Kp .i64 x1.used a.Endings) a.Endings false x1.passes),true)else((if decide ((aW (j-1))>=x1.passes)then some true else((if(aW (j-1))==(aW (x1.passes-1))then(F96 (YG.mk x1.started x1.body (Kp .i64 x1.used a.Endings) a.Endings false x1.passes)).bind fun n=>((if !n then some true else(aS1 .i64 1 x1.passes).bind fun o=>some ((Kp .i64 x1.used a.Endings)!=(aW (o-1))):aB (Bool))).bind fun p=>some p else some false:aB (Bool))).bind fun b=>some b:aB (Bool))).bind fun c=>if c then some ((YG.mk x1.started x1.body (Kp .i64 x1.used a.Endings) a.Endings false x1.passes),false)else if a.RepeatEnd !=0 then(F96 (YG.mk x1.started x1.body (Kp .i64 x1.used a.Endings) a.Endings false x1.passes)).bind fun d=>((if d||((x1.passes !=0)&&(a.RepeatEnd !=x1.passes))then some true else(Lf (IntKind.wrap .u64 (a.Endings))).bind fun e=>some (decide (e>=a.RepeatEnd)):aB (Bool))).bind fun f=>if f then some ((YG.mk x1.started x1.body (Kp .i64 x1.used a.Endings) a.Endings false x1.passes),false)else some ((YG.mk x1.started x1.body (Kp .i64 x1.used a.Endings) a.Endings true a.RepeatEnd),true)else some ((YG.mk x1.started x1.body (Kp .i64 x1.used a.Endings) a.Endings false x1.passes),true)else if x1.ended then some (x1,false)else if a.RepeatEnd !=0 then(F96 x1).bind fun g=>((if g||((x1.passes !=0)&&(a.RepeatEnd !=x1.passes))then some true else(Lf (IntKind.wrap .u64 (x1.ending))).bind fun h=>some (decide (h>=a.RepeatEnd)):aB (Bool))).bind fun i=>if i then some (x1,false)else some ((YG.mk x1.started x1.body x1.used x1.ending true a.RepeatEnd),true)else some (x1,true)
theorem uA1 [Inhabited Rc] {k} (d) (x1:YG) (a:YM):OD k (d+3) 162 [.agg (YG.g x1),.agg (YM.g a)]=(eL1 x1 a).map (fun⟨n,o⟩=>.tup [.agg (YG.g n),bv o]):=by
 refine oe rfl ?_;refine bz (fF rfl) ?_;refine io rfl ?_;refine io ?_ ?_;refine bz (dO rfl) ?_;refine bz (fF rfl) ?_;refine io rfl ?_;refine bo (Oc d (IntKind.wrap .u64 (a.Endings))) fun p=>?_;refine io ?_ ?_;refine bz (fF rfl) ?_;refine io rfl ?_;refine io ?_ rfl;refine bo (Rr (d+1) (YG.mk x1.started x1.body (Kp .i64 x1.used a.Endings) a.Endings false x1.passes)) fun q=>?_;refine bz (fF (bz (dO rfl) rfl)) ?_;refine bo (e:=id) ?_ fun s=>?_;refine io rfl ?_;refine bo (Oc d (IntKind.wrap .u64 (a.Endings))) fun r=>?_;rfl;refine io rfl rfl;refine bo (e:=id) ?_ fun c=>?_;refine io rfl ?_;refine bo (e:=id) ?_ fun b=>?_;refine io ?_ rfl;refine bo (Rr (d+1) (YG.mk x1.started x1.body (Kp .i64 x1.used a.Endings) a.Endings false x1.passes)) fun t=>?_;refine bo (e:=id) ?_ fun v=>?_;refine io rfl ?_;refine bo oi fun u=>?_;rfl;rfl;rfl;refine io rfl ?_;refine io ?_ rfl;refine bo (Rr (d+1) (YG.mk x1.started x1.body (Kp .i64 x1.used a.Endings) a.Endings false x1.passes)) fun f=>?_;refine bz (fF (bz (dO rfl) rfl)) ?_;refine bo (e:=id) ?_ fun i=>?_;refine io rfl ?_;refine bo (Oc d (IntKind.wrap .u64 (a.Endings))) fun h=>?_;rfl;refine io rfl rfl;refine io rfl ?_;refine io ?_ rfl;refine bo (Rr (d+1) x1) fun j=>?_;refine bz (fF (bz (dO rfl) rfl)) ?_;refine bo (e:=id) ?_ fun m=>?_;refine io rfl ?_;refine bo (Oc d (IntKind.wrap .u64 (x1.ending))) fun l=>?_;rfl;refine io rfl rfl
def F95 (x1:YG) (a:YM):aB (YG×Bool):=
 if a.Endings !=0 then(eL1 x1 a).bind fun⟨d,e⟩=>some (d,e)else if x1.ending !=0 then(F96 x1).bind fun f=>if !f then some (x1,false)else if a.RepeatStart then if false then some ((YG.mk false 0 0 0 false 0),false)else((if a.RepeatEnd !=0 then some (false,0)else some (true,1):aB (Bool×Int))).bind fun⟨g,h⟩=>some ((YG.mk g h 0 0 false 0),true)else((if a.RepeatEnd !=0 then some 0 else some 1:aB (Int))).bind fun i=>some ((YG.mk false i 0 0 false 0),true)else if a.RepeatStart then if x1.started then some (x1,false)else((if a.RepeatEnd !=0 then some (false,0)else some (true,1):aB (Bool×Int))).bind fun⟨j,b⟩=>some ((YG.mk j b 0 0 false 0),true)else((if a.RepeatEnd !=0 then some (YG.mk false 0 0 0 false 0)else some (YG.mk x1.started (aW (x1.body+1)) x1.used x1.ending x1.ended x1.passes):aB (YG))).bind fun c=>some (c,true)
theorem eH2 [Inhabited Rc] {k} (d) (x1:YG) (a:YM):OD k (d+4) 95 [.agg (YG.g x1),.agg (YM.g a)]=(F95 x1 a).map (fun⟨l,m⟩=>.tup [.agg (YG.g l),bv m]):=by
 refine oe rfl ?_;refine io ?_ ?_;refine bo (uA1 d x1 a) fun⟨n,o⟩=>?_;rfl;refine io ?_ ?_;refine bo (Rr (d+2) x1) fun p=>?_;refine io rfl ?_;refine io ?_ ?_;refine io rfl ?_;refine bo (e:=(fun(⟨f,h⟩:Bool×Int)=>(nq [(2,.ref 0 0),(4,.ref 2 0)] [(2,.box [bv false,i64 0,i64 0,i64 0,bv false,i64 0]),(1,.box (YM.g a)),(0,.box [bv f,i64 h,i64 0,i64 0,bv false,i64 0])]))) ?_ fun⟨f,h⟩=>?_;refine io rfl rfl;rfl;refine bo (e:=(fun(i:Int)=>(nq [(2,.ref 0 0),(4,.ref 2 0)] [(2,.box [bv false,i64 0,i64 0,i64 0,bv false,i64 0]),(1,.box (YM.g a)),(0,.box [bv false,i64 i,i64 0,i64 0,bv false,i64 0])]))) ?_ fun i=>?_;refine io rfl rfl;rfl;refine io ?_ ?_;refine io rfl ?_;refine bo (e:=(fun(⟨j,b⟩:Bool×Int)=>(nq [(2,.ref 0 0),(4,.ref 2 0)] [(2,.box [bv false,i64 0,i64 0,i64 0,bv false,i64 0]),(1,.box (YM.g a)),(0,.box [bv j,i64 b,i64 0,i64 0,bv false,i64 0])]))) ?_ fun⟨j,b⟩=>?_;refine io rfl rfl;rfl;refine bo (e:=(fun(c:YG)=>(nq [(2,.ref 0 0),(4,.ref 2 0)] [(2,.box [bv false,i64 0,i64 0,i64 0,bv false,i64 0]),(1,.box (YM.g a)),(0,.box (YG.g c))]))) ?_ fun c=>?_;refine io rfl rfl;rfl
def eM1 (x1:aA YV) (a:Y0) (n:Int):aB (aA YV):=
 (Ee x1 a n).bind fun e=>if decide ((e.length:Int)>(x1.length:Int))then some e else(aR (E:=(YG×(aA YV))⊕YG) (fun(⟨o,b⟩:Int×YG)=>if decide (o<(a.Measures.length:Int))then(aT a.Measures o).bind fun c=>(F95 b c).bind fun⟨d,f⟩=>if !f then(iF true c.ID e a n).bind fun g=>some (.inr (.inl (d,g)))else some (.inl ((aW (o+1)),d))else some (.inr (.inr b))) bC (0,(YG.mk false 0 0 0 false 0))).bind fun h=>(match h with|.inl ⟨x15,x16⟩=>some x16|.inr x17=>((if x17.started&&(x17.ending==0)then some true else((if x17.ending !=0 then(F96 x17).bind fun i=>some (!i)else some false:aB (Bool))).bind fun j=>some j:aB (Bool))).bind fun k=>(aT a.Measures (aW ((a.Measures.length:Int)-1))).bind fun l=>(iF k l.ID e a n).bind fun m=>some m)
theorem uB1 [Inhabited Rc] {k} (d) (x1:aA YV) (a:Y0) (b:Int):dC (XD k (d+5)) 42 [.ref 1 0] [(2,.lst 120 3 false (I YV.g x1)),(1,.box (ck a b (.own 2)))] 3 false=(eM1 x1 a b).map (fun(o:aA YV)=>((.tup [],[(2,.lst 120 3 false (I YV.g o)),(1,.box (ck a b (.own 2)))],0))):=by
 rw[xd (fn:=p42) rfl];refine bz (cQ YV.g x1) ?_;refine bo (eI1 (d+1) x1 a b) fun j=>?_;refine bz (cQ YV.g j) ?_;refine io rfl ?_;refine bz lm ?_;refine bo (aK (S:=Int×YG) (enc:=fun⟨p,c⟩=>(Q [(0,.ref 1 0),(3,.ref 3 0),(26,.is 22 (I YM.g a.Measures)),(27,i64 (a.Measures.length:Int)),(28,i64 p)] [(3,.box (YG.g c)),(2,.lst 120 3 false (I YV.g j)),(1,.box (ck a b (.own 2)))])) (encE:=(fun|.inl ⟨h,i⟩=>(rq [(3,.ref 3 0)] [(3,.box (YG.g h)),(2,.lst 120 3 false (I YV.g i)),(1,.box (ck a b (.own 2)))])|.inr x17=>(xq 0 [(0,.ref 1 0),(3,.ref 3 0)] [(3,.box (YG.g x17)),(2,.lst 120 3 false (I YV.g j)),(1,.box (ck a b (.own 2)))]))) (fun⟨p,c⟩=>?_) bC (0,(YG.mk false 0 0 0 false 0))) fun l=>?_;refine io ?_ rfl;refine bo rg fun f=>?_;refine bo (eH2 d c f) fun⟨q,r⟩=>?_;refine io ?_ rfl;refine bo (gB (d+3) true f.ID j a b) fun s=>?_;rfl;rcases l with⟨h,i⟩|x17;rfl;refine bz (dO rfl) ?_;refine bo (e:=id) ?_ fun m=>?_;refine io rfl ?_;refine bo (e:=id) ?_ fun u=>?_;refine io ?_ rfl;refine bo (Rr (d+3) x17) fun t=>?_;rfl;rfl;refine bz lm ?_;refine bo rg fun n=>?_;refine bo (gB (d+3) m n.ID j a b) fun v=>?_;rfl
def F98 (x1 a:YM):aB Bool:=
 some (((a.Jump !=0)&&(x1.Jump !=0))||((Dh .i64 a.Labels x1.Labels)!=0))
theorem eI2 [Inhabited Rc] {k} (d) (x1 a:YM):OD k (d+1) 98 [.agg (YM.g x1),.ip (YM.g a)]=(F98 x1 a).map bv:=by
 refine oe rfl ?_;refine bz (dO rfl) ?_;refine bz (fF rfl) ?_;rfl
def eN1 (x1:aA YM) (b:YM):aB Int:=
 (aR (E:=Int⊕Unit) (fun(a:Int)=>if decide (a<(x1.length:Int))then(aT x1 a).bind fun c=>(F98 c b).bind fun d=>if d then some (.inr (.inl a))else some (.inl (aW (a+1)))else some (.inr (.inr ()))) bC 0).bind fun e=>(match e with|.inl x8=>some x8|.inr _=>some (-1))
theorem uC1 [Inhabited Rc] {k} (d) (x1:aA YM) (a:YM):OD k (d+2) 163 [.is 22 (I YM.g x1),.fn 98 [] [.ip (YM.g a)]]=(eN1 x1 a).map i64:=by
 refine oe rfl ?_;refine bz lm ?_;refine bo (aK (S:=Int) (enc:=fun b=>(Q [(0,.is 22 (I YM.g x1)),(1,.fn 98 [] [.ip (YM.g a)]),(7,i64 (x1.length:Int)),(8,i64 b)] [])) (encE:=(fun|.inl c=>(rq [(4,i64 c)] [])|.inr _=>(xq 0 [] []))) (fun b=>?_) bC 0) fun f=>?_;refine io ?_ rfl;refine bo rg fun e=>?_;refine bo (eI2 d e a) fun h=>?_;refine io rfl rfl;rcases f with c|_;rfl;rfl
def F99 (x1:aA YM) (a:YM):aB Bool:=
 (eN1 x1 a).bind fun b=>some (decide (b>=0))
theorem eJ2 [Inhabited Rc] {k} (d) (x1:aA YM) (a:YM):OD k (d+3) 99 [.is 22 (I YM.g x1),.fn 98 [] [.ip (YM.g a)]]=(F99 x1 a).map bv:=by
 refine oe rfl ?_;refine bo (uC1 d x1 a) fun b=>?_;rfl
def eO1 (x1:YM) (a:Int):aB Bool:=
 some ((Dh .i64 x1.Labels a)!=0)
theorem uD1 [Inhabited Rc] {k} (d) (x1:YM) (a:Int):OD k (d+1) 202 [.agg (YM.g x1),.ip [i64 a]]=(eO1 x1 a).map bv:=by
 refine oe rfl ?_;rfl
def Ef (x1:aA YM) (b:Int):aB Int:=
 (aR (E:=Int⊕Unit) (fun(a:Int)=>if decide (a<(x1.length:Int))then(aT x1 a).bind fun c=>(eO1 c b).bind fun d=>if d then some (.inr (.inl a))else some (.inl (aW (a+1)))else some (.inr (.inr ()))) bC 0).bind fun e=>(match e with|.inl x8=>some x8|.inr _=>some (-1))
theorem eP1 [Inhabited Rc] {k} (d) (x1:aA YM) (a:Int):OD k (d+2) 163 [.is 22 (I YM.g x1),.fn 202 [] [.ip [i64 a]]]=(Ef x1 a).map i64:=by
 refine oe rfl ?_;refine bz lm ?_;refine bo (aK (S:=Int) (enc:=fun b=>(Q [(0,.is 22 (I YM.g x1)),(1,.fn 202 [] [.ip [i64 a]]),(7,i64 (x1.length:Int)),(8,i64 b)] [])) (encE:=(fun|.inl c=>(rq [(4,i64 c)] [])|.inr _=>(xq 0 [] []))) (fun b=>?_) bC 0) fun f=>?_;refine io ?_ rfl;refine bo rg fun e=>?_;refine bo (uD1 d e a) fun h=>?_;refine io rfl rfl;rcases f with c|_;rfl;rfl
def Rs (x1:YK) (a:Int):aB Int:=
 (Ef x1.s'.Measures a).bind fun b=>some b
theorem Xe [Inhabited Rc] {k} (d) (x1:YK) (a:Int):OD k (d+3) 165 [.ip (YK.g x1),i64 a]=(Rs x1 a).map i64:=by
 refine oe rfl ?_;refine bo (eP1 d x1.s'.Measures a) fun b=>?_;rfl
def Rt (x1:Int) (a:YK) (b:Int):aB Bool:=
 (Rs a x1).bind fun c=>(zS c 0 b).bind fun d=>some d
theorem Xf [Inhabited Rc] {k} (d) (x1:Int) (a:YK) (b:Int):OD k (d+4) 164 [i64 x1,.ip [.ip (YK.g a)],.ip [i64 b]]=(Rt x1 a b).map bv:=by
 refine oe rfl ?_;refine bo (Xe d a x1) fun c=>?_;refine bo (oA (d+2) c 0 b) fun e=>?_;rfl
def eQ1 (x1:YK) (a e:Int):aB Bool:=
 ((if decide (a>=4)then(Rt 1 x1 e).bind fun f=>some (!f)else some false:aB (Bool))).bind fun g=>if g then some false else((if a==2 then some (a==2)else some (a==5):aB (Bool))).bind fun h=>if h then(Rt 4 x1 e).bind fun i=>some i else((if a==3 then some (a==3)else some (a==6):aB (Bool))).bind fun j=>if j then(Rt 8 x1 e).bind fun k=>((if k then(Rs x1 2).bind fun b=>(Rs x1 8).bind fun c=>some (decide (b>c))else some false:aB (Bool))).bind fun d=>some d else some true
theorem uE1 [Inhabited Rc] {k} (d) (x1:YK) (b a:Int):OD k (d+5) 100 [.ip (YK.g x1),i64 b,i64 a]=(eQ1 x1 b a).map bv:=by
 refine oe rfl ?_;refine bo (e:=id) ?_ fun m=>?_;refine io ?_ rfl;refine bo (Xf d 1 x1 a) fun l=>?_;rfl;refine io rfl ?_;refine bo (e:=(fun(c:Bool)=>(nq [(3,.ref 0 0),(7,.fn 164 [] [.ref 0 0,.ref 1 0]),(16,i64 b),(17,bv c)] [(1,.box [i64 a]),(0,.box [.ip (YK.g x1)])]))) ?_ fun c=>?_;refine io rfl rfl;refine io ?_ ?_;refine bo (Xf d 4 x1 a) fun n=>?_;rfl;refine bo (e:=(fun(f:Bool)=>(nq [(3,.ref 0 0),(7,.fn 164 [] [.ref 0 0,.ref 1 0]),(22,bv f)] [(1,.box [i64 a]),(0,.box [.ip (YK.g x1)])]))) ?_ fun f=>?_;refine io rfl rfl;refine io ?_ rfl;refine bo (Xf d 8 x1 a) fun o=>?_;refine bo (e:=id) ?_ fun j=>?_;refine io ?_ rfl;refine bo (Xe (d+1) x1 2) fun h=>?_;refine bo (Xe (d+1) x1 8) fun i=>?_;rfl;rfl
def F97 (x1:Int) (a:YM) (c:YK):aB Bool:=
 (zS a.Jump 0 6).bind fun d=>((if !d then some true else(zS a.Labels 0 15).bind fun e=>some (!e):aB (Bool))).bind fun f=>if f||(((a.Jump !=0)||(a.Labels !=0))&&((a.RepeatEnd !=0)||(a.Endings !=0)))then some true else(qC c.s'.Measures 0 x1).bind fun g=>(F99 g a).bind fun h=>((if h then some true else(eQ1 c a.Jump x1).bind fun i=>some (!i):aB (Bool))).bind fun b=>some b
theorem eK2 [Inhabited Rc] {k} (d) (x1:Int) (a:YM) (b:YK):OD k (d+6) 97 [i64 x1,.agg (YM.g a),.ip [.ip (YK.g b)]]=(F97 x1 a b).map bv:=by
 refine oe rfl ?_;refine bo (oA (d+4) a.Jump 0 6) fun h=>?_;refine bo (e:=id) ?_ fun j=>?_;refine io rfl ?_;refine bo (oA (d+4) a.Labels 0 15) fun i=>?_;rfl;refine bz (fF (bz (fF rfl) (bz (dO (bz (fF rfl) rfl)) rfl))) ?_;refine io rfl ?_;refine bo (rY _ _ _ _) fun f=>?_;refine bo (eJ2 (d+2) f a) fun l=>?_;refine bo (e:=id) ?_ fun c=>?_;refine io rfl ?_;refine bo (uE1 d b a.Jump x1) fun m=>?_;rfl;rfl
def Eg (x1:aA YV) (a:Y0) (g:Int):aB (aA YV):=
 (aR (E:=aA YV) (fun(⟨b,f⟩:Int×(aA YV))=>if decide (b<(a.Measures.length:Int))then(aT a.Measures b).bind fun h=>(F97 b h (YK.mk a g f)).bind fun c=>(iF c h.ID f a g).bind fun d=>some (.inl ((aW (b+1)),d))else some (.inr f)) bC (0,x1)).bind fun e=>some e
theorem eR1 [Inhabited Rc] {k} (d) (x1:aA YV) (a:Y0) (b:Int):dC (XD k (d+7)) 66 [.ref 1 0,.fn 97 [] [.ref 3 0]] [(3,.box [.ref 1 0]),(2,.lst 120 3 false (I YV.g x1)),(1,.box (ck a b (.own 2)))] 4 false=(Eg x1 a b).map (fun(h:aA YV)=>((.tup [],[(3,.box [.ref 1 0]),(2,.lst 120 3 false (I YV.g h)),(1,.box (ck a b (.own 2)))],0))):=by
 rw[xd (fn:=p66) rfl];refine bz lm ?_;refine bo (aK (S:=Int×(aA YV)) (enc:=fun⟨i,e⟩=>(Q [(0,.ref 1 0),(1,.fn 97 [] [.ref 3 0]),(10,.is 22 (I YM.g a.Measures)),(11,i64 (a.Measures.length:Int)),(12,i64 i)] [(3,.box [.ref 1 0]),(2,.lst 120 3 false (I YV.g e)),(1,.box (ck a b (.own 2)))])) (encE:=(fun(c:aA YV)=>(xq 0 [] [(3,.box [.ref 1 0]),(2,.lst 120 3 false (I YV.g c)),(1,.box (ck a b (.own 2)))]))) (fun⟨i,e⟩=>?_) bC (0,x1)) fun c=>?_;refine io ?_ rfl;refine bo rg fun j=>?_;refine bo (eK2 d i j (YK.mk a b e)) fun f=>?_;refine bo (gB (d+5) f j.ID e a b) fun l=>?_;rfl;rfl
def eS1 (x1:aA YV) (a:Y0) (b:Int):aB (aA YV):=
 (Eg x1 a b).bind fun c=>some c
theorem uF1 [Inhabited Rc] {k} (d) (x1:aA YV) (a:Y0) (b:Int):dC (XD k (d+8)) 43 [.ref 1 0] [(2,.lst 120 3 false (I YV.g x1)),(1,.box (ck a b (.own 2)))] 3 false=(eS1 x1 a b).map (fun(c:aA YV)=>((.tup [],[(2,.lst 120 3 false (I YV.g c)),(1,.box (ck a b (.own 2)))],0))):=by
 rw[xd (fn:=p43) rfl];refine bo (eR1 d x1 a b) fun e=>?_;rfl
def eT1 (x1:Int) (c:YM):aB Bool:=
 (zT c).bind fun⟨m,r⟩=>((if c.Swing !=0 then(zS c.Swing 50 75).bind fun n=>some (!n)else some false:aB (Bool))).bind fun o=>((if o then some true else(zS c.Break 0 3).bind fun p=>some (!p):aB (Bool))).bind fun q=>(aR (E:=Bool) (fun(⟨d,a⟩:Bool×Int)=>if decide (a<(c.Tempi.length:Int))then(aT c.Tempi a).bind fun b=>((if d then some true else(zS b.At 0 (aW (m-1))).bind fun e=>some (!e):aB (Bool))).bind fun f=>((if f then some true else(zS b.Micros 1 60000000).bind fun g=>some (!g):aB (Bool))).bind fun h=>((if h then some true else((if decide (a>0)then(aT c.Tempi (aW (a-1))).bind fun i=>some (decide (b.At<=i.At))else some false:aB (Bool))).bind fun j=>some j:aB (Bool))).bind fun k=>some (.inl (k,(aW (a+1))))else some (.inr d)) bC (q,0)).bind fun l=>some l
theorem uG1 [Inhabited Rc] {k} (d) (x1:Int) (a:YM):OD k (d+5) 101 [i64 x1,.agg (YM.g a)]=(eT1 x1 a).map bv:=by
 refine oe rfl ?_;refine bo (Ib d a) fun⟨i,s⟩=>?_;refine bo (e:=id) ?_ fun u=>?_;refine io ?_ rfl;refine bo (oA (d+3) a.Swing 50 75) fun t=>?_;rfl;refine bo (e:=id) ?_ fun r=>?_;refine io rfl ?_;refine bo (oA (d+3) a.Break 0 3) fun v=>?_;rfl;refine bz lm ?_;refine bo (aK (S:=Bool×Int) (enc:=fun⟨b,c⟩=>(Q [(3,.ref 0 0),(5,i64 i),(7,bv b),(31,.is 3 (I YT.g a.Tempi)),(32,i64 (a.Tempi.length:Int)),(33,i64 c)] [(0,.box (YM.g a))])) (encE:=(fun(h:Bool)=>(xq 0 [(7,bv h)] [(0,.box (YM.g a))]))) (fun⟨b,c⟩=>?_) bC (r,0)) fun h=>?_;refine io ?_ rfl;refine bo rg fun f=>?_;refine bo (e:=id) ?_ fun l=>?_;refine io rfl ?_;refine bo (oA (d+3) f.At 0 (aW (i-1))) fun j=>?_;rfl;refine bo (e:=id) ?_ fun n=>?_;refine io rfl ?_;refine bo (oA (d+3) f.Micros 1 60000000) fun m=>?_;rfl;refine bo (e:=id) ?_ fun q=>?_;refine io rfl ?_;refine bo (e:=id) ?_ fun p=>?_;refine io ?_ rfl;refine bo rg fun o=>?_;rfl;rfl;rfl;rfl
def Eh (x1:aA YV) (e:Y0) (h:Int):aB (aA YV):=
 (aR (E:=aA YV) (fun(⟨a,f⟩:Int×(aA YV))=>if decide (a<(e.Measures.length:Int))then(aT e.Measures a).bind fun g=>(eT1 a g).bind fun b=>(iF b g.ID f e h).bind fun c=>some (.inl ((aW (a+1)),c))else some (.inr f)) bC (0,x1)).bind fun d=>some d
theorem eU1 [Inhabited Rc] {k} (d) (x1:aA YV) (a:Y0) (b:Int):dC (XD k (d+6)) 66 [.ref 1 0,.fn 101 [] []] [(2,.lst 120 3 false (I YV.g x1)),(1,.box (ck a b (.own 2)))] 3 false=(Eh x1 a b).map (fun(f:aA YV)=>((.tup [],[(2,.lst 120 3 false (I YV.g f)),(1,.box (ck a b (.own 2)))],0))):=by
 rw[xd (fn:=p66) rfl];refine bz lm ?_;refine bo (aK (S:=Int×(aA YV)) (enc:=fun⟨h,i⟩=>(Q [(0,.ref 1 0),(1,.fn 101 [] []),(10,.is 22 (I YM.g a.Measures)),(11,i64 (a.Measures.length:Int)),(12,i64 h)] [(2,.lst 120 3 false (I YV.g i)),(1,.box (ck a b (.own 2)))])) (encE:=(fun(c:aA YV)=>(xq 0 [] [(2,.lst 120 3 false (I YV.g c)),(1,.box (ck a b (.own 2)))]))) (fun⟨h,i⟩=>?_) bC (0,x1)) fun c=>?_;refine io ?_ rfl;refine bo rg fun j=>?_;refine bo (uG1 d h j) fun e=>?_;refine bo (gB (d+4) e j.ID i a b) fun l=>?_;rfl;rfl
def eV1 (x1:aA YV) (a:Y0) (b:Int):aB (aA YV):=
 (Eh x1 a b).bind fun c=>some c
theorem uH1 [Inhabited Rc] {k} (d) (x1:aA YV) (a:Y0) (b:Int):dC (XD k (d+7)) 44 [.ref 1 0] [(2,.lst 120 3 false (I YV.g x1)),(1,.box (ck a b (.own 2)))] 3 false=(eV1 x1 a b).map (fun(c:aA YV)=>((.tup [],[(2,.lst 120 3 false (I YV.g c)),(1,.box (ck a b (.own 2)))],0))):=by
 rw[xd (fn:=p44) rfl];refine bo (eU1 d x1 a b) fun e=>?_;rfl
def eW1 (x1:YP) (e:YE) (b:YK):aB Bool:=
 (F87 b.s' x1).bind fun⟨d,f⟩=>((if !f then some true else(F86 e).bind fun g=>some (!g):aB (Bool))).bind fun h=>if h||(d.Measure==x1.Measure)then some false else(aT b.s'.Measures x1.Measure).bind fun a=>(aT b.s'.Measures d.Measure).bind fun c=>some ((((((a.RepeatEnd !=0)||(a.Jump !=0))||((Dh .i64 a.Labels 12)!=0))||(a.Endings !=c.Endings))||c.RepeatStart)||((Dh .i64 c.Labels 3)!=0))
theorem uI1 [Inhabited Rc] {k} (d) (x1:YP) (a:YE) (b:YK):OD k (d+5) 102 [.agg (YP.g x1),.agg (YE.g a),.ip [.ip (YK.g b)]]=(eW1 x1 a b).map bv:=by
 refine oe rfl ?_;refine bo (tL1 (d+1) b.s' x1) fun⟨c,f⟩=>?_;refine bo (e:=id) ?_ fun i=>?_;refine io rfl ?_;refine bo (tJ1 d a) fun h=>?_;rfl;refine bz (fF rfl) ?_;refine io rfl ?_;refine bo rg fun j=>?_;refine bo rg fun l=>?_;refine bz (fF rfl) ?_;refine bz (fF rfl) ?_;refine bz (fF rfl) ?_;refine bz (fF rfl) ?_;refine bz (fF rfl) ?_;rfl
def Ei (x1:aA YV) (s:Y0) (t:Int):aB (aA YV):=
 (aR (E:=aA YV) (fun(⟨c,m⟩:Int×(aA YV))=>if decide (c<(s.Measures.length:Int))then(aT s.Measures c).bind fun n=>(aR (E:=aA YV) (fun(⟨d,o⟩:Int×(aA YV))=>if decide (d<(n.Cells.length:Int))then(aT n.Cells d).bind fun p=>(aR (E:=aA YV) (fun(⟨e,q⟩:Int×(aA YV))=>if decide (e<(p.Voices.length:Int))then(aT p.Voices e).bind fun r=>(aR (E:=aA YV) (fun(⟨a,b⟩:Int×(aA YV))=>if decide (a<(r.Events.length:Int))then(aT r.Events a).bind fun f=>(eW1 (YP.mk 4 0 d c e a 0) f (YK.mk s t b)).bind fun g=>(iF g f.ID b s t).bind fun h=>some (.inl ((aW (a+1)),h))else some (.inr b)) bC (0,q)).bind fun i=>some (.inl ((aW (e+1)),i))else some (.inr q)) bC (0,o)).bind fun j=>some (.inl ((aW (d+1)),j))else some (.inr o)) bC (0,m)).bind fun k=>some (.inl ((aW (c+1)),k))else some (.inr m)) bC (0,x1)).bind fun l=>some l
theorem eX1 [Inhabited Rc] {k} (d) (x1:aA YV) (c:Y0) (i:Int):dC (XD k (d+6)) 75 [.ref 1 0,.fn 102 [] [.ref 3 0]] [(3,.box [.ref 1 0]),(2,.lst 120 3 false (I YV.g x1)),(1,.box (ck c i (.own 2)))] 4 false=(Ei x1 c i).map (fun(w:aA YV)=>((.tup [],[(3,.box [.ref 1 0]),(2,.lst 120 3 false (I YV.g w)),(1,.box (ck c i (.own 2)))],0))):=by
 rw[xd (fn:=p75) rfl];refine bz lm ?_;refine bo (aK (S:=Int×(aA YV)) (enc:=fun⟨b,s⟩=>(Q [(0,.ref 1 0),(1,.fn 102 [] [.ref 3 0]),(16,.is 22 (I YM.g c.Measures)),(17,i64 (c.Measures.length:Int)),(18,i64 b)] [(3,.box [.ref 1 0]),(2,.lst 120 3 false (I YV.g s)),(1,.box (ck c i (.own 2)))])) (encE:=(fun(r:aA YV)=>(xq 0 [] [(3,.box [.ref 1 0]),(2,.lst 120 3 false (I YV.g r)),(1,.box (ck c i (.own 2)))]))) (fun⟨b,s⟩=>?_) bC (0,x1)) fun r=>?_;refine io ?_ rfl;refine bo rg fun a=>?_;refine bz lm ?_;refine bo (aK (S:=Int×(aA YV)) (enc:=fun⟨e,t⟩=>(Q [(0,.ref 1 0),(1,.fn 102 [] [.ref 3 0]),(4,i64 b),(16,.is 22 (I YM.g c.Measures)),(17,i64 (c.Measures.length:Int)),(18,i64 b),(24,.is 2 (I YW.g a.Cells)),(25,i64 (a.Cells.length:Int)),(26,i64 e)] [(4,.box (YM.g a)),(3,.box [.ref 1 0]),(2,.lst 120 3 false (I YV.g t)),(1,.box (ck c i (.own 2)))])) (encE:=(fun(q:aA YV)=>(xq 2 [(0,.ref 1 0),(1,.fn 102 [] [.ref 3 0]),(16,.is 22 (I YM.g c.Measures)),(17,i64 (c.Measures.length:Int)),(18,i64 b)] [(4,.box (YM.g a)),(3,.box [.ref 1 0]),(2,.lst 120 3 false (I YV.g q)),(1,.box (ck c i (.own 2)))]))) (fun⟨e,t⟩=>?_) bC (0,s)) fun q=>?_;refine io ?_ rfl;refine bo rg fun f=>?_;refine bz lm ?_;refine bo (aK (S:=Int×(aA YV)) (enc:=fun⟨j,u⟩=>(Q [(0,.ref 1 0),(1,.fn 102 [] [.ref 3 0]),(4,i64 b),(6,i64 e),(16,.is 22 (I YM.g c.Measures)),(17,i64 (c.Measures.length:Int)),(18,i64 b),(24,.is 2 (I YW.g a.Cells)),(25,i64 (a.Cells.length:Int)),(26,i64 e),(32,.is 2 (I YO.g f.Voices)),(33,i64 (f.Voices.length:Int)),(34,i64 j)] [(5,.box (YW.g f)),(4,.box (YM.g a)),(3,.box [.ref 1 0]),(2,.lst 120 3 false (I YV.g u)),(1,.box (ck c i (.own 2)))])) (encE:=(fun(p:aA YV)=>(xq 4 [(0,.ref 1 0),(1,.fn 102 [] [.ref 3 0]),(4,i64 b),(16,.is 22 (I YM.g c.Measures)),(17,i64 (c.Measures.length:Int)),(18,i64 b),(24,.is 2 (I YW.g a.Cells)),(25,i64 (a.Cells.length:Int)),(26,i64 e)] [(5,.box (YW.g f)),(4,.box (YM.g a)),(3,.box [.ref 1 0]),(2,.lst 120 3 false (I YV.g p)),(1,.box (ck c i (.own 2)))]))) (fun⟨j,u⟩=>?_) bC (0,t)) fun p=>?_;refine io ?_ rfl;refine bo rg fun m=>?_;refine bz lm ?_;refine bo (aK (S:=Int×(aA YV)) (enc:=fun⟨l,h⟩=>(Q [(0,.ref 1 0),(1,.fn 102 [] [.ref 3 0]),(4,i64 b),(6,i64 e),(8,i64 j),(16,.is 22 (I YM.g c.Measures)),(17,i64 (c.Measures.length:Int)),(18,i64 b),(24,.is 2 (I YW.g a.Cells)),(25,i64 (a.Cells.length:Int)),(26,i64 e),(32,.is 2 (I YO.g f.Voices)),(33,i64 (f.Voices.length:Int)),(34,i64 j),(40,.is 13 (I YE.g m.Events)),(41,i64 (m.Events.length:Int)),(42,i64 l)] [(6,.box (YO.g m)),(5,.box (YW.g f)),(4,.box (YM.g a)),(3,.box [.ref 1 0]),(2,.lst 120 3 false (I YV.g h)),(1,.box (ck c i (.own 2)))])) (encE:=(fun(o:aA YV)=>(xq 6 [(0,.ref 1 0),(1,.fn 102 [] [.ref 3 0]),(4,i64 b),(6,i64 e),(16,.is 22 (I YM.g c.Measures)),(17,i64 (c.Measures.length:Int)),(18,i64 b),(24,.is 2 (I YW.g a.Cells)),(25,i64 (a.Cells.length:Int)),(26,i64 e),(32,.is 2 (I YO.g f.Voices)),(33,i64 (f.Voices.length:Int)),(34,i64 j)] [(6,.box (YO.g m)),(5,.box (YW.g f)),(4,.box (YM.g a)),(3,.box [.ref 1 0]),(2,.lst 120 3 false (I YV.g o)),(1,.box (ck c i (.own 2)))]))) (fun⟨l,h⟩=>?_) bC (0,u)) fun o=>?_;refine io ?_ rfl;refine bo rg fun n=>?_;refine bo (uI1 d (YP.mk 4 0 e b j l 0) n (YK.mk c i h)) fun v=>?_;refine bo (gB (d+4) v n.ID h c i) fun x=>?_;rfl;rfl;rfl;rfl;rfl
def eY1 (x1:aA YV) (a:Y0) (b:Int):aB (aA YV):=
 (Ei x1 a b).bind fun c=>some c
theorem uJ1 [Inhabited Rc] {k} (d) (x1:aA YV) (a:Y0) (b:Int):dC (XD k (d+7)) 45 [.ref 1 0] [(2,.lst 120 3 false (I YV.g x1)),(1,.box (ck a b (.own 2)))] 3 false=(eY1 x1 a b).map (fun(c:aA YV)=>((.tup [],[(2,.lst 120 3 false (I YV.g c)),(1,.box (ck a b (.own 2)))],0))):=by
 rw[xd (fn:=p45) rfl];refine bo (eX1 d x1 a b) fun e=>?_;rfl
def F17 (x1:Y0):aB (aA YV):=
 ((if decide ((([]:aA YV).length:Int)>0)then((if false then some true else((if false then(cK ([]:aA YV) 0).bind fun x2=>(dG ([]:aA YV) x2).bind fun x3=>some (decide (x3.Rule<10))else some false:aB (Bool))).bind fun x4=>some x4:aB (Bool))).bind fun x5=>some x5 else some false:aB (Bool))).bind fun x6=>if x6 then some []else(Qt [] x1 1).bind fun t=>((if decide ((t.length:Int)>0)then((if true then some true else((if false then(cK t 0).bind fun x8=>(dG t x8).bind fun x9=>some (decide (x9.Rule<10))else some false:aB (Bool))).bind fun u=>some u:aB (Bool))).bind fun v=>some v else some false:aB (Bool))).bind fun w=>if w then some t else(bF1 t x1 2).bind fun a=>((if decide ((a.length:Int)>0)then((if false then some true else((if false then(cK a 0).bind fun x=>(dG a x).bind fun y=>some (decide (y.Rule<10))else some false:aB (Bool))).bind fun z=>some z:aB (Bool))).bind fun A=>some A else some false:aB (Bool))).bind fun B=>if B then some a else(bH1 a x1 3).bind fun b=>((if decide ((b.length:Int)>0)then((if false then some true else((if false then(cK b 0).bind fun C=>(dG b C).bind fun D=>some (decide (D.Rule<10))else some false:aB (Bool))).bind fun E=>some E:aB (Bool))).bind fun F=>some F else some false:aB (Bool))).bind fun G=>if G then some b else(bM1 b x1 4).bind fun c=>((if decide ((c.length:Int)>0)then((if false then some true else((if false then(cK c 0).bind fun H=>(dG c H).bind fun J=>some (decide (J.Rule<10))else some false:aB (Bool))).bind fun K=>some K:aB (Bool))).bind fun L=>some L else some false:aB (Bool))).bind fun M=>if M then some c else(Wl c x1 5).bind fun d=>((if decide ((d.length:Int)>0)then((if false then some true else((if false then(cK d 0).bind fun N=>(dG d N).bind fun O=>some (decide (O.Rule<10))else some false:aB (Bool))).bind fun P=>some P:aB (Bool))).bind fun R=>some R else some false:aB (Bool))).bind fun S=>if S then some d else(cZ1 d x1 6).bind fun e=>((if decide ((e.length:Int)>0)then((if false then some true else((if false then(cK e 0).bind fun T=>(dG e T).bind fun U=>some (decide (U.Rule<10))else some false:aB (Bool))).bind fun V=>some V:aB (Bool))).bind fun W=>some W else some false:aB (Bool))).bind fun X=>if X then some e else(dJ1 e x1 7).bind fun f=>((if decide ((f.length:Int)>0)then((if false then some true else((if false then(cK f 0).bind fun Y=>(dG f Y).bind fun Z=>some (decide (Z.Rule<10))else some false:aB (Bool))).bind fun a0=>some a0:aB (Bool))).bind fun b0=>some b0 else some false:aB (Bool))).bind fun b4=>if b4 then some f else(dL1 f x1 8).bind fun g=>((if decide ((g.length:Int)>0)then((if false then some true else((if false then(cK g 0).bind fun b5=>(dG g b5).bind fun b6=>some (decide (b6.Rule<10))else some false:aB (Bool))).bind fun b7=>some b7:aB (Bool))).bind fun b8=>some b8 else some false:aB (Bool))).bind fun b9=>if b9 then some g else(dP1 g x1 9).bind fun h=>((if decide ((h.length:Int)>0)then((if false then some true else((if true then(cK h 0).bind fun d1=>(dG h d1).bind fun d2=>some (decide (d2.Rule<10))else some false:aB (Bool))).bind fun d3=>some d3:aB (Bool))).bind fun d4=>some d4 else some false:aB (Bool))).bind fun d5=>if d5 then some h else(dW1 h x1 10).bind fun i=>((if decide ((i.length:Int)>0)then((if false then some true else((if true then(cK i 0).bind fun d6=>(dG i d6).bind fun d7=>some (decide (d7.Rule<10))else some false:aB (Bool))).bind fun d8=>some d8:aB (Bool))).bind fun d9=>some d9 else some false:aB (Bool))).bind fun e0=>if e0 then some i else(eA1 i x1 11).bind fun j=>((if decide ((j.length:Int)>0)then((if false then some true else((if true then(cK j 0).bind fun e1=>(dG j e1).bind fun e3=>some (decide (e3.Rule<10))else some false:aB (Bool))).bind fun e4=>some e4:aB (Bool))).bind fun e5=>some e5 else some false:aB (Bool))).bind fun e6=>if e6 then some j else(Rn j x1 12).bind fun k=>((if decide ((k.length:Int)>0)then((if false then some true else((if true then(cK k 0).bind fun e7=>(dG k e7).bind fun e8=>some (decide (e8.Rule<10))else some false:aB (Bool))).bind fun e9=>some e9:aB (Bool))).bind fun f1=>some f1 else some false:aB (Bool))).bind fun f2=>if f2 then some k else(eH1 k x1 13).bind fun l=>((if decide ((l.length:Int)>0)then((if false then some true else((if true then(cK l 0).bind fun f4=>(dG l f4).bind fun f5=>some (decide (f5.Rule<10))else some false:aB (Bool))).bind fun f6=>some f6:aB (Bool))).bind fun f7=>some f7 else some false:aB (Bool))).bind fun f8=>if f8 then some l else(eM1 l x1 14).bind fun m=>((if decide ((m.length:Int)>0)then((if false then some true else((if true then(cK m 0).bind fun f9=>(dG m f9).bind fun g1=>some (decide (g1.Rule<10))else some false:aB (Bool))).bind fun g3=>some g3:aB (Bool))).bind fun g4=>some g4 else some false:aB (Bool))).bind fun g5=>if g5 then some m else(eS1 m x1 15).bind fun n=>((if decide ((n.length:Int)>0)then((if false then some true else((if true then(cK n 0).bind fun g6=>(dG n g6).bind fun g7=>some (decide (g7.Rule<10))else some false:aB (Bool))).bind fun g8=>some g8:aB (Bool))).bind fun g9=>some g9 else some false:aB (Bool))).bind fun h0=>if h0 then some n else(eV1 n x1 16).bind fun o=>((if decide ((o.length:Int)>0)then((if false then some true else((if true then(cK o 0).bind fun h2=>(dG o h2).bind fun h3=>some (decide (h3.Rule<10))else some false:aB (Bool))).bind fun p=>some p:aB (Bool))).bind fun q=>some q else some false:aB (Bool))).bind fun r=>if r then some o else(eY1 o x1 17).bind fun s=>some s
theorem eL2 [Inhabited Rc] {k} (d) (x1:Y0):OD k (d+25) 17 [.agg (Y0.g x1)]=(F17 x1).map (fun y0=>.is 3 (I YV.g y0)):=by
 refine oe rfl ?_;refine bz (cQ YV.g ([]:aA YV)) ?_;refine bo (e:=id) ?_ fun x6=>?_;refine io ?_ rfl;refine bo (e:=id) ?_ fun x5=>?_;refine io rfl ?_;refine bo (e:=id) ?_ fun x4=>?_;refine io ?_ rfl;refine bo (aY YV.g ([]:aA YV) _) fun x2=>?_;refine bo (cC (A:=YV) (c:=YV.g) (g:=fun R=>i64 R.Rule) (fun _=>rfl) ([]:aA YV) _) fun R=>?_;rfl;rfl;rfl;refine io rfl ?_;refine bo (qO1 (d+19) [] x1 1) fun L=>?_;refine bz (cQ YV.g L) ?_;refine bo (e:=id) ?_ fun V=>?_;refine io ?_ rfl;refine bo (e:=id) ?_ fun U=>?_;refine io rfl ?_;refine bo (e:=id) ?_ fun T=>?_;refine io ?_ rfl;refine bo (aY YV.g L _) fun x8=>?_;refine bo (cC (A:=YV) (c:=YV.g) (g:=fun S=>i64 S.Rule) (fun _=>rfl) L _) fun S=>?_;rfl;rfl;rfl;refine io rfl ?_;refine bo (qT1 (d+20) L x1 2) fun a=>?_;refine bz (cQ YV.g a) ?_;refine bo (e:=id) ?_ fun Z=>?_;refine io ?_ rfl;refine bo (e:=id) ?_ fun Y=>?_;refine io rfl ?_;refine bo (e:=id) ?_ fun X=>?_;refine io ?_ rfl;refine bo (aY YV.g a _) fun W=>?_;refine bo (cC (A:=YV) (c:=YV.g) (g:=fun u=>i64 u.Rule) (fun _=>rfl) a _) fun u=>?_;rfl;rfl;rfl;refine io rfl ?_;refine bo (qV1 (d+21) a x1 3) fun b=>?_;refine bz (cQ YV.g b) ?_;refine bo (e:=id) ?_ fun b5=>?_;refine io ?_ rfl;refine bo (e:=id) ?_ fun b4=>?_;refine io rfl ?_;refine bo (e:=id) ?_ fun b0=>?_;refine io ?_ rfl;refine bo (aY YV.g b _) fun a0=>?_;refine bo (cC (A:=YV) (c:=YV.g) (g:=fun v=>i64 v.Rule) (fun _=>rfl) b _) fun v=>?_;rfl;rfl;rfl;refine io rfl ?_;refine bo (rF1 (d+17) b x1 4) fun f=>?_;refine bz (cQ YV.g f) ?_;refine bo (e:=id) ?_ fun b9=>?_;refine io ?_ rfl;refine bo (e:=id) ?_ fun b8=>?_;refine io rfl ?_;refine bo (e:=id) ?_ fun b7=>?_;refine io ?_ rfl;refine bo (aY YV.g f _) fun b6=>?_;refine bo (cC (A:=YV) (c:=YV.g) (g:=fun w=>i64 w.Rule) (fun _=>rfl) f _) fun w=>?_;rfl;rfl;rfl;refine io rfl ?_;refine bo (rH1 (d+17) f x1 5) fun h=>?_;refine bz (cQ YV.g h) ?_;refine bo (e:=id) ?_ fun d4=>?_;refine io ?_ rfl;refine bo (e:=id) ?_ fun d3=>?_;refine io rfl ?_;refine bo (e:=id) ?_ fun d2=>?_;refine io ?_ rfl;refine bo (aY YV.g h _) fun d1=>?_;refine bo (cC (A:=YV) (c:=YV.g) (g:=fun x=>i64 x.Rule) (fun _=>rfl) h _) fun x=>?_;rfl;rfl;rfl;refine io rfl ?_;refine bo (sX1 d h x1 6) fun i=>?_;refine bz (cQ YV.g i) ?_;refine bo (e:=id) ?_ fun d8=>?_;refine io ?_ rfl;refine bo (e:=id) ?_ fun d7=>?_;refine io rfl ?_;refine bo (e:=id) ?_ fun d6=>?_;refine io ?_ rfl;refine bo (aY YV.g i _) fun d5=>?_;refine bo (cC (A:=YV) (c:=YV.g) (g:=fun y=>i64 y.Rule) (fun _=>rfl) i _) fun y=>?_;rfl;rfl;rfl;refine io rfl ?_;refine bo (sY1 d i x1 7) fun j=>?_;refine bz (cQ YV.g j) ?_;refine bo (e:=id) ?_ fun e3=>?_;refine io ?_ rfl;refine bo (e:=id) ?_ fun e1=>?_;refine io rfl ?_;refine bo (e:=id) ?_ fun e0=>?_;refine io ?_ rfl;refine bo (aY YV.g j _) fun d9=>?_;refine bo (cC (A:=YV) (c:=YV.g) (g:=fun z=>i64 z.Rule) (fun _=>rfl) j _) fun z=>?_;rfl;rfl;rfl;refine io rfl ?_;refine bo (tA1 (d+13) j x1 8) fun l=>?_;refine bz (cQ YV.g l) ?_;refine bo (e:=id) ?_ fun e7=>?_;refine io ?_ rfl;refine bo (e:=id) ?_ fun e6=>?_;refine io rfl ?_;refine bo (e:=id) ?_ fun e5=>?_;refine io ?_ rfl;refine bo (aY YV.g l _) fun e4=>?_;refine bo (cC (A:=YV) (c:=YV.g) (g:=fun B=>i64 B.Rule) (fun _=>rfl) l _) fun B=>?_;rfl;rfl;rfl;refine io rfl ?_;refine bo (tG1 (d+13) l x1 9) fun m=>?_;refine bz (cQ YV.g m) ?_;refine bo (e:=id) ?_ fun f2=>?_;refine io ?_ rfl;refine bo (e:=id) ?_ fun f1=>?_;refine io rfl ?_;refine bo (e:=id) ?_ fun e9=>?_;refine io ?_ rfl;refine bo (aY YV.g m _) fun e8=>?_;refine bo (cC (A:=YV) (c:=YV.g) (g:=fun C=>i64 C.Rule) (fun _=>rfl) m _) fun C=>?_;rfl;rfl;rfl;refine io rfl ?_;refine bo (tO1 (d+17) m x1 10) fun n=>?_;refine bz (cQ YV.g n) ?_;refine bo (e:=id) ?_ fun f7=>?_;refine io ?_ rfl;refine bo (e:=id) ?_ fun f6=>?_;refine io rfl ?_;refine bo (e:=id) ?_ fun f5=>?_;refine io ?_ rfl;refine bo (aY YV.g n _) fun f4=>?_;refine bo (cC (A:=YV) (c:=YV.g) (g:=fun D=>i64 D.Rule) (fun _=>rfl) n _) fun D=>?_;rfl;rfl;rfl;refine io rfl ?_;refine bo (tR1 (d+21) n x1 11) fun o=>?_;refine bz (cQ YV.g o) ?_;refine bo (e:=id) ?_ fun g3=>?_;refine io ?_ rfl;refine bo (e:=id) ?_ fun g1=>?_;refine io rfl ?_;refine bo (e:=id) ?_ fun f9=>?_;refine io ?_ rfl;refine bo (aY YV.g o _) fun f8=>?_;refine bo (cC (A:=YV) (c:=YV.g) (g:=fun E=>i64 E.Rule) (fun _=>rfl) o _) fun E=>?_;rfl;rfl;rfl;refine io rfl ?_;refine bo (tU1 (d+7) o x1 12) fun p=>?_;refine bz (cQ YV.g p) ?_;refine bo (e:=id) ?_ fun g7=>?_;refine io ?_ rfl;refine bo (e:=id) ?_ fun g6=>?_;refine io rfl ?_;refine bo (e:=id) ?_ fun g5=>?_;refine io ?_ rfl;refine bo (aY YV.g p _) fun g4=>?_;refine bo (cC (A:=YV) (c:=YV.g) (g:=fun F=>i64 F.Rule) (fun _=>rfl) p _) fun F=>?_;rfl;rfl;rfl;refine io rfl ?_;refine bo (tY1 (d+7) p x1 13) fun q=>?_;refine bz (cQ YV.g q) ?_;refine bo (e:=id) ?_ fun h2=>?_;refine io ?_ rfl;refine bo (e:=id) ?_ fun h0=>?_;refine io rfl ?_;refine bo (e:=id) ?_ fun g9=>?_;refine io ?_ rfl;refine bo (aY YV.g q _) fun g8=>?_;refine bo (cC (A:=YV) (c:=YV.g) (g:=fun G=>i64 G.Rule) (fun _=>rfl) q _) fun G=>?_;rfl;rfl;rfl;refine io rfl ?_;refine bo (uB1 (d+19) q x1 14) fun r=>?_;refine bz (cQ YV.g r) ?_;refine bo (e:=id) ?_ fun h6=>?_;refine io ?_ rfl;refine bo (e:=id) ?_ fun h5=>?_;refine io rfl ?_;refine bo (e:=id) ?_ fun h4=>?_;refine io ?_ rfl;refine bo (aY YV.g r _) fun h3=>?_;refine bo (cC (A:=YV) (c:=YV.g) (g:=fun H=>i64 H.Rule) (fun _=>rfl) r _) fun H=>?_;rfl;rfl;rfl;refine io rfl ?_;refine bo (uF1 (d+16) r x1 15) fun s=>?_;refine bz (cQ YV.g s) ?_;refine bo (e:=id) ?_ fun i0=>?_;refine io ?_ rfl;refine bo (e:=id) ?_ fun h9=>?_;refine io rfl ?_;refine bo (e:=id) ?_ fun h8=>?_;refine io ?_ rfl;refine bo (aY YV.g s _) fun h7=>?_;refine bo (cC (A:=YV) (c:=YV.g) (g:=fun J=>i64 J.Rule) (fun _=>rfl) s _) fun J=>?_;rfl;rfl;rfl;refine io rfl ?_;refine bo (uH1 (d+17) s x1 16) fun t=>?_;refine bz (cQ YV.g t) ?_;refine bo (e:=id) ?_ fun O=>?_;refine io ?_ rfl;refine bo (e:=id) ?_ fun N=>?_;refine io rfl ?_;refine bo (e:=id) ?_ fun M=>?_;refine io ?_ rfl;refine bo (aY YV.g t _) fun i1=>?_;refine bo (cC (A:=YV) (c:=YV.g) (g:=fun K=>i64 K.Rule) (fun _=>rfl) t _) fun K=>?_;rfl;rfl;rfl;refine io rfl ?_;refine bo (uJ1 (d+17) t x1 17) fun P=>?_;rfl
end Go.P
