import Derived.Test.YtaghiddbmfnakaaGreatLpB
import Derived.KernelRfl
import Derived.Test.YtaghiddbmfnakaaGreatChecked
/- A text of the proof. -/
set_option linter.all false
set_option maxRecDepth 100000
set_option maxHeartbeats 2000000
namespace Go.P
open Go.Sim (Ex dV CK)
structure YZ where
 Site:Int
 Number:Int
 deriving DecidableEq,Inhabited
def YZ.g (x:YZ):aA PV:=[i64 x.Site,i64 x.Number]
structure YL where
 Steps:Int
 Semitones:Int
 deriving DecidableEq,Inhabited
def YL.g (x:YL):aA PV:=[i64 x.Steps,i64 x.Semitones]
structure YF where
 ID:YZ
 Clef:Int
 deriving DecidableEq,Inhabited
def YF.g (x:YF):aA PV:=[i64 x.ID.Site,i64 x.ID.Number,i64 x.Clef]
structure YJ where
 ID:YZ
 Name:ByteArray
 Transpose:YL
 Staves:List YF
 deriving Inhabited
def YJ.g (x:YJ):aA PV:=[i64 x.ID.Site,i64 x.ID.Number,.v (.string x.Name),i64 x.Transpose.Steps,i64 x.Transpose.Semitones,.is 3 (List.map YF.g x.Staves)]
structure Y6 where
 c0:Int
 c1:Int
 c2:Int
 c3:Int
 c4:Int
 c5:Int
 deriving DecidableEq,Inhabited
def Y6.g (x:Y6):aA PV:=[i64 x.c0,i64 x.c1,i64 x.c2,i64 x.c3,i64 x.c4,i64 x.c5]
structure YX where
 Count:Int
 Unit:Int
 Groups:Y6
 deriving DecidableEq,Inhabited
def YX.g (x:YX):aA PV:=[i64 x.Count,i64 x.Unit,i64 x.Groups.c0,i64 x.Groups.c1,i64 x.Groups.c2,i64 x.Groups.c3,i64 x.Groups.c4,i64 x.Groups.c5]
structure YT where
 At:Int
 Micros:Int
 Ramp:Bool
 deriving DecidableEq,Inhabited
def YT.g (x:YT):aA PV:=[i64 x.At,i64 x.Micros,bv x.Ramp]
structure YC where
 At:Int
 Clef:Int
 deriving DecidableEq,Inhabited
def YC.g (x:YC):aA PV:=[i64 x.At,i64 x.Clef]
structure YA where
 Log:Int
 Dots:Int
 deriving DecidableEq,Inhabited
def YA.g (x:YA):aA PV:=[i64 x.Log,i64 x.Dots]
structure YH where
 Step:Int
 Alter:Int
 Octave:Int
 deriving DecidableEq,Inhabited
def YH.g (x:YH):aA PV:=[i64 x.Step,i64 x.Alter,i64 x.Octave]
structure YB where
 Pitch:YH
 Tied:Bool
 Show:Int
 deriving DecidableEq,Inhabited
def YB.g (x:YB):aA PV:=[i64 x.Pitch.Step,i64 x.Pitch.Alter,i64 x.Pitch.Octave,bv x.Tied,i64 x.Show]
structure YD where
 Pitch:YH
 Log:Int
 Slash:Bool
 deriving DecidableEq,Inhabited
def YD.g (x:YD):aA PV:=[i64 x.Pitch.Step,i64 x.Pitch.Alter,i64 x.Pitch.Octave,i64 x.Log,bv x.Slash]
structure YY where
 Text:ByteArray
 Link:Int
 deriving DecidableEq,Inhabited
def YY.g (x:YY):aA PV:=[.v (.string x.Text),i64 x.Link]
structure YE where
 ID:YZ
 Kind:Int
 Value:YA
 Heads:List YB
 Graces:List YD
 Articulations:Int
 Ornament:Int
 Dynamic:Int
 Lyrics:List YY
 Stem:Int
 Beam:Int
 deriving Inhabited
def YE.g (x:YE):aA PV:=[i64 x.ID.Site,i64 x.ID.Number,i64 x.Kind,i64 x.Value.Log,i64 x.Value.Dots,.is 5 (List.map YB.g x.Heads),.is 5 (List.map YD.g x.Graces),i64 x.Articulations,i64 x.Ornament,i64 x.Dynamic,.is 2 (List.map YY.g x.Lyrics),i64 x.Stem,i64 x.Beam]
structure YU where
 First:Int
 Count:Int
 Actual:Int
 Normal:Int
 deriving DecidableEq,Inhabited
def YU.g (x:YU):aA PV:=[i64 x.First,i64 x.Count,i64 x.Actual,i64 x.Normal]
structure YO where
 Events:List YE
 Tuplets:List YU
 deriving Inhabited
def YO.g (x:YO):aA PV:=[.is 13 (List.map YE.g x.Events),.is 4 (List.map YU.g x.Tuplets)]
structure YW where
 Clefs:List YC
 Voices:List YO
 deriving Inhabited
def YW.g (x:YW):aA PV:=[.is 2 (List.map YC.g x.Clefs),.is 2 (List.map YO.g x.Voices)]
structure YM where
 ID:YZ
 Metre:YX
 Length:Int
 Fifths:Int
 RepeatStart:Bool
 RepeatEnd:Int
 Endings:Int
 Jump:Int
 Labels:Int
 Swing:Int
 Break:Int
 Rehearsal:ByteArray
 Tempi:List YT
 Cells:List YW
 deriving Inhabited
def YM.g (x:YM):aA PV:=[i64 x.ID.Site,i64 x.ID.Number,i64 x.Metre.Count,i64 x.Metre.Unit,i64 x.Metre.Groups.c0,i64 x.Metre.Groups.c1,i64 x.Metre.Groups.c2,i64 x.Metre.Groups.c3,i64 x.Metre.Groups.c4,i64 x.Metre.Groups.c5,i64 x.Length,i64 x.Fifths,bv x.RepeatStart,i64 x.RepeatEnd,i64 x.Endings,i64 x.Jump,i64 x.Labels,i64 x.Swing,i64 x.Break,.v (.string x.Rehearsal),.is 3 (List.map YT.g x.Tempi),.is 2 (List.map YW.g x.Cells)]
structure YN where
 ID:YZ
 Kind:Int
 From:YZ
 To:YZ
 deriving DecidableEq,Inhabited
def YN.g (x:YN):aA PV:=[i64 x.ID.Site,i64 x.ID.Number,i64 x.Kind,i64 x.From.Site,i64 x.From.Number,i64 x.To.Site,i64 x.To.Number]
structure Y0 where
 Title:ByteArray
 Written:Bool
 Parts:List YJ
 Measures:List YM
 Spanners:List YN
 Last:List YZ
 deriving Inhabited
def Y0.g (x:Y0):aA PV:=[.v (.string x.Title),bv x.Written,.is 6 (List.map YJ.g x.Parts),.is 22 (List.map YM.g x.Measures),.is 7 (List.map YN.g x.Spanners),.is 2 (List.map YZ.g x.Last)]
structure YV where
 Rule:Int
 Object:YZ
 deriving DecidableEq,Inhabited
def YV.g (x:YV):aA PV:=[i64 x.Rule,i64 x.Object.Site,i64 x.Object.Number]
structure YI where
 name:ByteArray
 letter:Int
 line:Int
 octaves:Int
 middle:Int
 sharps:Int
 flats:Int
 deriving DecidableEq,Inhabited
def YI.g (x:YI):aA PV:=[.v (.string x.name),.v (.int .u8 x.letter),i64 x.line,i64 x.octaves,i64 x.middle,i64 x.sharps,i64 x.flats]
structure Y9 where
 c0:YI
 c1:YI
 c2:YI
 c3:YI
 c4:YI
 c5:YI
 c6:YI
 c7:YI
 c8:YI
 deriving DecidableEq,Inhabited
def Y9.g (x:Y9):aA PV:=[.v (.string x.c0.name),.v (.int .u8 x.c0.letter),i64 x.c0.line,i64 x.c0.octaves,i64 x.c0.middle,i64 x.c0.sharps,i64 x.c0.flats,.v (.string x.c1.name),.v (.int .u8 x.c1.letter),i64 x.c1.line,i64 x.c1.octaves,i64 x.c1.middle,i64 x.c1.sharps,i64 x.c1.flats,.v (.string x.c2.name),.v (.int .u8 x.c2.letter),i64 x.c2.line,i64 x.c2.octaves,i64 x.c2.middle,i64 x.c2.sharps,i64 x.c2.flats,.v (.string x.c3.name),.v (.int .u8 x.c3.letter),i64 x.c3.line,i64 x.c3.octaves,i64 x.c3.middle,i64 x.c3.sharps,i64 x.c3.flats,.v (.string x.c4.name),.v (.int .u8 x.c4.letter),i64 x.c4.line,i64 x.c4.octaves,i64 x.c4.middle,i64 x.c4.sharps,i64 x.c4.flats,.v (.string x.c5.name),.v (.int .u8 x.c5.letter),i64 x.c5.line,i64 x.c5.octaves,i64 x.c5.middle,i64 x.c5.sharps,i64 x.c5.flats,.v (.string x.c6.name),.v (.int .u8 x.c6.letter),i64 x.c6.line,i64 x.c6.octaves,i64 x.c6.middle,i64 x.c6.sharps,i64 x.c6.flats,.v (.string x.c7.name),.v (.int .u8 x.c7.letter),i64 x.c7.line,i64 x.c7.octaves,i64 x.c7.middle,i64 x.c7.sharps,i64 x.c7.flats,.v (.string x.c8.name),.v (.int .u8 x.c8.letter),i64 x.c8.line,i64 x.c8.octaves,i64 x.c8.middle,i64 x.c8.sharps,i64 x.c8.flats]
structure YK where
 s':Y0
 rule:Int
 list:List YV
 deriving Inhabited
def YK.g (x:YK):aA PV:=[.v (.string x.s'.Title),bv x.s'.Written,.is 6 (List.map YJ.g x.s'.Parts),.is 22 (List.map YM.g x.s'.Measures),.is 7 (List.map YN.g x.s'.Spanners),.is 2 (List.map YZ.g x.s'.Last),i64 x.rule,.is 3 (List.map YV.g x.list)]
structure yL where
 c0:Int
 c1:Int
 c2:Int
 c3:Int
 c4:Int
 c5:Int
 c6:Int
 deriving DecidableEq,Inhabited
def yL.g (x:yL):aA PV:=[i64 x.c0,i64 x.c1,i64 x.c2,i64 x.c3,i64 x.c4,i64 x.c5,i64 x.c6]
structure YP where
 Kind:Int
 Part:Int
 Staff:Int
 Measure:Int
 Voice:Int
 Event:Int
 Spanner:Int
 deriving DecidableEq,Inhabited
def YP.g (x:YP):aA PV:=[i64 x.Kind,i64 x.Part,i64 x.Staff,i64 x.Measure,i64 x.Voice,i64 x.Event,i64 x.Spanner]
structure YQ where
 Measure:Int
 At:Int
 Staff:Int
 Voice:Int
 deriving DecidableEq,Inhabited
def YQ.g (x:YQ):aA PV:=[i64 x.Measure,i64 x.At,i64 x.Staff,i64 x.Voice]
structure YS where
 Kind:Int
 From:YQ
 To:YQ
 deriving DecidableEq,Inhabited
def YS.g (x:YS):aA PV:=[i64 x.Kind,i64 x.From.Measure,i64 x.From.At,i64 x.From.Staff,i64 x.From.Voice,i64 x.To.Measure,i64 x.To.At,i64 x.To.Staff,i64 x.To.Voice]
structure YG where
 started:Bool
 body:Int
 used:Int
 ending:Int
 ended:Bool
 passes:Int
 deriving DecidableEq,Inhabited
def YG.g (x:YG):aA PV:=[bv x.started,i64 x.body,i64 x.used,i64 x.ending,bv x.ended,i64 x.passes]
structure aX where
 first:Int
 end':Int
 deriving DecidableEq,Inhabited
def aX.g (x:aX):aA PV:=[i64 x.first,i64 x.end']
structure aV where
 span:aX
 bits:Int
 deriving DecidableEq,Inhabited
def aV.g (x:aV):aA PV:=[i64 x.span.first,i64 x.span.end',i64 x.bits]
structure aH where
 body:aX
 endings:List aV
 passes:Int
 deriving Inhabited
def aH.g (x:aH):aA PV:=[i64 x.body.first,i64 x.body.end',.is 3 (List.map aV.g x.endings),i64 x.passes]
structure aZ where
 Measure:Int
 Pass:Int
 deriving DecidableEq,Inhabited
def aZ.g (x:aZ):aA PV:=[i64 x.Measure,i64 x.Pass]
structure aQ where
 from':Int
 to:Int
 bits:Int
 deriving DecidableEq,Inhabited
def aQ.g (x:aQ):aA PV:=[i64 x.from',i64 x.to,i64 x.bits]
structure aI where
 body:aQ
 endings:List aQ
 times:Int
 deriving Inhabited
def aI.g (x:aI):aA PV:=[i64 x.body.from',i64 x.body.to,i64 x.body.bits,.is 3 (List.map aQ.g x.endings),i64 x.times]
structure aK where
 measure:Int
 last:Bool
 deriving DecidableEq,Inhabited
def aK.g (x:aK):aA PV:=[i64 x.measure,bv x.last]
structure bJ where
 Start:Int
 End:Int
 Endings:Int
 Jump:Int
 Labels:Int
 deriving DecidableEq,Inhabited
def bJ.g (x:bJ):aA PV:=[.v (.int .u8 x.Start),.v (.int .u8 x.End),.v (.int .u8 x.Endings),.v (.int .u8 x.Jump),.v (.int .u8 x.Labels)]
theorem Lv:Bb (eA YZ.g) true [.i,.i]:=⟨fun _=>rfl,fun a b=>by
 cases a;cases b
 simp only[pY,eA,YZ.g,i64,iZ,oX,YZ.mk.injEq,jN2,iR2,and_self,jJ2]
 repeat' (first|rfl|split)
 all_goals simp_all⟩
theorem gU:Bb (eA YP.g) true [.i,.i,.i,.i,.i,.i,.i]:=⟨fun _=>rfl,fun a b=>by
 cases a;cases b
 simp only[pY,eA,YP.g,i64,iZ,oX,YP.mk.injEq,jN2,iR2,and_self,jJ2]
 repeat' (first|rfl|split)
 all_goals simp_all⟩
theorem mU:Bb i64 false [.i]:=⟨fun _=>rfl,fun a b=>by
 unfold pY
 simp only[iQ2,jS2,iZ,oX,i64,jJ2]
 cases hb:(a==b)with
 |true=>rw[jR2 (by simpa using hb)]
 |false=>rw[jV2 (by simpa using hb)]⟩
end Go.P
namespace Go.P.K
open Go.Sim (Ex dV CK)
abbrev I {A B:Type} (f:A->B) (l:aA A):aA B:=l.map f
abbrev Q (e:dZ) (h:aT):Fm:=⟨e,h⟩
abbrev rq (e:dZ) (h:aT):Ex×Fm:=(.ret,⟨e,h⟩)
abbrev ck (s:Y0) (r:Int) (l:PV):aA PV:=[.v (.string s.Title),bv s.Written,.is 6 (List.map YJ.g s.Parts),.is 22 (List.map YM.g s.Measures),.is 7 (List.map YN.g s.Spanners),.is 2 (List.map YZ.g s.Last),i64 r,l]
abbrev nq (e:dZ) (h:aT):Ex×Fm:=(.normal,⟨e,h⟩)
abbrev xq (n:Nat) (e:dZ) (h:aT):Ex×Fm:=(.exit n,⟨e,h⟩)
end Go.P.K
namespace Go.P.K
open Go.Sim (Ex dV CK)
abbrev t (n:Nat):PX:=.t n
abbrev c (n:Int):PX:=.c (.v (.int .i64 n))
abbrev cn:PX:=.c (.v (.slice none 0 0))
abbrev ct:PX:=.c (.v (.bool true))
abbrev cf:PX:=.c (.v (.bool false))
abbrev J (n:Int):Value:=.int .i64 n
abbrev ZS:Value:=.string ⟨#[]⟩
abbrev ZB:Value:=.bool false
abbrev ZN:Value:=.slice none 0 0
abbrev o (d:Nat) (k:dV) (xs:aA PX) (l:aA Nat) (r:gJ):gJ:=.op d k xs l r
abbrev m (d x:Nat) (r:gJ):gJ:=.op d .mov [.t x] [] r
abbrev M (d x:Nat) (r:gJ):gJ:=.op d .mov [.t x] [x] r
abbrev L (d x:Nat) (r:gJ):gJ:=.op d .loadS [.t x] [x] r
abbrev a (d k x:Nat) (r:gJ):gJ:=.op d (.fad k) [.t x] [] r
abbrev A (d k x:Nat) (r:gJ):gJ:=.op d (.fad k) [.t x] [x] r
abbrev b (d:Nat) (k:BinOp) (xs:aA PX) (l:aA Nat) (r:gJ):gJ:=.op d (.bin k) xs l r
abbrev f (d g:Nat) (xs:aA PX) (l:aA Nat) (r:gJ):gJ:=.op d (.callF g) xs l r
abbrev e (d k x:Nat) (l:aA Nat) (r:gJ):gJ:=.op d (.ext k) [.t x] l r
abbrev O (d:Nat) (k:dV) (x:Nat) (r:gJ):gJ:=.op d k [.t x] [x] r
abbrev B (d:Nat) (k:BinOp) (x:Nat) (n:Int) (r:gJ):gJ:=.op d (.bin k) [.t x,c n] [x] r
abbrev C (d:Nat) (k:BinOp) (x y:Nat) (r:gJ):gJ:=.op d (.bin k) [.t x,.t y] [x,y] r
abbrev U (d:Nat) (k:dV) (l:aA Nat) (r:gJ):gJ:=.op d k (l.map .t) l r
abbrev x (d g:Nat) (w:Bool) (s:gJ) (y:PX) (l:aA Nat) (r:gJ):gJ:=.ifx d g w s y l r
abbrev R (s:gJ) (q:PC):PC:=.seq (.reg s) q
abbrev z0:aA Value:=[ZS,ZB,ZN,ZN,ZN,ZN]
abbrev z1:aA Value:=[(J 0),(J 0),(J 0),(J 0),(J 0),(J 0),(J 0),(J 0),(J 0),(J 0),(J 0),(J 0),ZB,(J 0),(J 0),(J 0),(J 0),(J 0),(J 0),ZS,ZN,ZN]
abbrev z2:aA Value:=[(.map none)]
abbrev z3:aA Value:=[(J 0),(J 0)]
abbrev z4:aA Value:=[(J 0),(J 0),(J 0),(J 0),(J 0),ZN,ZN,(J 0),(J 0),(J 0),ZN,(J 0),(J 0)]
abbrev z5:aA Value:=[(J 0),(J 0),(J 0),(J 0),(J 0),(J 0),(J 0),(J 0)]
abbrev z6:aA Value:=[(J 0),(J 0),(J 0)]
abbrev z7:aA Value:=[(J 0),(J 0),ZS,(J 0),(J 0),ZN]
abbrev z8:aA Value:=[ZS,ZB,ZN,ZN,ZN,ZN,(J 0),ZN]
abbrev z9:aA Value:=[(J 0),(J 0),(J 0),ZN,(J 0)]
abbrev z10:aA Value:=[(J 0),(J 0),ZN,(J 0)]
abbrev Yu:aA Value:=[(J 0),(J 0),(J 0),(J 0),(J 0),(J 0),(J 0)]
abbrev z12:aA Value:=[ZB,(J 0),(J 0),(J 0),ZB,(J 0)]
abbrev z13:aA Value:=[ZS,(.int .u8 0),(J 0),(J 0),(J 0),(J 0),(J 0)]
abbrev z14:aA Value:=[(J 0),(J 0),(J 0),ZB,(J 0)]
abbrev z15:aA Value:=[(J 0),(J 0),(J 0),(J 0)]
abbrev z16:aA Value:=[(J 0),(J 0),(J 0),(J 0),(J 0),(J 0),(J 0),(J 0),(J 0)]
abbrev z17:aA Value:=[.nilFunc,.nilFunc,.nilFunc,.nilFunc,.nilFunc,.nilFunc,.nilFunc]
abbrev z19:aA Value:=[(J 0),(J 0),(J 0),(J 0),ZB]
abbrev z21:aA Value:=[(J 0),(J 0),(J 0),(J 0),(J 0),(J 0)]
end Go.P.K
namespace Go.P
open Go.Sim (Ex dV CK)
noncomputable section
open K
noncomputable abbrev aP (f s:Nat) (z:Bool):bR:=anF Go.Proofs.Tryz.prog f s z
def zg (l:aA bR) (i:Nat):bR:=(l[i]?).getD default
def cF:PC:=.reg<|M 6 13<|.nil
def cH:PC:=.block 1 (.seq (R (o 14 .loadS [t 4] []<|O 15 (.len 0) 14<|B 16 .eql 15 8192<|.nil)<|.cond (t 16) (R (.sto (.store 1) [t 2,cn] []<|.laxc 2 0 2<|.sto (.store 1) [t 3,c 9] [3]<|.nil)<|.ret) (.skip))<|R (o 17 .loadS [t 4] []<|m 18 6<|o 19 .loadS [t 5] []<|m 20 6<|U 21 (.lookup false [.i] (.v (.int .i64 0)) false) [19,20]<|U 22 (.build z3 [(0,1),(1,1)]) [18,21]<|O 23 (.buildSl 68 2 1 z3 [0]) 22<|U 24 (.append 68 2 16 z3 false) [17,23]<|.sto (.store 1) [t 4,t 24] [4,24]<|.nil)<|.reg<|L 25 5<|M 26 6<|o 27 (.lookup false [.i] (.v (.int .i64 0)) false) [t 25,t 26] []<|B 28 .add 27 1<|.sto (.mapup false [.i]) [t 25,t 26,t 28] [25,26,28]<|.nil)
def p7:bR:=⟨30,[.cellS 2,.cellS 3],R (O 1 (.box 27 6) 0<|U 2 (.alloc 30 [ZN]) []<|.laxc 2 0 2<|U 3 (.alloc 31 [(J 0)]) []<|.nil)<|.seq (R (o 7 (.loadA 6) [t 1] []<|O 8 (.callF 8) 7<|O 9 (.un .not) 8<|.nil)<|.cond (t 9) (R (.sto (.store 1) [t 2,cn] []<|.laxc 2 0 2<|.sto (.store 1) [t 3,c 24] []<|.nil)<|.ret) (.skip))<|R (U 4 (.alloc 30 [ZN]) []<|.ownc 4 0 68 2 false<|.nil)<|R (U 10 .mkmap []<|U 5 (.alloc 69 z2) []<|.sto (.store 1) [t 5,t 10] [10]<|.nil)<|.seq (R (O 11 (.loadA 6) 1<|O 12 (.callF 17) 11<|.nil)<|.block 0 (.rangeF 30 [2,3,4,5] (t 12) [13] cF cH))<|R (L 29 4<|.sto (.store 1) [t 2,t 29] [29]<|.sto (.store 1) [t 3,c 0] []<|.nil)<|.ret,false⟩
def p9:bR:=⟨26,[.tmp 4],R (o 4 .mov [cf] [4]<|.nil)<|.seq (R (o 6 .mov [t 0] [4]<|O 7 (.len 0) 6<|m 8 1<|O 9 (.len 0) 8<|C 10 .neq 7 9<|.nil)<|.cond (t 10) (R (o 4 .mov [cf] []<|.nil)<|.ret) (.skip))<|.seq (R (o 5 .mov [c 0] []<|.nil)<|.block 0 (.loop [0,1,5] [4] (.seq (R (m 11 5<|m 12 0<|O 13 (.len 0) 12<|C 14 .lss 11 13<|.nil)<|.cond (t 14) (.skip) (.exit 0))<|.seq (.block 1 (.seq (.regD 3 (m 17 0<|m 18 5<|U 19 (.iad 2) [17,18]<|O 20 (.loadA 2) 19<|m 21 1<|m 22 5<|U 23 (.iad 2) [21,22]<|O 24 (.loadA 2) 23<|U 25 (.eqA true [.i,.i]) [20,24]<|.nil) [0,0,3,7,0,0,48,112,255])<|.cond (t 25) (R (o 4 .mov [cf] []<|.nil)<|.ret) (.skip)))<|.reg<|M 15 5<|B 16 .add 15 1<|M 5 16<|.nil)))<|R (o 4 .mov [ct] []<|.nil)<|.ret,true⟩
def dB:PC:=R (M 6 19<|.nil)<|.reg<|M 7 20<|.nil
def dC:PC:=.block 3 (.seq (R (o 21 .loadS [t 2] []<|m 22 6<|U 23 .callV [21,22]<|O 24 (.un .not) 23<|.nil)<|.condL (t 24) (.ret) (.skip))<|R (a 25 3 1<|L 26 25<|M 27 6<|U 28 (.iad 22) [26,27]<|A 29 15 28<|L 30 29<|M 8 30<|.nil)<|R (m 31 8<|B 32 .neq 31 0<|M 33 32<|x 35 33 true (M 34 7<|.nil) (t 34) [7,33]<|.nil)<|.cond (t 35) (.seq (.regD 4 (O 36 (.loadA 6) 1<|L 37 3<|M 38 8<|U 39 (.callF 25) [36,37,38]<|L 40 2<|o 41 .callV [t 39,t 40] [39,40,41]<|.nil) [0,0,0,7,0,31])<|.ret) (.skip))
def p22:bR:=⟨43,[],R (O 2 (.box 94 1) 0<|.nil)<|R (o 9 (.loadA 6) [t 1] []<|O 10 (.callF 23) 9<|U 3 (.alloc 95 [ZN]) []<|.sto (.store 1) [t 3,t 10] [10]<|.nil)<|R (o 11 .loadS [t 3] []<|o 12 (.len 0) [t 11] []<|o 13 .mov [c 0] []<|.nil)<|.block 0 (.loop [1,2,3,11,12,13] [] (R (b 14 .lss [t 13,t 12] []<|.nil)<|.seq (.cond (t 14) (.skip) (.exit 0))<|.seq (.block 1 (R (o 15 (.iad 4) [t 11,t 13] []<|O 16 (.loadA 4) 15<|U 5 (.alloc 101 z10) []<|.sto (.store 4) [t 5,t 16] [16]<|.nil)<|R (O 17 (.loadA 4) 5<|O 18 (.callF 24) 17<|.nil)<|.block 2 (.rangeF 43 [1,2,3] (t 18) [19,20] dB dC)))<|.reg<|B 42 .add 13 1<|M 13 42<|.nil)),true⟩
def p27:bR:=⟨86,[],R (U 8 .mkmap []<|M 2 8<|.nil)<|.seq (R (m 9 0<|O 10 .nilc 9<|A 11 0 10<|O 12 (.loadA 6) 11<|O 13 (.callF 53) 12<|o 14 (.len 0) [t 13] []<|o 15 .mov [c 0] []<|.nil)<|.block 0 (.loop [0,2,13,14,15] [0] (R (b 16 .lss [t 15,t 14] []<|.nil)<|.seq (.cond (t 16) (.skip) (.exit 0))<|.seq (.block 1 (R (o 17 (.iad 2) [t 13,t 15] []<|O 18 (.loadA 2) 17<|U 4 (.alloc 43 z3) []<|.sto (.store 2) [t 4,t 18] [18]<|.nil)<|.seq (.regD 3 (m 19 0<|o 20 (.loadA 2) [t 4] []<|O 21 (.callF 54) 20<|O 22 (.un .not) 21<|M 23 22<|x 27 23 false (m 24 2<|o 25 (.loadA 2) [t 4] []<|U 26 (.lookup true [.i,.i] (.v (.bool false)) false) [24,25]<|.nil) (t 26) [23]<|M 28 27<|x 39 28 false (a 29 1 4<|L 30 29<|m 31 0<|O 32 .nilc 31<|A 33 0 32<|O 34 (.loadA 6) 33<|a 35 0 4<|L 36 35<|U 37 (.callF 55) [34,36]<|C 38 .gtr 30 37<|.nil) (t 38) [28]<|o 40 (.loadA 2) [t 4] []<|f 41 49 [t 19,t 39,t 40] [19,39,40,41]<|.nil) [0,0,2,6,14,30,30,126,254,510,1022,2046,1022,5118,13310,29694,1022,66558,259070,524286,1048574,0,4194303])<|.reg<|o 42 .mov [t 2] [41]<|O 43 (.loadA 2) 4<|.sto (.mapup true [.i,.i]) [t 42,t 43,ct] [42,43]<|.nil))<|.reg<|B 44 .add 15 1<|M 15 44<|.nil)))<|R (o 5 .mov [cf] []<|.nil)<|.seq (R (m 45 0<|O 46 .nilc 45<|A 47 0 46<|A 48 5 47<|L 49 48<|o 50 (.len 0) [t 49] []<|o 51 .mov [c 0] []<|.nil)<|.block 2 (.loop [0,5,49,50,51] [0,5] (R (b 52 .lss [t 51,t 50] []<|.nil)<|.seq (.cond (t 52) (.skip) (.exit 2))<|.seq (.block 3 (R (m 53 51<|o 54 (.iad 2) [t 49,t 51] []<|O 55 (.loadA 2) 54<|U 7 (.alloc 43 z3) []<|M 6 53<|.sto (.store 2) [t 7,t 55] [55]<|.nil)<|.regD 3 (M 56 5<|M 57 56<|x 61 57 false (o 58 (.loadA 2) [t 7] []<|O 59 (.callF 54) 58<|O 60 (.un .not) 59<|.nil) (t 60) [57]<|M 62 61<|x 80 62 false (m 63 6<|B 64 .gtr 63 0<|M 65 64<|x 79 65 true (A 66 0 7<|L 67 66<|m 68 0<|O 69 .nilc 68<|A 70 0 69<|A 71 5 70<|L 72 71<|M 73 6<|B 74 .sub 73 1<|U 75 (.iad 2) [72,74]<|A 76 0 75<|L 77 76<|C 78 .leq 67 77<|.nil) (t 78) [6,7,65]<|.nil) (t 79) [6,7,62]<|M 5 80<|.nil) [0,1,3,7,15,31,63,127,255,511,1023,2047,1023,5119,13311,29695,62463,1023,132095,521215,1045503,2094079,4194303,8388607,16777215,33554431]))<|.reg<|B 81 .add 51 1<|M 51 81<|.nil)))<|.reg<|M 82 0<|M 83 5<|U 84 (.build z3 []) []<|f 85 49 [t 82,t 83,t 84] [82,83,84,85]<|.nil,true⟩
def dI:PC:=.reg<|M 5 8<|.nil
def dJ:PC:=.block 1 (.regD 3 (o 9 .loadS [t 3] []<|M 10 5<|O 11 .nilc 10<|O 12 (.loadA 2) 11<|O 13 (.buildSl 43 2 1 z3 [0]) 12<|U 14 (.append 43 2 16 z3 false) [9,13]<|.sto (.store 1) [t 3,t 14] [3,14]<|.nil) [0,0,2,6,14,31,63])
def p53:bR:=⟨16,[.tmp 2],R (O 1 (.box 27 6) 0<|o 2 .mov [cn] [2]<|.nil)<|R (o 3 (.alloc 25 [ZN]) [] [2]<|.ownc 3 0 43 2 false<|.nil)<|.seq (R (O 6 (.callF 102) 1<|.nil)<|.block 0 (.rangeF 16 [3] (t 6) [7,8] dI dJ))<|R (L 15 3<|M 2 15<|.nil)<|.ret,true⟩
def p62:bR:=⟨55,[.tmp 5],R (O 4 (.box 55 22) 1<|o 5 .mov [cf] [5]<|.nil)<|R (o 12 (.loadA 22) [t 4] [5]<|O 13 (.callF 61) 12<|M 11 13<|e 14 0 11 []<|O 15 (.ext 1) 11<|o 6 .mov [t 14] [6,14]<|o 7 .mov [t 15] [6,15]<|.nil)<|R (M 16 7<|B 17 .neq 16 0<|M 18 17<|x 23 18 false (a 19 11 4<|L 20 19<|f 21 51 [t 20,c (-7),c 7] [20]<|O 22 (.un .not) 21<|.nil) (t 22) [18]<|M 8 23<|.nil)<|.seq (R (o 24 .loadS [t 2] []<|O 25 .nilc 24<|A 26 0 25<|A 27 2 26<|L 28 27<|o 29 (.len 0) [t 28] []<|o 30 .mov [c 0] []<|.nil)<|.block 0 (.loop [2,4,8,28,29,30] [8] (R (b 31 .lss [t 30,t 29] []<|.nil)<|.seq (.cond (t 31) (.skip) (.exit 0))<|.seq (.block 1 (R (o 32 (.iad 6) [t 28,t 30] []<|O 33 (.loadA 6) 32<|U 10 (.alloc 48 z7) []<|.sto (.store 6) [t 10,t 33] [33]<|.nil)<|R (o 34 .loadS [t 2] []<|O 35 .nilc 34<|A 36 0 35<|A 37 1 36<|L 38 37<|M 39 38<|x 42 39 true (m 40 8<|O 41 (.un .not) 40<|.nil) (t 41) [39]<|.nil)<|.condJ [2,4,8,28,29,30] (t 42) (R (a 44 11 4<|L 45 44<|A 46 3 10<|O 47 (.loadA 2) 46<|U 48 (.callF 63) [45,47]<|M 43 48<|e 49 0 43 [49]<|e 50 1 43 [43,49]<|M 7 50<|.nil)<|.reg<|M 51 7<|B 52 .neq 51 0<|M 8 52<|.nil) (.skip)))<|.reg<|B 53 .add 30 1<|M 30 53<|.nil)))<|R (M 54 8<|M 5 54<|.nil)<|.ret,true⟩
def p83:bR:=⟨108,[],R (U 10 (.alloc 91 [ZS,(J 0)]) []<|.nil)<|R (U 11 (.alloc 147 Yu) []<|.nil)<|.seq (R (M 18 0<|O 19 .nilc 18<|A 20 0 19<|A 21 3 20<|L 22 21<|o 23 (.len 0) [t 22] []<|o 24 .mov [c 0] []<|.nil)<|.block 0 (.loop [1,2,3,4,10,11,22,23,24] [4,10,11] (R (b 25 .lss [t 24,t 23] []<|.nil)<|.seq (.cond (t 25) (.skip) (.exit 0))<|.seq (.block 1 (R (m 26 24<|o 27 (.iad 22) [t 22,t 24] []<|O 28 (.loadA 22) 27<|U 13 (.alloc 55 z1) []<|M 12 26<|.sto (.store 22) [t 13,t 28] [28]<|.nil)<|.seq (R (m 29 1<|a 30 21 13<|L 31 30<|O 32 (.len 0) 31<|C 33 .geq 29 32<|M 34 33<|x 44 34 false (m 35 2<|a 36 21 13<|L 37 36<|m 38 1<|U 39 (.iad 2) [37,38]<|A 40 1 39<|L 41 40<|O 42 (.len 0) 41<|C 43 .geq 35 42<|.nil) (t 43) [34]<|.nil)<|.cond (t 44) (.exit 1) (.skip))<|R (A 45 21 13<|L 46 45<|m 47 1<|U 48 (.iad 2) [46,47]<|A 49 1 48<|L 50 49<|m 51 2<|U 52 (.iad 2) [50,51]<|A 53 0 52<|L 54 53<|o 55 (.len 0) [t 54] []<|o 56 .mov [c 0] []<|.nil)<|.block 2 (.loop [1,2,3,4,10,11,12,22,23,24,54,55,56] [1,2,3,4,10,11,22,23,24] (R (b 57 .lss [t 56,t 55] []<|.nil)<|.seq (.cond (t 57) (.skip) (.exit 2))<|.seq (.block 3 (R (m 58 56<|o 59 (.iad 13) [t 54,t 56] []<|O 60 (.loadA 13) 59<|U 15 (.alloc 87 z4) []<|M 14 58<|.sto (.store 13) [t 15,t 60] [60]<|.nil)<|.seq (R (o 61 (.loadA 13) [t 15] []<|m 62 3<|U 63 (.callF 133) [61,62]<|.nil)<|.cond (t 63) (.exit 3) (.skip))<|.seq (.regX 3 (m 64 1<|m 65 12<|m 66 2<|M 67 14<|o 68 (.build Yu [(0,1),(2,1),(3,1),(4,1),(5,1)]) [c 4,t 64,t 65,t 66,t 67] [64,65,66,67]<|A 69 10 15<|o 70 .loadS [t 69] []<|m 71 3<|U 72 (.iad 2) [70,71]<|o 73 (.loadA 2) [t 72] []<|U 16 (.alloc 147 Yu) []<|U 17 (.alloc 91 [ZS,(J 0)]) []<|.sto (.store 7) [t 16,t 68] [68]<|.sto (.store 2) [t 17,t 73] [73]<|.nil) [0,0,0,0,15,0,32,0,224,480,0,0,3103,8191] [(6,12,69,16),(9,12,72,16)])<|.seq (R (a 74 1 10<|L 75 74<|B 76 .eql 75 1<|M 77 76<|x 81 77 true (a 78 0 17<|L 79 78<|b 80 .eql [t 79,.c (.v (.string ⟨#[]⟩))] [79]<|.nil) (t 80) [77]<|.nil)<|.condJ [1,2,3,4,10,11,12,16,17,22,23,24,54,55,56] (t 81) (.reg<|m 82 4<|o 83 (.loadA 7) [t 11] []<|.sto (.mapup true [.i,.i,.i,.i,.i,.i,.i]) [t 82,t 83,ct] [82,83]<|.nil) (.skip))<|.seq (R (a 84 0 17<|L 85 84<|b 86 .eql [t 85,.c (.v (.string ⟨#[]⟩))] [85]<|M 87 86<|x 91 87 true (a 88 1 17<|L 89 88<|B 90 .eql 89 2<|.nil) (t 90) [87]<|M 92 91<|x 96 92 true (a 93 1 10<|L 94 93<|B 95 .neq 94 2<|.nil) (t 95) [92]<|.nil)<|.condJ [1,2,3,4,10,11,12,16,17,22,23,24,54,55,56] (t 96) (.reg<|m 97 4<|o 98 (.loadA 7) [t 16] []<|.sto (.mapup true [.i,.i,.i,.i,.i,.i,.i]) [t 97,t 98,ct] [97,98]<|.nil) (.skip))<|.regX 3 (O 99 (.loadA 2) 17<|o 100 (.loadA 7) [t 16] []<|.sto (.store 2) [t 10,t 99] [99]<|.sto (.store 7) [t 11,t 100] [100]<|.nil) [0,0,1,7] [(1,2,16,10)]))<|.reg<|B 101 .add 56 1<|M 56 101<|.nil))))<|.reg<|B 102 .add 24 1<|M 24 102<|.nil)))<|R (A 103 1 10<|L 104 103<|B 105 .eql 104 1<|.nil)<|.condJ [] (t 105) (.reg<|M 106 4<|O 107 (.loadA 7) 11<|.sto (.mapup true [.i,.i,.i,.i,.i,.i,.i]) [t 106,t 107,ct] [106,107]<|.nil) (.skip),true⟩
def p84:bR:=⟨9,[.tmp 5],R (O 3 (.box 147 7) 0<|o 4 (.box 87 13) [t 1] [1,4]<|o 5 .mov [cf] [4,5]<|.nil)<|R (o 6 .loadS [t 2] [2,5]<|O 7 (.loadA 7) 3<|U 8 (.lookup true [.i,.i,.i,.i,.i,.i,.i] (.v (.bool false)) false) [6,7]<|M 5 8<|.nil)<|.ret,true⟩
def tH1:bR:=⟨73,[.tmp 4],R (O 2 (.box 87 13) 0<|O 3 (.box 87 13) 1<|o 4 .mov [cf] [4]<|.nil)<|R (o 5 (.fad 2) [t 2] [4]<|L 6 5<|a 7 2 3<|L 8 7<|C 9 .eql 6 8<|M 10 9<|x 16 10 true (a 11 3 2<|O 12 (.loadA 2) 11<|a 13 3 3<|O 14 (.loadA 2) 13<|U 15 (.eqA false [.i,.i]) [12,14]<|.nil) (t 15) [10]<|M 17 16<|x 23 17 true (a 18 7 2<|L 19 18<|a 20 7 3<|L 21 20<|C 22 .eql 19 21<|.nil) (t 22) [17]<|M 24 23<|x 30 24 true (a 25 8 2<|L 26 25<|a 27 8 3<|L 28 27<|C 29 .eql 26 28<|.nil) (t 29) [24]<|M 31 30<|x 37 31 true (a 32 9 2<|L 33 32<|a 34 9 3<|L 35 34<|C 36 .eql 33 35<|.nil) (t 36) [31]<|M 38 37<|x 44 38 true (a 39 11 2<|L 40 39<|a 41 11 3<|L 42 41<|C 43 .eql 40 42<|.nil) (t 43) [38]<|M 45 44<|x 51 45 true (a 46 12 2<|L 47 46<|a 48 12 3<|L 49 48<|C 50 .eql 47 49<|.nil) (t 50) [45]<|M 52 51<|x 58 52 true (a 53 5 2<|L 54 53<|a 55 5 3<|L 56 55<|U 57 (.callF 154) [54,56]<|.nil) (t 57) [52]<|M 59 58<|x 65 59 true (a 60 6 2<|L 61 60<|a 62 6 3<|L 63 62<|U 64 (.callF 155) [61,63]<|.nil) (t 64) [59]<|M 66 65<|x 72 66 true (A 67 10 2<|L 68 67<|A 69 10 3<|L 70 69<|U 71 (.callF 156) [68,70]<|.nil) (t 71) [2,3,66]<|M 4 72<|.nil)<|.ret,true⟩
def tI1:bR:=⟨9,[.tmp 3],R (O 2 (.box 158 5) 0<|o 3 .mov [cf] [3]<|.nil)<|R (o 4 (.fad 0) [t 2] [2,3]<|O 5 (.loadA 3) 4<|A 6 0 1<|O 7 (.loadA 3) 6<|U 8 (.eqA false [.i,.i,.i]) [5,7]<|M 3 8<|.nil)<|.ret,true⟩
def tJ1:bR:=⟨19,[.tmp 4],R (O 2 (.box 87 13) 0<|o 4 .mov [cf] [4]<|.nil)<|R (o 5 .mov [t 1] [4]<|a 6 10 2<|L 7 6<|O 8 (.len 0) 7<|C 9 .geq 5 8<|M 10 9<|x 18 10 false (A 11 10 2<|L 12 11<|M 13 1<|U 14 (.iad 2) [12,13]<|O 15 (.loadA 2) 14<|U 16 (.build [ZS,(J 0)] []) []<|U 17 (.eqA false [.s,.i]) [15,16]<|.nil) (t 17) [1,2,10]<|M 4 18<|.nil)<|.ret,true⟩
def tK1:bR:=⟨26,[.tmp 4],R (o 4 .mov [cf] [4]<|.nil)<|.seq (R (o 6 .mov [t 0] [4]<|O 7 (.len 0) 6<|m 8 1<|O 9 (.len 0) 8<|C 10 .neq 7 9<|.nil)<|.cond (t 10) (R (o 4 .mov [cf] []<|.nil)<|.ret) (.skip))<|.seq (R (m 11 0<|O 12 (.len 0) 11<|o 13 .mov [c 0] []<|.nil)<|.block 0 (.loop [0,1,12,13] [4] (R (b 14 .lss [t 13,t 12] []<|.nil)<|.seq (.cond (t 14) (.skip) (.exit 0))<|.seq (.block 1 (R (m 15 13<|M 5 15<|.nil)<|.seq (.regD 3 (m 16 0<|m 17 5<|U 18 (.iad 5) [16,17]<|O 19 (.loadA 5) 18<|m 20 1<|M 21 5<|U 22 (.iad 5) [20,21]<|O 23 (.loadA 5) 22<|U 24 (.eqA true [.i,.i,.i,.b,.i]) [19,23]<|.nil) [0,0,3,7,0,0,48,112,255])<|.cond (t 24) (R (o 4 .mov [cf] []<|.nil)<|.ret) (.skip)))<|.reg<|B 25 .add 13 1<|M 13 25<|.nil)))<|R (o 4 .mov [ct] []<|.nil)<|.ret,true⟩
def tL1:bR:=⟨26,[.tmp 4],R (o 4 .mov [cf] [4]<|.nil)<|.seq (R (o 6 .mov [t 0] [4]<|O 7 (.len 0) 6<|m 8 1<|O 9 (.len 0) 8<|C 10 .neq 7 9<|.nil)<|.cond (t 10) (R (o 4 .mov [cf] []<|.nil)<|.ret) (.skip))<|.seq (R (m 11 0<|O 12 (.len 0) 11<|o 13 .mov [c 0] []<|.nil)<|.block 0 (.loop [0,1,12,13] [4] (R (b 14 .lss [t 13,t 12] []<|.nil)<|.seq (.cond (t 14) (.skip) (.exit 0))<|.seq (.block 1 (R (m 15 13<|M 5 15<|.nil)<|.seq (.regD 3 (m 16 0<|m 17 5<|U 18 (.iad 5) [16,17]<|O 19 (.loadA 5) 18<|m 20 1<|M 21 5<|U 22 (.iad 5) [20,21]<|O 23 (.loadA 5) 22<|U 24 (.eqA true [.i,.i,.i,.i,.b]) [19,23]<|.nil) [0,0,3,7,0,0,48,112,255])<|.cond (t 24) (R (o 4 .mov [cf] []<|.nil)<|.ret) (.skip)))<|.reg<|B 25 .add 13 1<|M 13 25<|.nil)))<|R (o 4 .mov [ct] []<|.nil)<|.ret,true⟩
def tM1:bR:=⟨26,[.tmp 4],R (o 4 .mov [cf] [4]<|.nil)<|.seq (R (o 6 .mov [t 0] [4]<|O 7 (.len 0) 6<|m 8 1<|O 9 (.len 0) 8<|C 10 .neq 7 9<|.nil)<|.cond (t 10) (R (o 4 .mov [cf] []<|.nil)<|.ret) (.skip))<|.seq (R (m 11 0<|O 12 (.len 0) 11<|o 13 .mov [c 0] []<|.nil)<|.block 0 (.loop [0,1,12,13] [4] (R (b 14 .lss [t 13,t 12] []<|.nil)<|.seq (.cond (t 14) (.skip) (.exit 0))<|.seq (.block 1 (R (m 15 13<|M 5 15<|.nil)<|.seq (.regD 3 (m 16 0<|m 17 5<|U 18 (.iad 2) [16,17]<|O 19 (.loadA 2) 18<|m 20 1<|M 21 5<|U 22 (.iad 2) [20,21]<|O 23 (.loadA 2) 22<|U 24 (.eqA true [.s,.i]) [19,23]<|.nil) [0,0,3,7,0,0,48,112,255])<|.cond (t 24) (R (o 4 .mov [cf] []<|.nil)<|.ret) (.skip)))<|.reg<|B 25 .add 13 1<|M 13 25<|.nil)))<|R (o 4 .mov [ct] []<|.nil)<|.ret,true⟩
def tN1:bR:=⟨6,[.tmp 2],R (O 1 (.box 91 2) 0<|o 2 .mov [cf] [2]<|.nil)<|R (o 3 (.loadA 2) [t 1] [1,2]<|U 4 (.build [ZS,(J 0)] []) []<|U 5 (.eqA false [.s,.i]) [3,4]<|M 2 5<|.nil)<|.ret,true⟩
def bL:PC:=R (U 6 (.alloc 147 Yu) []<|.sto (.store 7) [t 6,t 13] [13]<|.nil)<|.reg<|M 7 14<|.nil
def bM:PC:=.block 1 (.seq (.regD 3 (M 15 7<|O 16 .nilc 15<|O 17 (.loadA 2) 16<|O 18 (.loadA 2) 3<|U 19 (.eqA false [.i,.i]) [17,18]<|.nil) [0,1,3,0,15])<|.cond (t 19) (R (O 20 (.loadA 7) 6<|.sto (.store 7) [t 4,t 20] [4,20]<|.sto (.store 1) [t 5,ct] [5]<|.nil)<|.ret) (.skip))
def tO1:bR:=⟨22,[.cellA 4 7,.cellS 5],R (O 2 (.box 27 6) 0<|O 3 (.box 43 2) 1<|U 4 (.alloc 147 Yu) []<|U 5 (.alloc 4 [ZB]) []<|.nil)<|.seq (R (o 8 (.loadA 2) [t 3] []<|U 9 (.build z3 []) []<|U 10 (.eqA false [.i,.i]) [8,9]<|.nil)<|.cond (t 10) (R (U 11 (.build Yu []) []<|.sto (.store 7) [t 4,t 11] [11]<|.sto (.store 1) [t 5,cf] []<|.nil)<|.ret) (.skip))<|.seq (R (O 12 (.callF 102) 2<|.nil)<|.block 0 (.rangeF 22 [3,4,5] (t 12) [13,14] bL bM))<|R (U 21 (.build Yu []) []<|.sto (.store 7) [t 4,t 21] [21]<|.sto (.store 1) [t 5,cf] []<|.nil)<|.ret,true⟩
def tP1:bR:=⟨50,[.tmp 2],R (O 1 (.box 51 8) 0<|o 2 .mov [cf] [2]<|.nil)<|.seq (R (o 7 (.fad 2) [t 1] [2]<|O 8 (.loadA 6) 7<|U 9 (.build z21 []) []<|U 10 (.eqA false [.i,.i,.i,.i,.i,.i]) [8,9]<|.nil)<|.cond (t 10) (R (o 2 .mov [ct] []<|.nil)<|.ret) (.skip))<|R (o 3 .mov [c 0] []<|o 4 .mov [c 0] []<|.nil)<|.seq (R (a 11 2 1<|O 12 (.loadA 6) 11<|o 13 .mov [c 0] []<|.nil)<|.block 0 (.loop [1,3,4,12,13] [1,2,3,4] (R (b 14 .lss [t 13,c 6] []<|.nil)<|.seq (.cond (t 14) (.skip) (.exit 0))<|.seq (.block 1 (R (m 15 13<|o 16 (.idxA 6 1 false) [t 12,t 13] []<|M 5 15<|M 6 16<|.nil)<|.block 2 (R (m 18 6<|B 19 .lss 18 0<|M 20 19<|x 23 20 false (m 21 6<|B 22 .gtr 21 64<|.nil) (t 22) [20]<|M 24 23<|x 32 24 false (m 25 6<|B 26 .gtr 25 0<|M 27 26<|x 31 27 true (M 28 5<|m 29 4<|C 30 .neq 28 29<|.nil) (t 30) [5,27]<|.nil) (t 31) [5,24]<|M 17 32<|.nil)<|.cond (t 17) (R (o 2 .mov [cf] []<|.nil)<|.ret) (R (m 34 6<|B 35 .gtr 34 0<|M 33 35<|.nil)<|.condJ [1,3,4,12,13] (t 33) (.reg<|M 36 3<|M 37 6<|C 38 .add 36 37<|M 39 4<|B 40 .add 39 1<|M 3 38<|M 4 40<|.nil) (.skip)))))<|.reg<|B 41 .add 13 1<|M 13 41<|.nil)))<|R (M 42 3<|A 43 0 1<|L 44 43<|C 45 .eql 42 44<|M 46 45<|x 49 46 true (M 47 4<|B 48 .geq 47 2<|.nil) (t 48) [4,46]<|M 2 49<|.nil)<|.ret,true⟩
def vO:{l:aA bR//l=[aP 3 0x14d313211114511111005511112f3221113511101101110110100110251112122121 true,aP 4 0x13b4332111115511112c42211135111011000101110110712012022212 true,aP 5 0x12cb122111145111110451111104511111045111101111111110011025110011111101110101111110111010130011110111010011111010018764321719187643170000111111010185111111010011100643215187643160000111104511111045111105e1201101001110021264314001110011111101018511111101001110043214543140002122121 true,aP 8 0x111121222121 true,aP 10 0x11111111111100111111165430510111001100301005430465430500001100314303000218c30512124212 true,aP 11 0x1111110111110133111107e1a2211101111101a51101110111000316c6b6a1831600011001873141115d18731511001873141105a591873161101110187631511000011025111111111010111101291201000311e1d1c31500010013305121242121 true,aP 12 0x1110011111001111117652151011110011100301006521476521500000011110111001951111100301100415213000011000114124121 true,aP 13 0x19912119818f22010111018d18c220112d18a2332c2e18a185214111882320218818521414127e18507e23214111111001111001111001111001111000111010321a574565745557432e12401111001102511100322432040001c88888888ae6f37661040612000 true,aP 14 0x16d122111145111101111110011111010011100321354314000011110451111104511110291201101001110021231202122121 true,aP 15 0x1111111111111101110101011111010043135431400011100314313002122121 true,aP 16 0x7407414f12411114e4d220112d4b2332c2e4b1852141149232024918521414123f18503f2321411011101021a374563745537432d12401111001010221030001c88888888ae6f316611c124011015182311411000 true,aP 17 0x121222121 true,aP 18 0x1111111b85f221b81af2210111111111101851111101f51111102e51111110786e221111011100205f5e5d342a100115b594f4d4b493f3d3b392f2d2b291f1d1b29310101010101010101010101010101010101031df71966114121222121 true,aP 19 0x111111111111111100101111010651110069685f1f1e1d76531a69685f1f1e1d1b1a76531c01106c12010001f1e1d653669685f1f1e1d76531a0001011111110010111001f1e1d765371f1e1d1876531801110111100011001f1e1d341f1e1d6536002a1201000311f1e1d34000110219e305121242121 true,aP 20 0x111110111011101001110041521304124121 true,aP 21 0x11111111011b1a524111000111001a11b1a5240110131a0510411111111100011110100281f1e18752118281f1e1918752119011110100111010281f1e5216281f1e18752118002b12010005213281f1e52160001014124121 true,aP 23 0x111113242ad1851141111113111110011111011132428d18511411110115431411110111101113241ec185114101154314111100351101111011121ca2311411c81bf2201111111111011ad1ac2201101019f19d22101110001110111110101b5111101103191873151918731506d1201111110100011111010751111001875315187531500031f9276613d1240110154314111102d1201101001110043135431400004888888888c1cd305121242121 false,aP 24 0x121222121 true,aP 25 0x1654342612111 true,aP 26 0x2be2bd2bc1df4202ac022111111175111111110751111111110185111111111018511111110011dd69221dd1dc1da1d9421110111111c91a2211114511111045111b9120100018a18918869685f650191ae1ad1ac18a18918869685f6501c0001111111045111110451118d120100069685f650618a18918869685f650190001011111045111106c12010000169685f04000111101592922059584e2d4211111104511111105511110032c12010000129281f0400011110 true,aP 28 0x1a19183211712011110 true,aP 29 0x4a492211113e2b2203e3d3b2f42111110032e12010001c1b1a042b2a291c1b1a07000111f1201000011c1b1a0400011110 true,aP 30 0x43232101 true,aP 31 0x32221 true]}:=by
 apply Subtype.mk
 conv=>rhs;reduce
def p3:bR:=zg vO.1 0
def p4:bR:=zg vO.1 1
def p5:bR:=zg vO.1 2
def p8:bR:=zg vO.1 3
def p10:bR:=zg vO.1 4
def p11:bR:=zg vO.1 5
def p12:bR:=zg vO.1 6
def p13:bR:=zg vO.1 7
def p14:bR:=zg vO.1 8
def p15:bR:=zg vO.1 9
def p16:bR:=zg vO.1 10
def p17:bR:=zg vO.1 11
def p18:bR:=zg vO.1 12
def p19:bR:=zg vO.1 13
def p20:bR:=zg vO.1 14
def p21:bR:=zg vO.1 15
def p23:bR:=zg vO.1 16
def p24:bR:=zg vO.1 17
def p25:bR:=zg vO.1 18
def p26:bR:=zg vO.1 19
def p28:bR:=zg vO.1 20
def p29:bR:=zg vO.1 21
def p30:bR:=zg vO.1 22
def p31:bR:=zg vO.1 23
def vP:{l:aA bR//l=[aP 32 0x32221 true,aP 33 0x32221 true,aP 34 0x43232101 true,aP 35 0x43232101 true,aP 36 0x4a49483211111113c2c223c3b3a39382f62010001000291e1d42062c291e1d5420180010001e1d204291e1d42060010002021e1d20400111111071200 true,aP 37 0x13d292203d3c3a2e42111110032d121010000029281f305000111101a2221922210110 true,aP 38 0x17c2b227c7b7978421110111011111001100195111100301102511111005511002b2a2965320182b2a2976543201a0002f12101000002b2a293206000111101110110 true,aP 39 0x19f19e7f7e4211111111111111010316c32278322111351110185111103511015b3c225b5a583211101114c121011003f12010003023c3b3a3050001111412412001111111e121e1d220111110 true,aP 40 0x43232101 true,aP 41 0x32221 true,aP 42 0x43232101 true,aP 43 0x111111131f9231141111111001111e81df22011010010764341a76435011111001c91c82201111110000103111001111100111001b5111003197643519764350100111004511176434187643500031eb3766178124011011111113352df1851141110011011543311111100111113352ba1851141011543311111003511111005511111002a5111001110111111006511001b511111100651111110065111006543465434010011003154330011104888888888d1ee305121242121 true,aP 44 0x11202211120222212 true,aP 45 0x11111112111110000011004f4e4d1c1b310184f4e4d1c1b19183101a01105a12010001c1b1044f4e4d1c1b310180001111111112d2c2b1c1b43101911110103812010001c1b431062d2c2b1c1b431019000101110100001c1b1040010 true,aP 46 0x11111107532051111102511065111110111102511065111104a1201101021100010001110007532050111106532051100111 true,aP 47 0x11111111110001111010651111002b2a291c1b1a53182b2a291c1b1a1876531b011102f1210100001c1b1a342b2a291c1b1a5318000101f1201000311c1b1a3400011212212 true,aP 48 0x1111422241211 true,aP 49 0x2d2b2211111111111110030111 true,aP 50 0x17303211111551110212212 true,aP 51 0x11a203211135111612612 true,aP 52 0x2812211135111103511110351112122121 true,aP 54 0x16122111351112122121 true,aP 55 0x11111010101d1201000411a191814000142224121 true,aP 56 0x11111111111c1201000311918734000112122121 true]}:=by
 apply Subtype.mk
 conv=>rhs;reduce
def p32:bR:=zg vP.1 0
def p33:bR:=zg vP.1 1
def p34:bR:=zg vP.1 2
def p35:bR:=zg vP.1 3
def p36:bR:=zg vP.1 4
def p37:bR:=zg vP.1 5
def p38:bR:=zg vP.1 6
def p39:bR:=zg vP.1 7
def p40:bR:=zg vP.1 8
def p41:bR:=zg vP.1 9
def p42:bR:=zg vP.1 10
def p43:bR:=zg vP.1 11
def p44:bR:=zg vP.1 12
def p45:bR:=zg vP.1 13
def p46:bR:=zg vP.1 14
def p47:bR:=zg vP.1 15
def p48:bR:=zg vP.1 16
def p49:bR:=zg vP.1 17
def p50:bR:=zg vP.1 18
def p51:bR:=zg vP.1 19
def p52:bR:=zg vP.1 20
def p54:bR:=zg vP.1 21
def p55:bR:=zg vP.1 22
def p56:bR:=zg vP.1 23
def vQ:{l:aA bR//l=[aP 57 0x1381c220382f2d2942111010032812101000001c1b1a10500011110 true,aP 58 0x11111117a1b227f1b22111145111101a5117812010002c2b2a646d6c6b2c2b2a6700011111111110019511111110651111035111112f1201000612c2b2a6400011111115125121 true,aP 59 0x1111010112022212 true,aP 60 0x118a6221125111111015f1b1a326a1b1a3211111110111a51101e51111101065111110451133f1210100002c2b2a76563b3a392c2b2a197651a000102f12010007622c2b2a76560001101110114124121 true,aP 61 0x110001100001110111411111000011101010110111011131232222121 true,aP 63 0x11111010010101110100101011111111010001110351111035111103511101010101151254224121 true,aP 64 0x65432111 true,aP 65 0x15022112511212212 true,aP 66 0x150221113511212212 true,aP 67 0x11111117a5a2207a796f5f421110110000035e1210100004a49483a39382a292864101d5a59584a49483a39382a292818641029000114e1210100003a39382a2928410194a49483a39382a292864101d000113e1210100002a29281053a39382a292841019000112e12101000002a292810500011110 true,aP 68 0x111432241221222022 true,aP 69 0x1111111101101101103110100111110110110301100011110451110000111003001110110100111111011121232121 true,aP 70 0x1691a432111145110105c12015b12106421111114c121111111110642311103818222f1822110011111110300001151251211 true,aP 71 0x11111111011110111002a12101000065431e1d1c140001100001612652254224121 true,aP 72 0x1111154221a5221101132223121 true,aP 73 0x1111010101131232222121 true,aP 74 0x11114022412 true,aP 75 0x111131223121 true,aP 76 0x11114022412 true,aP 77 0x111131223121 true,aP 78 0x14918432111145111972203e19223d1201011111113012c1201011111103001151251211 true,aP 79 0x16122111351112122121 true,aP 80 0x6d12006c1211110110011110101101049121111101010001111010100110301a1200110512512011 true,aP 81 0x3a1211111110101013121a474564745547431c12410010110512512011 true]}:=by
 apply Subtype.mk
 conv=>rhs;reduce
def Yv:bR:=zg vQ.1 0
def p58:bR:=zg vQ.1 1
def p59:bR:=zg vQ.1 2
def p60:bR:=zg vQ.1 3
def p61:bR:=zg vQ.1 4
def p63:bR:=zg vQ.1 5
def p64:bR:=zg vQ.1 6
def p65:bR:=zg vQ.1 7
def p66:bR:=zg vQ.1 8
def p67:bR:=zg vQ.1 9
def p68:bR:=zg vQ.1 10
def p69:bR:=zg vQ.1 11
def p70:bR:=zg vQ.1 12
def p71:bR:=zg vQ.1 13
def p72:bR:=zg vQ.1 14
def p73:bR:=zg vQ.1 15
def p74:bR:=zg vQ.1 16
def p75:bR:=zg vQ.1 17
def p76:bR:=zg vQ.1 18
def p77:bR:=zg vQ.1 19
def p78:bR:=zg vQ.1 20
def p79:bR:=zg vQ.1 21
def p80:bR:=zg vQ.1 22
def p81:bR:=zg vQ.1 23
def vR:{l:aA bR//l=[aP 82 0x11002b62212f62211104511101a5110281201000411d1c1b3400011001141241211 true,aP 85 0x11111111116d1c22111351691b22112511111101591201111114b120101110013c12010111002e12010005422b2a295406000111100145051040192ee405131243222212 true,aP 86 0x11111111032a1201110000000011041241211 true,aP 87 0x11e322111145111110451114124121 true,aP 88 0x4c1214b12042211113f3e2201103b12003a1210100102d12002c1210110011011c1210111011512512011 true,aP 89 0x1612211111107511121232121 true,aP 90 0x15f420421111116511110111101000111110351110185111103511102a51111104511115125121 true,aP 91 0x11c21321111116511110351113123121 true,aP 92 0x11114022412 true,aP 93 0x13b322111105511130112e73311011101029287341101001110351101652261211 true,aP 94 0x1111016d1918327819183211111110111a51101e51111104511111010651134d1210100007149483f75360001011111045111110451116121e622110114124121 true,aP 95 0x119c1922111145111025118918221101155111110451111035111018692c29185f2c1f185d2c1d1822c19286a125912000101011101111111103001110105512d42211135111012912010110111512351211 true,aP 97 0x11111111011110111101111101111110111111212212 true,aP 98 0x11110111000100041187104001412412 true,aP 99 0x1111132223121 true,aP 100 0x15022112511212212 true,aP 101 0x11114022412 true,aP 102 0x121222121 true,aP 103 0x1e12111001a120011025113123120 true,aP 104 0x1111010101131232222121 true,aP 105 0x5022112511212212 true,aP 106 0x111862321100001111c12010115125121 true,aP 107 0x11121222121 true,aP 108 0x11114022412 true]}:=by
 apply Subtype.mk
 conv=>rhs;reduce
def p82:bR:=zg vR.1 0
def p85:bR:=zg vR.1 1
def p86:bR:=zg vR.1 2
def p87:bR:=zg vR.1 3
def p88:bR:=zg vR.1 4
def p89:bR:=zg vR.1 5
def p90:bR:=zg vR.1 6
def p91:bR:=zg vR.1 7
def p92:bR:=zg vR.1 8
def p93:bR:=zg vR.1 9
def p94:bR:=zg vR.1 10
def p95:bR:=zg vR.1 11
def p97:bR:=zg vR.1 12
def p98:bR:=zg vR.1 13
def p99:bR:=zg vR.1 14
def tV1:bR:=zg vR.1 15
def tW1:bR:=zg vR.1 16
def gQ1:bR:=zg vR.1 17
def tX1:bR:=zg vR.1 18
def tY1:bR:=zg vR.1 19
def tZ1:bR:=zg vR.1 20
def uA1:bR:=zg vR.1 21
def uB1:bR:=zg vR.1 22
def uC1:bR:=zg vR.1 23
def vS:{l:aA bR//l=[aP 109 0x111154225121 true,aP 110 0x11114022412 true,aP 111 0x11b4324211111551111151235121 true,aP 112 0x11114022412 true,aP 113 0x111c5221b5221011142224121 true,aP 114 0x1111010110002176530002022212 true,aP 115 0x710321113511412412 true,aP 116 0x15022112511212212 true,aP 118 0x21a274562745527434a1241494822011132211103a3922010321311102c12011010101d12101111045111001 true,aP 119 0x2812211135111103511110351112122121 true,aP 120 0x1111001118124918221101111110101102e1201000212b2a29340001000111000111212212 true,aP 121 0x11003c422111351110110102d5222c5221011101f1201000211c1b1a300010011212212 true,aP 122 0x3a60321111116511011011110101111f12010002021c1b1a0400000011212212 true,aP 123 0x4c32211251101110011103511110351111035111103511110351112122121 true,aP 124 0x11111110011121232121 true,aP 125 0x11110111000100041187104001412412 true,aP 126 0x11110111000100041187104001412412 true,aP 127 0x1121222121 true,aP 128 0x1b32321111110101101c511103001141241211 true,aP 129 0x1111111111111111d18531040111111011101001d51110251111111010019511102511111005511181218121 true,aP 130 0x1d12111110 true,aP 131 0x1f12101e1b2201d182201c5220110110110301 true,aP 134 0x19d1211110111011030189120011011c1207b1c2211011111101111011a182235b1a2211011004e120111011111303d1200111035111012c12010111111512351201 true,aP 135 0x11111100011111101107511101c5111101100011111045111100011110351112122121 true]}:=by
 apply Subtype.mk
 conv=>rhs;reduce
def uD1:bR:=zg vS.1 0
def uE1:bR:=zg vS.1 1
def uF1:bR:=zg vS.1 2
def uG1:bR:=zg vS.1 3
def uH1:bR:=zg vS.1 4
def uI1:bR:=zg vS.1 5
def uJ1:bR:=zg vS.1 6
def uK1:bR:=zg vS.1 7
def uL1:bR:=zg vS.1 8
def uM1:bR:=zg vS.1 9
def uN1:bR:=zg vS.1 10
def uO1:bR:=zg vS.1 11
def uP1:bR:=zg vS.1 12
def uQ1:bR:=zg vS.1 13
def uR1:bR:=zg vS.1 14
def uS1:bR:=zg vS.1 15
def uT1:bR:=zg vS.1 16
def uU1:bR:=zg vS.1 17
def uV1:bR:=zg vS.1 18
def uW1:bR:=zg vS.1 19
def uX1:bR:=zg vS.1 20
def uY1:bR:=zg vS.1 21
def uZ1:bR:=zg vS.1 22
def vA1:bR:=zg vS.1 23
def vT:{l:aA bR//l=[aP 136 0x13b3232483232111111175111101d511111011075111110110751111412341211 true,aP 137 0x1111422241211 true,aP 138 0x11b32321111116511110141241211 true,aP 139 0x1111422241211 true,aP 140 0x11b32321111116511110141241211 true,aP 141 0x11932321111100751110412341211 true,aP 142 0x1fe121101fc1fb2201101f9121001110111075111110105511101a51103011001be12101001bb12100118e6221111110107511101c51111012b5111003018812107c62211251111001110695f1864106a682205e1200011010311111004c12101111010651111035111001101001e121011103511512512011 true,aP 143 0x1111141223412 true,aP 144 0x111111140224121 true,aP 145 0x11110111000100041187104001412412 true,aP 146 0x112111111110100100002cf2ce104001111011111111211111111011101110111010000010001dc1db1bc1bb18c18b76101a2881ff1dc1db1bc1bb18c18b1876101d001111011101110111010001bc1bb18c18b61071dc1db1bc1bb18c18b76101a001111011101110100018c18b1041bc1bb18c18b6107001111011102111101110100100010218c18b10400111101111111211111111011101001000281f3105584f281f4310180011110111021111011101001000102281f310500111100 true,aP 147 0x1a1210000000000 true,aP 148 0x11110011111101075111103511100011110351112122121 true,aP 149 0x1111121232121 true,aP 150 0x11110111000100041187104001412412 true,aP 151 0x11110111000100041187104001412412 true,aP 152 0x11110111000100041187104001412412 true,aP 153 0x11114531041010076212d12211104511110351101110110522254224121 true,aP 157 0x111001212212 true,aP 158 0x11111111a32219322101112122121 true,aP 159 0x1100011025111025111111011312232222121 true,aP 160 0x5812211135111011003d322111105511101010002122d2c130011000111100011110351112122121 true,aP 162 0x11200 true,aP 167 0x1111145310410101110111522254224121 true]}:=by
 apply Subtype.mk
 conv=>rhs;reduce
def vB1:bR:=zg vT.1 0
def vC1:bR:=zg vT.1 1
def vD1:bR:=zg vT.1 2
def vE1:bR:=zg vT.1 3
def vF1:bR:=zg vT.1 4
def vG1:bR:=zg vT.1 5
def vH1:bR:=zg vT.1 6
def vI1:bR:=zg vT.1 7
def vJ1:bR:=zg vT.1 8
def vK1:bR:=zg vT.1 9
def gR1:bR:=zg vT.1 10
def vL1:bR:=zg vT.1 11
def vM1:bR:=zg vT.1 12
def vN1:bR:=zg vT.1 13
def vO1:bR:=zg vT.1 14
def vP1:bR:=zg vT.1 15
def vQ1:bR:=zg vT.1 16
def vR1:bR:=zg vT.1 17
def vS1:bR:=zg vT.1 18
def vT1:bR:=zg vT.1 19
def vU1:bR:=zg vT.1 20
def vV1:bR:=zg vT.1 21
def vW1:bR:=zg vT.1 22
def vX1:bR:=zg vT.1 23
def vU:{l:aA bR//l=[aP 168 0x12c31321111451111004511110045111002122121 true,aP 169 0x15022112511212212 true,aP 170 0x111111111101412341211 true,aP 171 0x11110001102511212212 true,aP 172 0x11b32321111116511110141241211 true,aP 173 0x11202211120222212 true,aP 174 0x1111132223121 true,aP 176 0x11121222121 true,aP 177 0x1110110111014531040111111453104101011111001111045110014531040111100145310401110251151254224121 true,aP 178 0x1111111111000311876340001212212 true,aP 179 0x1111103b3a22111110011100003011003143030016121212212 true,aP 180 0x1710321113511412412 true,aP 181 0x1111110100110003221876340001212212 true,aP 182 0x1110010000100010111011412412 true,aP 184 0x111111111111120211011111120211001112021100 true,aP 185 0x171221111116511112122121 true,aP 186 0x11012531040117a1a22791a2210111111125310410101110110101110110125310403c422111104511118511111125310410101102b12101000032131f1e1d14000131232222121 true,aP 187 0x111212212 true,aP 188 0x11112f2d222e2a29322e28220111101f121010000311b1a1934000117121212212 true,aP 189 0x11111111111453104101011101111011100007543382f2e7050001111011453104101011105125422412 true,aP 190 0x111111111014531040111110110101000185433a3918105001011101145310410102962228622101105125422412 true,aP 191 0x111011110101110351101131232222121 true,aP 192 0x1100111000018e7221101111018511030011101055111110451111104511111001075111103511101045111039121010000412d2c2b6106000011144ac056610400110001102511412412 true,aP 193 0x1111110001101001110111100011025117127622612 true]}:=by
 apply Subtype.mk
 conv=>rhs;reduce
def vY1:bR:=zg vU.1 0
def vZ1:bR:=zg vU.1 1
def wA1:bR:=zg vU.1 2
def wB1:bR:=zg vU.1 3
def wC1:bR:=zg vU.1 4
def wD1:bR:=zg vU.1 5
def wE1:bR:=zg vU.1 6
def wF1:bR:=zg vU.1 7
def wG1:bR:=zg vU.1 8
def wH1:bR:=zg vU.1 9
def wI1:bR:=zg vU.1 10
def wJ1:bR:=zg vU.1 11
def wK1:bR:=zg vU.1 12
def wL1:bR:=zg vU.1 13
def wM1:bR:=zg vU.1 14
def wN1:bR:=zg vU.1 15
def wO1:bR:=zg vU.1 16
def wP1:bR:=zg vU.1 17
def wQ1:bR:=zg vU.1 18
def wR1:bR:=zg vU.1 19
def wS1:bR:=zg vU.1 20
def wT1:bR:=zg vU.1 21
def wU1:bR:=zg vU.1 22
def wV1:bR:=zg vU.1 23
def Wl:{l:aA bR//l=[aP 194 0x111011001111010030107621d1918300111111100011011101111000110030110019187641a1918210601100291201107127622612 true,aP 195 0x1111010101131232222121 true,aP 196 0x111100003d422484221111110101951101d5110311038121110000111011111001a51110321221203121 true,aP 197 0x111112122121 true,aP 198 0x15022112511212212 true,aP 199 0x11111011010000111110110141241211 true,aP 200 0x111111011111101311000111111110131b1a19541611001e12010005421b1a195416000105125422412 true,aP 201 0x1111110111100411c1b43400111011112122121 true,aP 202 0x119213211111017511104124121 true,aP 203 0x1101111103010011020412 true]}:=by
 apply Subtype.mk
 conv=>rhs;reduce
def wW1:bR:=zg Wl.1 0
def wX1:bR:=zg Wl.1 1
def kQ1:bR:=zg Wl.1 2
def wY1:bR:=zg Wl.1 3
def wZ1:bR:=zg Wl.1 4
def xA1:bR:=zg Wl.1 5
def xB1:bR:=zg Wl.1 6
def xC1:bR:=zg Wl.1 7
def xD1:bR:=zg Wl.1 8
def xE1:bR:=zg Wl.1 9
end
noncomputable section
def pl:aA (aB bR):=[none,none,none,some p3,some p4,some p5,none,some p7,some p8,some p9,some p10,some p11,some p12,some p13,some p14,some p15,some p16,some p17,some p18,some p19,some p20,some p21,some p22,some p23,some p24,some p25,some p26,some p27,some p28,some p29,some p30,some p31,some p32,some p33,some p34,some p35,some p36,some p37,some p38,some p39,some p40,some p41,some p42,some p43,some p44,some p45,some p46,some p47,some p48,some p49,some p50,some p51,some p52,some p53,some p54,some p55,some p56,some Yv,some p58,some p59,some p60,some p61,some p62,some p63,some p64,some p65,some p66,some p67,some p68,some p69,some p70,some p71,some p72,some p73,some p74,some p75,some p76,some p77,some p78,some p79,some p80,some p81,some p82,some p83,some p84,some p85,some p86,some p87,some p88,some p89,some p90,some p91,some p92,some p93,some p94,some p95,none,some p97,some p98,some p99,some tV1,some tW1,some gQ1,some tX1,some tY1,some tZ1,some uA1,some uB1,some uC1,some uD1,some uE1,some uF1,some uG1,some uH1,some uI1,some uJ1,some uK1,some tH1,some uL1,some uM1,some uN1,some uO1,some uP1,some uQ1,some uR1,some uS1,some uT1,some uU1,some uV1,some uW1,some uX1,some uY1,some tI1,some tJ1,some uZ1,some vA1,some vB1,some vC1,some vD1,some vE1,some vF1,some vG1,some vH1,some vI1,some vJ1,some vK1,some gR1,some vL1,some vM1,some vN1,some vO1,some vP1,some vQ1,some vR1,some tK1,some tL1,some tM1,some vS1,some vT1,some vU1,some vV1,some tN1,some vW1,none,none,none,some tO1,some vX1,some vY1,some vZ1,some wA1,some wB1,some wC1,some wD1,some wE1,some tP1,some wF1,some wG1,some wH1,some wI1,some wJ1,some wK1,some wL1,none,some wM1,some wN1,some wO1,some wP1,some wQ1,some wR1,some wS1,some wT1,some wU1,some wV1,some wW1,some wX1,some kQ1,some wY1,some wZ1,some xA1,some xB1,some xC1,some xD1,some xE1]
def Jg:tS:=fun f=>(pl[f]?).join
def jE (f:Nat):Bool:=zB f [17,22,24,26,27,28,29,30,31,32,33,34,35,36,37,38,39,40,41,42,45,46,47,49,57,64,67,83,85,102,146,196]
def NW1 (f:Nat):Bool:=zB f [17,24,47,85,102]
def Cw:NB:=⟨NW1,fun _ _ _ _=>none⟩
def Th (f e:Nat):Bool:=zB f [163,164,165]&&Nat.beq e (match f with|163=>5|164=>5|165=>2|_=>0)
def xF1 (n:Int):YE:=⟨⟨0,n⟩,3,⟨0,0⟩,[],[],0,0,0,[],0,0⟩
def Yw (n:Int) (b:Bool) (r:Int):YM:=⟨⟨0,n⟩,⟨4,4,⟨0,0,0,0,0,0⟩⟩,0,0,b,r,0,0,0,0,0,⟨#[]⟩,[],[⟨[],[⟨[xF1 (n+1)],[]⟩]⟩]⟩
def Ti:Y0:=⟨⟨#[]⟩,false,[⟨⟨0,1⟩,⟨#[]⟩,⟨0,0⟩,[⟨⟨0,2⟩,1⟩]⟩],[Yw 3 true 0,Yw 5 false 0,Yw 7 false 2,Yw 9 false 0],[],[⟨0,10⟩]⟩
def qJ {A:Type} (l:aA A):aB (aA A):=bif Nat.ble l.length 1073741824 then some l else none
def Tj (k:Bool):sP:=fun f xs=>match xs with
 |[.is e rows]=>bif Th f e&&Nat.ble rows.length 1073741824 then some (.is e rows)else none
 |[]=>bif k&&Nat.beq f 6 then some (bv true)else none
 |_=>none
theorem Po {k:Bool} {d N:Nat} {ps:aA Nat} {a b:PC} (h:okL jE N ps a b=true):okG (Xd (Tj k) jE Cw Jg d).is N ps a b=some ():=by
 unfold okG;rw[show(Xd (Tj k) jE Cw Jg d).is=jE from Ls d,iJ2 h]
noncomputable abbrev OD (k:Bool) (d:Nat):sP:=Od (Tj k) jE Cw Jg d
noncomputable abbrev XD (k:Bool) (d:Nat):NX:=Xd (Tj k) jE Cw Jg d
theorem od {k:Bool} {f:Nat} {fn:bR} (a:jE f=false) (h:Jg f=some fn) (b:fn.frz=true) {d:Nat} {xs:aA PV}:OD k (d+1) f xs=pN (OD k d) (XD k d) fn xs some:=kJ1 a h b d xs
theorem oe {k:Bool} {f:Nat} {fn:bR} {d:Nat} {xs:aA PV} {A:Type} {F:aB A} {e:A->PV} (h:(jE f,Jg f,fn.frz)=(false,some fn,true)) (hb:pN (OD k d) (XD k d) fn xs some=F.map e):OD k (d+1) f xs=F.map e:=by
 simp only[iU2]at h;rw[od h.1 h.2.1 h.2.2];exact hb
theorem od2 {k:Bool} {f:Nat} {fn:bR} (a:jE f=false) (h:Jg f=some fn) (b:fn.frz=false) {d:Nat} {xs:aA PV} {A:Type} {F:aB A} {enc:A->PV} (hg:∀y,qA 4 (enc y)=false) (hb:pN (OD k d) (XD k d) fn xs some=F.map enc):OD k (d+1) f xs=F.map enc:=gO1 a h b d xs hg hb
theorem xd {k:Bool} {f:Nat} {fn:bR} (h:Jg f=some fn) {d:Nat} {xs:aA PV} {hs:aT} {m:Nat} {nw:Bool}:eJ (XD k (d+1)) f xs hs m nw=Sw (OD k d) (XD k d) fn xs hs m (Nm hs nw m):=kK1 h d xs hs m _
theorem yd {a:Bool} {k d:Nat} {xs:aA PV} {hs:aT} {m:Nat}:tG (XD a (d+1)) k xs hs m=Yh (OD a d) (XD a d) k xs hs m (Nm hs false m):=rfl
theorem qK {k:Bool} (f d:Nat) {A:Type} (e:Nat) (c:A->aA PV) (l:aA A) (h1:jE f=false) (h2:Jg f=none) (h3:Th f e=true):OD k d f [.is e (l.map c)]=(qJ l).map fun l=>.is e (l.map c):=by
 rw[OD,Lt h1 h2];unfold qJ;simp only[Tj,h3,Bool.true_and,jO2];cases Nat.ble l.length 1073741824<;>rfl
theorem gS1 (d:Nat):OD true d 6 []=(some true).map fun y=>bv y:=by
 rw[OD,Lt rfl rfl];rfl
theorem Tk:okL jE 30 [13] cF cH=true:=by kernel_rfl
theorem Ol:okL jE 43 [19,20] dB dC=true:=by kernel_rfl
theorem oK:okL jE 16 [7,8] dI dJ=true:=by kernel_rfl
theorem kL:okL jE 22 [13,14] bL bM=true:=by kernel_rfl
end
end Go.P
namespace Go.P
open Go.Sim (Ex dV CK)
open K (I Q rq nq xq ck)
def Tl (x1:Int):aB Bool:=
 some ((decide (x1<32))||(x1==127))
theorem kR1 {k} (d) (x1:Int):OD k (d+1) 100 [.v (.int .u8 x1)]=(Tl x1).map bv:=by
 refine oe rfl ?_;refine bz (fR rfl) ?_;rfl
def Yx (x1:aA UInt8):aB Int:=
 (aU (E:=Int⊕Unit) (fun(a:Int)=>if decide (a<(x1.length:Int))then(aW x1 a).bind fun b=>(Tl (b.toNat:Int)).bind fun c=>if c then some (.inr (.inl a))else some (.inl (bE (a+1)))else some (.inr (.inr ()))) bC 0).bind fun d=>(match d with|.inl x7=>some x7|.inr _=>some (-1))
theorem kS1 {k} (d) (x1:aA UInt8):OD k (d+2) 145 [.is 1 (I Sz x1),.fn 100 [] []]=(Yx x1).map i64:=by
 refine oe rfl ?_;refine bz lm ?_;refine bo (aL (S:=Int) (enc:=fun a=>(Q [(0,.is 1 (I Sz x1)),(1,.fn 100 [] []),(7,i64 (x1.length:Int)),(8,i64 a)] [])) (encE:=(fun|.inl b=>(rq [(4,i64 b)] [])|.inr _=>(xq 0 [] []))) (fun a=>?_) bC 0) fun e=>?_;refine io ?_ rfl;refine bo rg fun c=>?_;refine bo (kR1 d (c.toNat:Int)) fun f=>?_;refine io rfl rfl;rcases e with b|_;rfl;rfl
def Om (x1:aA UInt8):aB Bool:=
 (Yx x1).bind fun a=>some (decide (a>=0))
theorem kT1 {k} (d) (x1:aA UInt8):OD k (d+3) 101 [.is 1 (I Sz x1),.fn 100 [] []]=(Om x1).map bv:=by
 refine oe rfl ?_;refine bo (kS1 d x1) fun a=>?_;rfl
def F50 (x1:ByteArray):aB Bool:=
 ((if decide ((x1.size:Int)<=256)then(Om x1.data.toList).bind fun a=>some (!a)else some false:aB (Bool))).bind fun x3=>some x3
theorem gT1 {k} (d) (x1:ByteArray):OD k (d+4) 50 [.v (.string x1)]=(F50 x1).map bv:=by
 refine oe rfl ?_;refine bo (e:=id) ?_ fun x3=>?_;refine io ?_ rfl;refine bo (kT1 d x1.data.toList) fun a=>?_;rfl;rfl
def vV (x1 a x3:Int):aB Bool:=
 some ((decide (x1>=a))&&(decide (x1<=x3)))
theorem oL {k} (d) (x1 a x3:Int):OD k (d+1) 51 [i64 x1,i64 a,i64 x3]=(vV x1 a x3).map bv:=by
 refine oe rfl ?_;refine bz (eZ rfl) ?_;rfl
def F52 (x1:YL):aB Int:=
 if(((decide (x1.Steps<(-77)))||(decide (x1.Steps>77)))||(decide (x1.Semitones<(-140))))||(decide (x1.Semitones>140))then some 2 else some 0
theorem xG1 {k} (d) (x1:YL):OD k (d+1) 52 [.agg (YL.g x1)]=(F52 x1).map i64:=by
 refine oe rfl ?_;refine bz (fR rfl) ?_;refine bz (fR rfl) ?_;refine bz (fR rfl) ?_;refine io rfl rfl
def iL (x1:Bool) (a:YZ) (x3:aA YV) (e:Y0) (b:Int):aB (aA YV):=
 ((if x1 then(fJ false x3 [(YV.mk b a)]).bind fun c=>some c else some x3:aB (aA YV))).bind fun d=>some d
theorem gH {k} (d) (x1:Bool) (b:YZ) (x3:aA YV) (c:Y0) (a:Int):eJ (XD k (d+1)) 49 [.ref 1 0,bv x1,.agg (YZ.g b)] [(2,.lst 111 3 false (I YV.g x3)),(1,.box (ck c a (.own 2)))] 3 false=(iL x1 b x3 c a).map (fun(h:aA YV)=>((.tup [],[(2,.lst 111 3 false (I YV.g h)),(1,.box (ck c a (.own 2)))],0))):=by
 rw[xd (fn:=p49) rfl];refine bo (e:=(fun(f:aA YV)=>(nq [] [(3,.box (YZ.g b)),(2,.lst 111 3 false (I YV.g f)),(1,.box (ck c a (.own 2)))]))) ?_ fun f=>?_;refine io ?_ rfl;refine bo (bH false YV.g x3 [(YV.mk a b)]) fun i=>?_;rfl;rfl
def Jh (x1:aA YV) (a:Y0) (x3:Int):aB (aA YV):=
 (aU (E:=aA YV) (fun(⟨e,i⟩:Int×(aA YV))=>if decide (e<(a.Parts.length:Int))then(aW a.Parts e).bind fun c=>(F50 c.Name).bind fun n=>((if !n then some true else(vV (c.Staves.length:Int) 1 4).bind fun o=>some (!o):aB (Bool))).bind fun p=>((if p then some true else(F52 c.Transpose).bind fun q=>some (q !=0):aB (Bool))).bind fun r=>(iL r c.ID i a x3).bind fun s=>some (.inl ((bE (e+1)),s))else some (.inr i)) bC (0,x1)).bind fun t=>(aU (E:=aA YV) (fun(⟨f,j⟩:Int×(aA YV))=>if decide (f<(a.Measures.length:Int))then(aW a.Measures f).bind fun b=>(F50 b.Rehearsal).bind fun u=>(aU (E:=Bool) (fun(⟨k,g⟩:Bool×Int)=>if decide (g<(b.Cells.length:Int))then(aW b.Cells g).bind fun d=>(aU (E:=Bool) (fun(⟨l,h⟩:Bool×Int)=>if decide (h<(d.Voices.length:Int))then(aW d.Voices h).bind fun m=>some (.inl (((l||(decide ((m.Events.length:Int)>128)))||(decide ((m.Tuplets.length:Int)>16))),(bE (h+1))))else some (.inr l)) bC (((k||(decide ((d.Clefs.length:Int)>64)))||(decide ((d.Voices.length:Int)>2))),0)).bind fun v=>some (.inl (v,(bE (g+1))))else some (.inr k)) bC (((!u)||(decide ((b.Tempi.length:Int)>64))),0)).bind fun w=>(iL w b.ID j a x3).bind fun x=>some (.inl ((bE (f+1)),x))else some (.inr j)) bC (0,t)).bind fun y=>(F50 a.Title).bind fun z=>((if !z then some true else(vV (a.Parts.length:Int) 1 32).bind fun A=>some (!A):aB (Bool))).bind fun B=>((if B then some true else(vV (a.Measures.length:Int) 1 1024).bind fun C=>some (!C):aB (Bool))).bind fun D=>(iL ((D||(decide ((a.Spanners.length:Int)>4096)))||(decide ((a.Last.length:Int)>100))) (YZ.mk 0 0) y a x3).bind fun F=>some F
theorem kU1 {k} (d) (x1:aA YV) (a:Y0) (x3:Int):eJ (XD k (d+5)) 26 [.ref 1 0] [(2,.lst 111 3 false (I YV.g x1)),(1,.box (ck a x3 (.own 2)))] 3 false=(Jh x1 a x3).map (fun(x:aA YV)=>((.tup [],[(2,.lst 111 3 false (I YV.g x)),(1,.box (ck a x3 (.own 2)))],0))):=by
 rw[xd (fn:=p26) rfl];refine bz lm ?_;refine bo (aL (S:=Int×(aA YV)) (enc:=fun⟨q,l⟩=>(Q [(0,.ref 1 0),(15,.is 6 (I YJ.g a.Parts)),(16,i64 (a.Parts.length:Int)),(17,i64 q)] [(2,.lst 111 3 false (I YV.g l)),(1,.box (ck a x3 (.own 2)))])) (encE:=(fun(m:aA YV)=>(xq 0 [(0,.ref 1 0)] [(2,.lst 111 3 false (I YV.g m)),(1,.box (ck a x3 (.own 2)))]))) (fun⟨q,l⟩=>?_) bC (0,x1)) fun m=>?_;refine io ?_ rfl;refine bo rg fun i=>?_;refine bo (gT1 d i.Name) fun y=>?_;refine bo (e:=id) ?_ fun A=>?_;refine io rfl ?_;refine bz lm ?_;refine bo (oL (d+3) (i.Staves.length:Int) 1 4) fun z=>?_;rfl;refine bo (e:=id) ?_ fun u=>?_;refine io rfl ?_;refine bo (xG1 (d+3) i.Transpose) fun B=>?_;rfl;refine bo (gH (d+3) u i.ID l a x3) fun C=>?_;rfl;refine bz lm ?_;refine bo (aL (S:=Int×(aA YV)) (enc:=fun⟨f,c⟩=>(Q [(0,.ref 1 0),(47,.is 22 (I YM.g a.Measures)),(48,i64 (a.Measures.length:Int)),(49,i64 f)] [(2,.lst 111 3 false (I YV.g c)),(1,.box (ck a x3 (.own 2)))])) (encE:=(fun(p:aA YV)=>(xq 2 [(0,.ref 1 0)] [(2,.lst 111 3 false (I YV.g p)),(1,.box (ck a x3 (.own 2)))]))) (fun⟨f,c⟩=>?_) bC (0,m)) fun p=>?_;refine io ?_ rfl;refine bo rg fun b=>?_;refine bo (gT1 d b.Rehearsal) fun v=>?_;refine bz (fR (bz lm rfl)) ?_;refine bz lm ?_;refine bo (aL (S:=Bool×Int) (enc:=fun⟨n,j⟩=>(Q [(0,.ref 1 0),(5,.ref 3 0),(6,bv n),(47,.is 22 (I YM.g a.Measures)),(48,i64 (a.Measures.length:Int)),(49,i64 f),(64,.is 2 (I YW.g b.Cells)),(65,i64 (b.Cells.length:Int)),(66,i64 j)] [(3,.box (YM.g b)),(2,.lst 111 3 false (I YV.g c)),(1,.box (ck a x3 (.own 2)))])) (encE:=(fun(o:Bool)=>(xq 4 [(0,.ref 1 0),(5,.ref 3 0),(6,bv o),(47,.is 22 (I YM.g a.Measures)),(48,i64 (a.Measures.length:Int)),(49,i64 f)] [(3,.box (YM.g b)),(2,.lst 111 3 false (I YV.g c)),(1,.box (ck a x3 (.own 2)))]))) (fun⟨n,j⟩=>?_) bC (((!v)||(decide ((b.Tempi.length:Int)>64))),0)) fun o=>?_;refine io ?_ rfl;refine bo rg fun h=>?_;refine bz (fR (bz lm rfl)) ?_;refine bz (fR (bz lm rfl)) ?_;refine bz lm ?_;refine bo (aL (S:=Bool×Int) (enc:=fun⟨r,s⟩=>(Q [(0,.ref 1 0),(5,.ref 3 0),(6,bv r),(47,.is 22 (I YM.g a.Measures)),(48,i64 (a.Measures.length:Int)),(49,i64 f),(64,.is 2 (I YW.g b.Cells)),(65,i64 (b.Cells.length:Int)),(66,i64 j),(84,.is 2 (I YO.g h.Voices)),(85,i64 (h.Voices.length:Int)),(86,i64 s)] [(4,.box (YW.g h)),(3,.box (YM.g b)),(2,.lst 111 3 false (I YV.g c)),(1,.box (ck a x3 (.own 2)))])) (encE:=(fun(t:Bool)=>(xq 6 [(0,.ref 1 0),(5,.ref 3 0),(6,bv t),(47,.is 22 (I YM.g a.Measures)),(48,i64 (a.Measures.length:Int)),(49,i64 f),(64,.is 2 (I YW.g b.Cells)),(65,i64 (b.Cells.length:Int)),(66,i64 j)] [(4,.box (YW.g h)),(3,.box (YM.g b)),(2,.lst 111 3 false (I YV.g c)),(1,.box (ck a x3 (.own 2)))]))) (fun⟨r,s⟩=>?_) bC (((n||(decide ((h.Clefs.length:Int)>64)))||(decide ((h.Voices.length:Int)>2))),0)) fun t=>?_;refine io ?_ rfl;refine bo rg fun D=>?_;refine bz (fR (bz lm rfl)) ?_;refine bz (fR (bz lm rfl)) ?_;rfl;rfl;refine bo (gH (d+3) o b.ID c a x3) fun E=>?_;rfl;refine bo (gT1 d a.Title) fun F=>?_;refine bo (e:=id) ?_ fun H=>?_;refine io rfl ?_;refine bz lm ?_;refine bo (oL (d+3) (a.Parts.length:Int) 1 32) fun G=>?_;rfl;refine bo (e:=id) ?_ fun w=>?_;refine io rfl ?_;refine bz lm ?_;refine bo (oL (d+3) (a.Measures.length:Int) 1 1024) fun J=>?_;rfl;refine bz (fR (bz lm rfl)) ?_;refine bz (fR (bz lm rfl)) ?_;refine bo (gH (d+3) ((w||(decide ((a.Spanners.length:Int)>4096)))||(decide ((a.Last.length:Int)>100))) (YZ.mk 0 0) p a x3) fun K=>?_;rfl
def Lw (x1:Y0):aB Unit:=
 some ()
theorem gU1 {k} (d) (x1:Y0):eJ (XD k (d+1)) 102 [.ref 0 0] [(0,.box (Y0.g x1))] 3 true=(Lw x1).map (fun(_:Unit)=>((.fn 146 [] [.ref 3 0],[(3,.box [.ref 0 0]),(0,.box (Y0.g x1))],4))):=by
 rw[xd (fn:=gQ1) rfl];rfl
def Cy (x1 d:Int) (x3 e:Int) (f g h:Int) (b:YJ) (c:aA YZ):aB (aA YZ):=
 (fJ false c [b.ID]).bind fun a=>some a
theorem Yy {k} (d) (x1 e:Int) (x3 f:Int) (h i j:Int) (b:YJ) (c:aA YZ):tG (XD k (d+1)) 4 [.agg [i64 x1,i64 e,i64 x3,i64 f,i64 h,i64 i,i64 j],.ip (YJ.g b)] [(4,.loop 16 [(3,.ref 1 0)] [7,8] dI dJ false none),(2,.lst 43 2 false (I YZ.g c)),(1,.box [.own 2])] 5=(Cy x1 e x3 f h i j b c).map (fun(a:aA YZ)=>((bv true,[(4,.loop 16 [(3,.ref 1 0)] [7,8] dI dJ false none),(2,.lst 43 2 false (I YZ.g a)),(1,.box [.own 2])],0))):=by
 rw[yd];refine bz (Po oK) ?_;refine bo (bH false YZ.g c [b.ID]) fun l=>?_;rfl
def sD (x1 d:Int) (x3 e:Int) (f g h:Int) (b:YF) (c:aA YZ):aB (aA YZ):=
 (fJ false c [b.ID]).bind fun a=>some a
theorem On {k} (d) (x1 e:Int) (x3 f:Int) (h i j:Int) (b:YF) (c:aA YZ):tG (XD k (d+1)) 4 [.agg [i64 x1,i64 e,i64 x3,i64 f,i64 h,i64 i,i64 j],.ip (YF.g b)] [(4,.loop 16 [(3,.ref 1 0)] [7,8] dI dJ false none),(2,.lst 43 2 false (I YZ.g c)),(1,.box [.own 2])] 5=(sD x1 e x3 f h i j b c).map (fun(a:aA YZ)=>((bv true,[(4,.loop 16 [(3,.ref 1 0)] [7,8] dI dJ false none),(2,.lst 43 2 false (I YZ.g a)),(1,.box [.own 2])],0))):=by
 rw[yd];refine bz (Po oK) ?_;refine bo (bH false YZ.g c [b.ID]) fun l=>?_;rfl
def sF (x1 d:Int) (x3 e:Int) (f g h:Int) (b:YM) (c:aA YZ):aB (aA YZ):=
 (fJ false c [b.ID]).bind fun a=>some a
theorem Oo {k} (d) (x1 e:Int) (x3 f:Int) (h i j:Int) (b:YM) (c:aA YZ):tG (XD k (d+1)) 4 [.agg [i64 x1,i64 e,i64 x3,i64 f,i64 h,i64 i,i64 j],.ip (YM.g b)] [(4,.loop 16 [(3,.ref 1 0)] [7,8] dI dJ false none),(2,.lst 43 2 false (I YZ.g c)),(1,.box [.own 2])] 5=(sF x1 e x3 f h i j b c).map (fun(a:aA YZ)=>((bv true,[(4,.loop 16 [(3,.ref 1 0)] [7,8] dI dJ false none),(2,.lst 43 2 false (I YZ.g a)),(1,.box [.own 2])],0))):=by
 rw[yd];refine bz (Po oK) ?_;refine bo (bH false YZ.g c [b.ID]) fun l=>?_;rfl
def sG (x1 d:Int) (x3 e:Int) (f g h:Int) (b:YE) (c:aA YZ):aB (aA YZ):=
 (fJ false c [b.ID]).bind fun a=>some a
theorem Oq {k} (d) (x1 e:Int) (x3 f:Int) (h i j:Int) (b:YE) (c:aA YZ):tG (XD k (d+1)) 4 [.agg [i64 x1,i64 e,i64 x3,i64 f,i64 h,i64 i,i64 j],.ip (YE.g b)] [(4,.loop 16 [(3,.ref 1 0)] [7,8] dI dJ false none),(2,.lst 43 2 false (I YZ.g c)),(1,.box [.own 2])] 5=(sG x1 e x3 f h i j b c).map (fun(a:aA YZ)=>((bv true,[(4,.loop 16 [(3,.ref 1 0)] [7,8] dI dJ false none),(2,.lst 43 2 false (I YZ.g a)),(1,.box [.own 2])],0))):=by
 rw[yd];refine bz (Po oK) ?_;refine bo (bH false YZ.g c [b.ID]) fun l=>?_;rfl
def sH (x1 d:Int) (x3 e:Int) (f g h:Int) (b:YN) (c:aA YZ):aB (aA YZ):=
 (fJ false c [b.ID]).bind fun a=>some a
theorem Ot {k} (d) (x1 e:Int) (x3 f:Int) (h i j:Int) (b:YN) (c:aA YZ):tG (XD k (d+1)) 4 [.agg [i64 x1,i64 e,i64 x3,i64 f,i64 h,i64 i,i64 j],.ip (YN.g b)] [(4,.loop 16 [(3,.ref 1 0)] [7,8] dI dJ false none),(2,.lst 43 2 false (I YZ.g c)),(1,.box [.own 2])] 5=(sH x1 e x3 f h i j b c).map (fun(a:aA YZ)=>((bv true,[(4,.loop 16 [(3,.ref 1 0)] [7,8] dI dJ false none),(2,.lst 43 2 false (I YZ.g a)),(1,.box [.own 2])],0))):=by
 rw[yd];refine bz (Po oK) ?_;refine bo (bH false YZ.g c [b.ID]) fun l=>?_;rfl
def Lx (x1:Y0) (W:aA YZ):aB (aA YZ):=
 (aU (E:=aA YZ) (fun(⟨L,f,w⟩:Int×Int×(aA YZ))=>if decide (f<(x1.Parts.length:Int))then(aW x1.Parts f).bind fun M=>(Cy 1 f 0 0 0 0 0 M w).bind fun N=>(aW x1.Parts f).bind fun O=>(aU (E:=Int×(aA YZ)) (fun(⟨l,m,K⟩:Int×Int×(aA YZ))=>if decide (m<(O.Staves.length:Int))then(aW x1.Parts f).bind fun P=>(aW P.Staves m).bind fun R=>(sD 2 0 l 0 0 0 0 R K).bind fun S=>some (.inl ((bE (l+1)),(bE (m+1)),S))else some (.inr (l,K))) bC (L,0,N)).bind fun⟨T,U⟩=>some (.inl (T,(bE (f+1)),U))else some (.inr w)) bC (0,0,W)).bind fun V=>(aU (E:=aA YZ) (fun(⟨a,g⟩:Int×(aA YZ))=>if decide (a<(x1.Measures.length:Int))then(aW x1.Measures a).bind fun n=>(sF 3 0 0 a 0 0 0 n g).bind fun o=>(aW x1.Measures a).bind fun p=>(aU (E:=aA YZ) (fun(⟨b,h⟩:Int×(aA YZ))=>if decide (b<(p.Cells.length:Int))then(aW x1.Measures a).bind fun q=>(aW q.Cells b).bind fun r=>(aU (E:=aA YZ) (fun(⟨c,i⟩:Int×(aA YZ))=>if decide (c<(r.Voices.length:Int))then(aW x1.Measures a).bind fun s=>(aW s.Cells b).bind fun t=>(aW t.Voices c).bind fun u=>(aU (E:=aA YZ) (fun(⟨d,j⟩:Int×(aA YZ))=>if decide (d<(u.Events.length:Int))then(aW x1.Measures a).bind fun v=>(aW v.Cells b).bind fun x=>(aW x.Voices c).bind fun y=>(aW y.Events d).bind fun z=>(sG 4 0 b a c d 0 z j).bind fun A=>some (.inl ((bE (d+1)),A))else some (.inr j)) bC (0,i)).bind fun B=>some (.inl ((bE (c+1)),B))else some (.inr i)) bC (0,h)).bind fun C=>some (.inl ((bE (b+1)),C))else some (.inr h)) bC (0,o)).bind fun D=>some (.inl ((bE (a+1)),D))else some (.inr g)) bC (0,V)).bind fun F=>(aU (E:=aA YZ) (fun(⟨e,k⟩:Int×(aA YZ))=>if decide (e<(x1.Spanners.length:Int))then(aW x1.Spanners e).bind fun G=>(sH 5 0 0 0 0 0 e G k).bind fun H=>some (.inl ((bE (e+1)),H))else some (.inr k)) bC (0,F)).bind fun J=>some J
theorem gV1 {k} (d) (x1:Y0) (K:aA YZ):eJ (XD k (d+2)) 146 [.yld 4,.ref 3 0] [(4,.loop 16 [(3,.ref 1 0)] [7,8] dI dJ false none),(3,.box [.ref 0 0]),(0,.box (Y0.g x1)),(2,.lst 43 2 false (I YZ.g K)),(1,.box [.own 2])] 5 false=(Lx x1 K).map (fun(F:aA YZ)=>((.tup [],[(4,.loop 16 [(3,.ref 1 0)] [7,8] dI dJ false none),(3,.box [.ref 0 0]),(0,.box (Y0.g x1)),(2,.lst 43 2 false (I YZ.g F)),(1,.box [.own 2])],0))):=by
 rw[xd (fn:=gR1) rfl];refine bz lm ?_;refine bo (aL (S:=Int×Int×(aA YZ)) (enc:=fun⟨v,f,w⟩=>(Q [(0,.yld 4),(1,.ref 3 0),(3,i64 v),(15,i64 (x1.Parts.length:Int)),(16,i64 f)] [(4,.loop 16 [(3,.ref 1 0)] [7,8] dI dJ false none),(3,.box [.ref 0 0]),(0,.box (Y0.g x1)),(2,.lst 43 2 false (I YZ.g w)),(1,.box [.own 2])])) (encE:=(fun(z:aA YZ)=>(xq 0 [(0,.yld 4),(1,.ref 3 0)] [(4,.loop 16 [(3,.ref 1 0)] [7,8] dI dJ false none),(3,.box [.ref 0 0]),(0,.box (Y0.g x1)),(2,.lst 43 2 false (I YZ.g z)),(1,.box [.own 2])]))) (fun⟨v,f,w⟩=>?_) bC (0,0,K)) fun z=>?_;refine io ?_ rfl;refine bo rg fun L=>?_;refine bo (Yy d 1 f 0 0 0 0 0 L w) fun M=>?_;refine bo rg fun N=>?_;refine bz lm ?_;refine bo (aL (S:=Int×Int×(aA YZ)) (enc:=fun⟨x,G,y⟩=>(Q [(0,.yld 4),(1,.ref 3 0),(3,i64 x),(4,i64 f),(15,i64 (x1.Parts.length:Int)),(16,i64 f),(39,i64 (N.Staves.length:Int)),(40,i64 G)] [(4,.loop 16 [(3,.ref 1 0)] [7,8] dI dJ false none),(2,.lst 43 2 false (I YZ.g y)),(1,.box [.own 2]),(3,.box [.ref 0 0]),(0,.box (Y0.g x1))])) (encE:=(fun(⟨H,J⟩:Int×(aA YZ))=>(xq 2 [(0,.yld 4),(1,.ref 3 0),(3,i64 H),(15,i64 (x1.Parts.length:Int)),(16,i64 f)] [(4,.loop 16 [(3,.ref 1 0)] [7,8] dI dJ false none),(2,.lst 43 2 false (I YZ.g J)),(1,.box [.own 2]),(3,.box [.ref 0 0]),(0,.box (Y0.g x1))]))) (fun⟨x,G,y⟩=>?_) bC (v,0,M)) fun⟨H,J⟩=>?_;refine io ?_ rfl;refine bo rg fun Z=>?_;refine bo rg fun O=>?_;refine bo (On d 2 0 x 0 0 0 0 O y) fun a0=>?_;rfl;rfl;refine bz lm ?_;refine bo (aL (S:=Int×(aA YZ)) (enc:=fun⟨a,h⟩=>(Q [(0,.yld 4),(1,.ref 3 0),(67,i64 (x1.Measures.length:Int)),(68,i64 a)] [(4,.loop 16 [(3,.ref 1 0)] [7,8] dI dJ false none),(3,.box [.ref 0 0]),(0,.box (Y0.g x1)),(2,.lst 43 2 false (I YZ.g h)),(1,.box [.own 2])])) (encE:=(fun(o:aA YZ)=>(xq 4 [(0,.yld 4),(1,.ref 3 0)] [(4,.loop 16 [(3,.ref 1 0)] [7,8] dI dJ false none),(3,.box [.ref 0 0]),(0,.box (Y0.g x1)),(2,.lst 43 2 false (I YZ.g o)),(1,.box [.own 2])]))) (fun⟨a,h⟩=>?_) bC (0,z)) fun o=>?_;refine io ?_ rfl;refine bo rg fun A=>?_;refine bo (Oo d 3 0 0 a 0 0 0 A h) fun B=>?_;refine bo rg fun e=>?_;refine bz lm ?_;refine bo (aL (S:=Int×(aA YZ)) (enc:=fun⟨b,i⟩=>(Q [(0,.yld 4),(1,.ref 3 0),(6,i64 a),(67,i64 (x1.Measures.length:Int)),(68,i64 a),(91,i64 (e.Cells.length:Int)),(92,i64 b)] [(4,.loop 16 [(3,.ref 1 0)] [7,8] dI dJ false none),(2,.lst 43 2 false (I YZ.g i)),(1,.box [.own 2]),(3,.box [.ref 0 0]),(0,.box (Y0.g x1))])) (encE:=(fun(t:aA YZ)=>(xq 6 [(0,.yld 4),(1,.ref 3 0),(67,i64 (x1.Measures.length:Int)),(68,i64 a)] [(4,.loop 16 [(3,.ref 1 0)] [7,8] dI dJ false none),(2,.lst 43 2 false (I YZ.g t)),(1,.box [.own 2]),(3,.box [.ref 0 0]),(0,.box (Y0.g x1))]))) (fun⟨b,i⟩=>?_) bC (0,B)) fun t=>?_;refine io ?_ rfl;refine bo rg fun P=>?_;refine bo rg fun j=>?_;refine bz lm ?_;refine bo (aL (S:=Int×(aA YZ)) (enc:=fun⟨c,l⟩=>(Q [(0,.yld 4),(1,.ref 3 0),(6,i64 a),(7,i64 b),(67,i64 (x1.Measures.length:Int)),(68,i64 a),(91,i64 (e.Cells.length:Int)),(92,i64 b),(107,i64 (j.Voices.length:Int)),(108,i64 c)] [(4,.loop 16 [(3,.ref 1 0)] [7,8] dI dJ false none),(2,.lst 43 2 false (I YZ.g l)),(1,.box [.own 2]),(3,.box [.ref 0 0]),(0,.box (Y0.g x1))])) (encE:=(fun(s:aA YZ)=>(xq 8 [(0,.yld 4),(1,.ref 3 0),(6,i64 a),(67,i64 (x1.Measures.length:Int)),(68,i64 a),(91,i64 (e.Cells.length:Int)),(92,i64 b)] [(4,.loop 16 [(3,.ref 1 0)] [7,8] dI dJ false none),(2,.lst 43 2 false (I YZ.g s)),(1,.box [.own 2]),(3,.box [.ref 0 0]),(0,.box (Y0.g x1))]))) (fun⟨c,l⟩=>?_) bC (0,i)) fun s=>?_;refine io ?_ rfl;refine bo rg fun R=>?_;refine bo rg fun T=>?_;refine bo rg fun C=>?_;refine bz lm ?_;refine bo (aL (S:=Int×(aA YZ)) (enc:=fun⟨m,n⟩=>(Q [(0,.yld 4),(1,.ref 3 0),(6,i64 a),(7,i64 b),(8,i64 c),(67,i64 (x1.Measures.length:Int)),(68,i64 a),(91,i64 (e.Cells.length:Int)),(92,i64 b),(107,i64 (j.Voices.length:Int)),(108,i64 c),(127,i64 (C.Events.length:Int)),(128,i64 m)] [(4,.loop 16 [(3,.ref 1 0)] [7,8] dI dJ false none),(2,.lst 43 2 false (I YZ.g n)),(1,.box [.own 2]),(3,.box [.ref 0 0]),(0,.box (Y0.g x1))])) (encE:=(fun(r:aA YZ)=>(xq 10 [(0,.yld 4),(1,.ref 3 0),(6,i64 a),(7,i64 b),(67,i64 (x1.Measures.length:Int)),(68,i64 a),(91,i64 (e.Cells.length:Int)),(92,i64 b),(107,i64 (j.Voices.length:Int)),(108,i64 c)] [(4,.loop 16 [(3,.ref 1 0)] [7,8] dI dJ false none),(2,.lst 43 2 false (I YZ.g r)),(1,.box [.own 2]),(3,.box [.ref 0 0]),(0,.box (Y0.g x1))]))) (fun⟨m,n⟩=>?_) bC (0,l)) fun r=>?_;refine io ?_ rfl;refine bo rg fun U=>?_;refine bo rg fun V=>?_;refine bo rg fun W=>?_;refine bo rg fun D=>?_;refine bo (Oq d 4 0 b a c m 0 D n) fun X=>?_;rfl;rfl;rfl;rfl;refine bz lm ?_;refine bo (aL (S:=Int×(aA YZ)) (enc:=fun⟨p,q⟩=>(Q [(0,.yld 4),(1,.ref 3 0),(166,i64 (x1.Spanners.length:Int)),(167,i64 p)] [(4,.loop 16 [(3,.ref 1 0)] [7,8] dI dJ false none),(3,.box [.ref 0 0]),(0,.box (Y0.g x1)),(2,.lst 43 2 false (I YZ.g q)),(1,.box [.own 2])])) (encE:=(fun(u:aA YZ)=>(xq 12 [] [(4,.loop 16 [(3,.ref 1 0)] [7,8] dI dJ false none),(3,.box [.ref 0 0]),(0,.box (Y0.g x1)),(2,.lst 43 2 false (I YZ.g u)),(1,.box [.own 2])]))) (fun⟨p,q⟩=>?_) bC (0,o)) fun u=>?_;refine io ?_ rfl;refine bo rg fun E=>?_;refine bo (Ot d 5 0 0 0 0 0 p E q) fun Y=>?_;rfl;rfl
def F53 (x1:Y0):aB (aA YZ):=
 (Lw x1).bind fun _=>(Lx x1 []).bind fun a=>some a
theorem xH1 {k} (d) (x1:Y0):OD k (d+3) 53 [.agg (Y0.g x1)]=(F53 x1).map (fun a=>.is 2 (I YZ.g a)):=by
 refine oe rfl ?_;refine bo (gU1 (d+1) x1) fun _=>?_;refine bo (gV1 d x1 []) fun b=>?_;rfl
def F54 (x1:YZ):aB Bool:=
 (vV x1.Site 0 99).bind fun a=>((if a then(vV x1.Number 1 1073741824).bind fun x3=>some x3 else some false:aB (Bool))).bind fun b=>some b
theorem kW1 {k} (d) (x1:YZ):OD k (d+2) 54 [.agg (YZ.g x1)]=(F54 x1).map bv:=by
 refine oe rfl ?_;refine bo (oL d x1.Site 0 99) fun a=>?_;refine bo (e:=id) ?_ fun b=>?_;refine io ?_ rfl;refine bo (oL d x1.Number 1 1073741824) fun x3=>?_;rfl;rfl
def F55 (x1:Y0) (c:Int):aB Int:=
 (aU (E:=Int⊕Unit) (fun(a:Int)=>if decide (a<(x1.Last.length:Int))then(aW x1.Last a).bind fun b=>if b.Site==c then some (.inr (.inl b.Number))else some (.inl (bE (a+1)))else some (.inr (.inr ()))) bC 0).bind fun d=>(match d with|.inl x6=>some x6|.inr _=>some 0)
theorem xI1 {k} (d) (x1:Y0) (a:Int):OD k (d+1) 55 [.agg (Y0.g x1),i64 a]=(F55 x1 a).map i64:=by
 refine oe rfl ?_;refine bz lm ?_;refine bo (aL (S:=Int) (enc:=fun b=>(Q [(1,i64 a),(8,.is 2 (I YZ.g x1.Last)),(9,i64 (x1.Last.length:Int)),(10,i64 b)] [(0,.box (Y0.g x1))])) (encE:=(fun|.inl c=>(rq [(4,i64 c)] [(0,.box (Y0.g x1))])|.inr _=>(xq 0 [] [(0,.box (Y0.g x1))]))) (fun b=>?_) bC 0) fun e=>?_;refine io ?_ rfl;refine bo rg fun f=>?_;refine io rfl rfl;rcases e with c|_;rfl;rfl
def Tm (x1:aA YV) (e:Y0) (x3:Int):aB (aA YV):=
 (F53 e).bind fun u=>(aU (E:=(aA (YZ×Bool))×(aA YV)) (fun(⟨c,d,f⟩:Int×(aA (YZ×Bool))×(aA YV))=>if decide (c<(u.length:Int))then(aW u c).bind fun a=>(F54 a).bind fun i=>((if(!i)||(fW d a false)then some true else(F55 e a.Site).bind fun j=>some (decide (a.Number>j)):aB (Bool))).bind fun k=>(iL k a f e x3).bind fun l=>some (.inl ((bE (c+1)),(jC d a true),l))else some (.inr (d,f))) bC (0,[],x1)).bind fun⟨v,m⟩=>(aU (E:=Bool) (fun(⟨g,b⟩:Bool×Int)=>if decide (b<(e.Last.length:Int))then(aW e.Last b).bind fun h=>((if g then some true else(F54 h).bind fun n=>some (!n):aB (Bool))).bind fun o=>((if o then some true else((if decide (b>0)then(aW e.Last (bE (b-1))).bind fun p=>some (decide (h.Site<=p.Site))else some false:aB (Bool))).bind fun q=>some q:aB (Bool))).bind fun r=>some (.inl (r,(bE (b+1))))else some (.inr g)) bC (false,0)).bind fun s=>(iL s (YZ.mk 0 0) m e x3).bind fun t=>some t
theorem kX1 {k} (d) (x1:aA YV) (a:Y0) (x3:Int):eJ (XD k (d+4)) 27 [.ref 1 0] [(2,.lst 111 3 false (I YV.g x1)),(1,.box (ck a x3 (.own 2)))] 3 false=(Tm x1 a x3).map (fun(q:aA YV)=>((.tup [],[(2,.lst 111 3 false (I YV.g q)),(1,.box (ck a x3 (.own 2)))],0))):=by
 rw[xd (fn:=p27) rfl];refine bo (xH1 d a) fun r=>?_;refine bz lm ?_;refine bo (aL (S:=Int×(aA (YZ×Bool))×(aA YV)) (enc:=fun⟨l,f,i⟩=>(Q [(0,.ref 1 0),(2,.map 3),(13,.is 2 (I YZ.g r)),(14,i64 (r.length:Int)),(15,i64 l)] [(3,.mp (I (bV (eA YZ.g) bv) f)),(2,.lst 111 3 false (I YV.g i)),(1,.box (ck a x3 (.own 2)))])) (encE:=(fun(⟨h,c⟩:(aA (YZ×Bool))×(aA YV))=>(xq 0 [(0,.ref 1 0)] [(3,.mp (I (bV (eA YZ.g) bv) h)),(2,.lst 111 3 false (I YV.g c)),(1,.box (ck a x3 (.own 2)))]))) (fun⟨l,f,i⟩=>?_) bC (0,[],x1)) fun⟨h,c⟩=>?_;refine io ?_ rfl;refine bo rg fun b=>?_;refine bo (kW1 (d+1) b) fun s=>?_;refine bz (fR (bz (iR Lv bv f b false) rfl)) ?_;refine bo (e:=id) ?_ fun o=>?_;refine io rfl ?_;refine bo (xI1 (d+2) a b.Site) fun t=>?_;rfl;refine bo (gH (d+2) o b i a x3) fun u=>?_;refine bz (gY Lv bv f b true) ?_;rfl;refine bz lm ?_;refine bo (aL (S:=Bool×Int) (enc:=fun⟨m,n⟩=>(Q [(0,.ref 1 0),(5,bv m),(49,.is 2 (I YZ.g a.Last)),(50,i64 (a.Last.length:Int)),(51,i64 n)] [(3,.mp (I (bV (eA YZ.g) bv) h)),(2,.lst 111 3 false (I YV.g c)),(1,.box (ck a x3 (.own 2)))])) (encE:=(fun(j:Bool)=>(xq 2 [(0,.ref 1 0),(5,bv j)] [(3,.mp (I (bV (eA YZ.g) bv) h)),(2,.lst 111 3 false (I YV.g c)),(1,.box (ck a x3 (.own 2)))]))) (fun⟨m,n⟩=>?_) bC (false,0)) fun j=>?_;refine io ?_ rfl;refine bo rg fun p=>?_;refine bo (e:=id) ?_ fun w=>?_;refine io rfl ?_;refine bo (kW1 (d+1) p) fun v=>?_;rfl;refine bo (e:=id) ?_ fun z=>?_;refine io rfl ?_;refine bo (e:=id) ?_ fun y=>?_;refine io ?_ rfl;refine bo rg fun x=>?_;rfl;rfl;rfl;refine bo (gH (d+2) j (YZ.mk 0 0) c a x3) fun A=>?_;rfl
def F56 (x1:Y0):aB Int:=
 (aU (E:=Int) (fun(⟨x3,a⟩:Int×Int)=>if decide (a<(x1.Parts.length:Int))then(aW x1.Parts a).bind fun b=>some (.inl ((bE (x3+(b.Staves.length:Int))),(bE (a+1))))else some (.inr x3)) bC (0,0)).bind fun c=>some c
theorem kZ1 {k} (d) (x1:Y0):OD k (d+1) 56 [.agg (Y0.g x1)]=(F56 x1).map i64:=by
 refine oe rfl ?_;refine bz lm ?_;refine bo (aL (S:=Int×Int) (enc:=fun⟨x3,a⟩=>(Q [(3,i64 x3),(7,.is 6 (I YJ.g x1.Parts)),(8,i64 (x1.Parts.length:Int)),(9,i64 a)] [(0,.box (Y0.g x1))])) (encE:=(fun(b:Int)=>(xq 0 [(3,i64 b)] [(0,.box (Y0.g x1))]))) (fun⟨x3,a⟩=>?_) bC (0,0)) fun b=>?_;refine io ?_ rfl;refine bo rg fun c=>?_;refine bz lm ?_;rfl;rfl
def F58 (x1:Int) (j:YM) (x3:Int):aB Bool:=
 (aU (E:=Bool) (fun(⟨d,b⟩:Bool×Int)=>if decide (b<(j.Cells.length:Int))then(aW j.Cells b).bind fun a=>((if d||((a.Voices.length:Int)==0)then some true else(aW a.Voices 0).bind fun g=>some ((g.Events.length:Int)==0):aB (Bool))).bind fun h=>((if h then some true else(aW a.Voices (bE ((a.Voices.length:Int)-1))).bind fun i=>some ((i.Events.length:Int)==0):aB (Bool))).bind fun k=>(aU (E:=Bool) (fun(⟨e,c⟩:Bool×Int)=>if decide (c<(a.Voices.length:Int))then(aW a.Voices c).bind fun f=>some (.inl ((e||(((f.Events.length:Int)==0)&&(decide ((f.Tuplets.length:Int)>0)))),(bE (c+1))))else some (.inr e)) bC (k,0)).bind fun l=>some (.inl (l,(bE (b+1))))else some (.inr d)) bC (((j.Cells.length:Int)!=x3),0)).bind fun m=>some m
theorem xJ1 {k} (d) (x1:Int) (a:YM) (x3:Int):OD k (d+1) 58 [i64 x1,.agg (YM.g a),.ip [i64 x3]]=(F58 x1 a x3).map bv:=by
 refine oe rfl ?_;refine bz lm ?_;refine bz lm ?_;refine bo (aL (S:=Bool×Int) (enc:=fun⟨f,b⟩=>(Q [(6,bv f),(18,.is 2 (I YW.g a.Cells)),(19,i64 (a.Cells.length:Int)),(20,i64 b)] [(0,.box (YM.g a))])) (encE:=(fun(l:Bool)=>(xq 0 [(6,bv l)] [(0,.box (YM.g a))]))) (fun⟨f,b⟩=>?_) bC (((a.Cells.length:Int)!=x3),0)) fun l=>?_;refine io ?_ rfl;refine bo rg fun c=>?_;refine bz (fR (bz lm rfl)) ?_;refine bo (e:=id) ?_ fun o=>?_;refine io rfl ?_;refine bo rg fun n=>?_;refine bz lm ?_;rfl;refine bo (e:=id) ?_ fun m=>?_;refine io rfl ?_;refine bz lm ?_;refine bo rg fun p=>?_;refine bz lm ?_;rfl;refine bz lm ?_;refine bo (aL (S:=Bool×Int) (enc:=fun⟨h,i⟩=>(Q [(6,bv h),(18,.is 2 (I YW.g a.Cells)),(19,i64 (a.Cells.length:Int)),(20,i64 b),(51,.is 2 (I YO.g c.Voices)),(52,i64 (c.Voices.length:Int)),(53,i64 i)] [(1,.box (YW.g c)),(0,.box (YM.g a))])) (encE:=(fun(j:Bool)=>(xq 2 [(6,bv j),(18,.is 2 (I YW.g a.Cells)),(19,i64 (a.Cells.length:Int)),(20,i64 b)] [(1,.box (YW.g c)),(0,.box (YM.g a))]))) (fun⟨h,i⟩=>?_) bC (m,0)) fun j=>?_;refine io ?_ rfl;refine bo rg fun q=>?_;refine bz (fR (bz lm (bz (eZ (bz lm rfl)) rfl))) ?_;rfl;rfl;rfl
def Yz (x1:Int) (g:aA YV) (x3:Y0) (h:Int):aB (aA YV):=
 (aU (E:=aA YV) (fun(⟨b,f⟩:Int×(aA YV))=>if decide (b<(x3.Measures.length:Int))then(aW x3.Measures b).bind fun a=>(F58 b a x1).bind fun c=>(iL c a.ID f x3 h).bind fun d=>some (.inl ((bE (b+1)),d))else some (.inr f)) bC (0,g)).bind fun e=>some e
theorem lA1 {k} (d) (x1:Int) (h:aA YV) (x3:Y0) (a:Int):eJ (XD k (d+2)) 57 [.ref 1 0,.fn 58 [] [.ref 3 0]] [(3,.box [i64 x1]),(2,.lst 111 3 false (I YV.g h)),(1,.box (ck x3 a (.own 2)))] 4 false=(Yz x1 h x3 a).map (fun(f:aA YV)=>((.tup [],[(3,.box [i64 x1]),(2,.lst 111 3 false (I YV.g f)),(1,.box (ck x3 a (.own 2)))],0))):=by
 rw[xd (fn:=Yv) rfl];refine bz lm ?_;refine bo (aL (S:=Int×(aA YV)) (enc:=fun⟨i,j⟩=>(Q [(0,.ref 1 0),(1,.fn 58 [] [.ref 3 0]),(10,.is 22 (I YM.g x3.Measures)),(11,i64 (x3.Measures.length:Int)),(12,i64 i)] [(3,.box [i64 x1]),(2,.lst 111 3 false (I YV.g j)),(1,.box (ck x3 a (.own 2)))])) (encE:=(fun(c:aA YV)=>(xq 0 [] [(3,.box [i64 x1]),(2,.lst 111 3 false (I YV.g c)),(1,.box (ck x3 a (.own 2)))]))) (fun⟨i,j⟩=>?_) bC (0,h)) fun c=>?_;refine io ?_ rfl;refine bo rg fun b=>?_;refine bo (xJ1 d i b x1) fun e=>?_;refine bo (gH d e b.ID j x3 a) fun l=>?_;rfl;rfl
def Tn (x1:aA YV) (a:Y0) (x3:Int):aB (aA YV):=
 (F56 a).bind fun b=>(Yz b x1 a x3).bind fun c=>some c
theorem lB1 {k} (d) (x1:aA YV) (a:Y0) (x3:Int):eJ (XD k (d+3)) 28 [.ref 1 0] [(2,.lst 111 3 false (I YV.g x1)),(1,.box (ck a x3 (.own 2)))] 3 false=(Tn x1 a x3).map (fun(c:aA YV)=>((.tup [],[(2,.lst 111 3 false (I YV.g c)),(1,.box (ck a x3 (.own 2)))],0))):=by
 rw[xd (fn:=p28) rfl];refine bo (kZ1 (d+1) a) fun b=>?_;refine bo (lA1 d b x1 a x3) fun e=>?_;rfl
def Za:aB Y9:=
 some (Y9.mk (YI.mk (⟨#[116,114,101,98,108,101]⟩:ByteArray) 71 (-2) 0 34 (-1) (-3)) (YI.mk (⟨#[98,97,115,115]⟩:ByteArray) 70 2 0 22 (-3) (-5)) (YI.mk (⟨#[97,108,116,111]⟩:ByteArray) 67 0 0 28 (-2) (-4)) (YI.mk (⟨#[116,101,110,111,114]⟩:ByteArray) 67 2 0 26 (-2) (-2)) (YI.mk (⟨#[115,111,112,114,97,110,111]⟩:ByteArray) 67 (-4) 0 32 (-2) (-3)) (YI.mk (⟨#[109,101,122,122,111,115,111,112,114,97,110,111]⟩:ByteArray) 67 (-2) 0 30 (-2) (-3)) (YI.mk (⟨#[98,97,114,105,116,111,110,101]⟩:ByteArray) 70 0 0 24 (-2) (-3)) (YI.mk (⟨#[116,114,101,98,108,101,56]⟩:ByteArray) 71 (-2) (-1) 27 (-1) (-3)) (YI.mk (⟨#[98,97,115,115,56]⟩:ByteArray) 70 2 (-1) 15 (-3) (-5)))
theorem lC1 {k} (d):OD k (d+1) 147 []=(Za).map (fun a=>.agg (Y9.g a)):=by
 refine oe rfl ?_;rfl
def Zb (x1:Int):aB (YI×Int):=
 if(decide (x1<1))||(decide (x1>9))then some ((YI.mk (⟨#[]⟩:ByteArray) 0 0 0 0 0 0),11)else(Za).bind fun a=>(aW [a.c0,a.c1,a.c2,a.c3,a.c4,a.c5,a.c6,a.c7,a.c8] (bE (x1-1))).bind fun x3=>some (x3,0)
theorem lD1 {k} (d) (x1:Int):OD k (d+2) 103 [i64 x1]=(Zb x1).map (fun⟨b,c⟩=>.tup [.agg (YI.g b),i64 c]):=by
 refine oe rfl ?_;refine bz (fR rfl) ?_;refine io rfl ?_;refine bo (lC1 d) fun a=>?_;refine bo (Gp (A:=YI) YI.g [a.c0,a.c1,a.c2,a.c3,a.c4,a.c5,a.c6,a.c7,a.c8] (bE (x1-1)) rfl (fun _=>rfl) rfl) fun x3=>?_;rfl
def F59 (x1:Int):aB Int:=
 (Zb x1).bind fun⟨a,x3⟩=>some x3
theorem lF1 {k} (d) (x1:Int):OD k (d+3) 59 [i64 x1]=(F59 x1).map i64:=by
 refine oe rfl ?_;refine bo (lD1 d x1) fun⟨a,x3⟩=>?_;rfl
def Zc (x1:YX):aB Bool:=
 if((x1.Groups.c0==0)&&((x1.Groups.c1==0)&&((x1.Groups.c2==0)&&((x1.Groups.c3==0)&&((x1.Groups.c4==0)&&((x1.Groups.c5==0)&&true))))))!=false then some true else(aU (E:=(Int×Int)⊕(Int×Int)) (fun(⟨c,a,d⟩:Int×Int×Int)=>if decide (d<6)then(aW [x1.Groups.c0,x1.Groups.c1,x1.Groups.c2,x1.Groups.c3,x1.Groups.c4,x1.Groups.c5] d).bind fun b=>if((decide (b<0))||(decide (b>64)))||((decide (b>0))&&(d !=a))then some (.inr (.inl (c,a)))else((if decide (b>0)then some ((bE (c+b)),(bE (a+1)))else some (c,a):aB (Int×Int))).bind fun⟨g,e⟩=>some (.inl (g,e,(bE (d+1))))else some (.inr (.inr (c,a)))) bC (0,0,0)).bind fun f=>(match f with|.inl ⟨x11,x12⟩=>some false|.inr ⟨x13,x14⟩=>some ((x13==x1.Count)&&(decide (x14>=2))))
theorem lG1 {k} (d) (x1:YX):OD k (d+1) 175 [.agg (YX.g x1)]=(Zc x1).map bv:=by
 refine oe rfl ?_;refine io rfl ?_;refine bo (aL (S:=Int×Int×Int) (enc:=fun⟨i,j,f⟩=>(Q [(1,.ref 0 0),(3,i64 i),(4,i64 j),(12,.agg (Y6.g x1.Groups)),(13,i64 f)] [(0,.box (YX.g x1))])) (encE:=(fun|.inl ⟨b,c⟩=>(rq [(1,.ref 0 0),(2,bv false),(3,i64 b),(4,i64 c)] [(0,.box (YX.g x1))])|.inr ⟨x13,x14⟩=>(xq 0 [(1,.ref 0 0),(3,i64 x13),(4,i64 x14)] [(0,.box (YX.g x1))]))) (fun⟨i,j,f⟩=>?_) bC (0,0,0)) fun h=>?_;refine io ?_ rfl;refine bo (qH .i64 [x1.Groups.c0,x1.Groups.c1,x1.Groups.c2,x1.Groups.c3,x1.Groups.c4,x1.Groups.c5] f rfl) fun m=>?_;refine bz (fR rfl) ?_;refine bz (fR (bz (eZ rfl) rfl)) ?_;refine io rfl ?_;refine bo (e:=(fun(⟨l,a⟩:Int×Int)=>(nq [(1,.ref 0 0),(3,i64 l),(4,i64 a),(12,.agg (Y6.g x1.Groups)),(13,i64 f)] [(0,.box (YX.g x1))]))) ?_ fun⟨l,a⟩=>?_;refine io rfl rfl;rfl;rcases h with⟨b,c⟩|⟨x13,x14⟩
 rfl;refine bz (eZ rfl) ?_;rfl
def Zd (x1:YX):aB Int:=
 if(decide (x1.Count<1))||(decide (x1.Count>64))then some 2 else if((decide (x1.Unit<1))||(decide (x1.Unit>64)))||((cU .i64 x1.Unit (bE (x1.Unit-1)))!=0)then some 17 else(Zc x1).bind fun a=>if !a then some 19 else some 0
theorem lH1 {k} (d) (x1:YX):OD k (d+2) 148 [.agg (YX.g x1)]=(Zd x1).map i64:=by
 refine oe rfl ?_;refine bz (fR rfl) ?_;refine io rfl ?_;refine bz (fR rfl) ?_;refine bz (fR rfl) ?_;refine io rfl ?_;refine bo (lG1 d x1) fun a=>?_;refine io rfl rfl
def Ze (x1:YX):aB Int:=
 (sB .i64 1935360 x1.Unit).bind fun a=>some a
theorem lI1 {k} (d) (x1:YX):OD k (d+1) 176 [.agg (YX.g x1)]=(Ze x1).map i64:=by
 refine oe rfl ?_;refine bo oi fun a=>?_;rfl
def Zf (x1:YX):aB Int:=
 (Ze x1).bind fun a=>some (bE (x1.Count*a))
theorem lJ1 {k} (d) (x1:YX):OD k (d+2) 149 [.agg (YX.g x1)]=(Zf x1).map i64:=by
 refine oe rfl ?_;refine bo (lI1 d x1) fun a=>?_;rfl
def Zg (x1:YX):aB (Int×Int):=
 (Zd x1).bind fun a=>if a !=0 then some (0,a)else(Zf x1).bind fun x3=>some (x3,0)
theorem lK1 {k} (d) (x1:YX):OD k (d+3) 104 [.agg (YX.g x1)]=(Zg x1).map (fun⟨a,b⟩=>.tup [i64 a,i64 b]):=by
 refine oe rfl ?_;refine bo (lH1 d x1) fun c=>?_;refine io rfl ?_;refine bo (lJ1 d x1) fun x3=>?_;rfl
def Zh (x1:YM):aB (Int×Int):=
 (Zg x1.Metre).bind fun⟨b,x3⟩=>if x3 !=0 then some (0,x3)else if decide (x1.Length<0)then some (0,2)else((if decide (x1.Length>0)then some x1.Length else some b:aB (Int))).bind fun a=>(qI .i64 a 7560).bind fun c=>if c !=0 then some (0,16)else if decide (a>15482880)then some (0,5)else some (a,0)
theorem Ou {k} (d) (x1:YM):OD k (d+4) 61 [.agg (YM.g x1)]=(Zh x1).map (fun⟨b,c⟩=>.tup [i64 b,i64 c]):=by
 refine oe rfl ?_;refine bo (lK1 d x1.Metre) fun⟨f,x3⟩=>?_;refine io rfl ?_;refine io rfl ?_;refine bo (e:=(fun(a:Int)=>(nq [(4,i64 a)] [(0,.box (YM.g x1))]))) ?_ fun a=>?_;refine io rfl rfl;refine bo oi fun h=>?_;refine io rfl ?_;refine io rfl rfl
def F60 (x1:Int) (g:YM):aB Bool:=
 (Zh g).bind fun⟨x3,q⟩=>(aU (E:=Bool) (fun(⟨e,b⟩:Bool×Int)=>if decide (b<(g.Cells.length:Int))then(aW g.Cells b).bind fun c=>(aU (E:=Bool) (fun(⟨f,a⟩:Bool×Int)=>if decide (a<(c.Clefs.length:Int))then(aW c.Clefs a).bind fun d=>((if f then some true else(F59 d.Clef).bind fun h=>some (h !=0):aB (Bool))).bind fun i=>((if i then some true else(vV d.At 0 (bE (x3-1))).bind fun j=>some (!j):aB (Bool))).bind fun k=>((if k then some true else((if decide (a>0)then(aW c.Clefs (bE (a-1))).bind fun l=>some (decide (d.At<=l.At))else some false:aB (Bool))).bind fun m=>some m:aB (Bool))).bind fun n=>some (.inl (n,(bE (a+1))))else some (.inr f)) bC (e,0)).bind fun o=>some (.inl (o,(bE (b+1))))else some (.inr e)) bC (false,0)).bind fun p=>some (p&&(q==0))
theorem xK1 {k} (d) (x1:Int) (a:YM):OD k (d+5) 60 [i64 x1,.agg (YM.g a)]=(F60 x1 a).map bv:=by
 refine oe rfl ?_;refine bo (Ou d a) fun⟨x3,n⟩=>?_;refine bz lm ?_;refine bo (aL (S:=Bool×Int) (enc:=fun⟨f,b⟩=>(Q [(5,i64 x3),(6,i64 n),(7,bv f),(18,.is 2 (I YW.g a.Cells)),(19,i64 (a.Cells.length:Int)),(20,i64 b)] [(0,.box (YM.g a))])) (encE:=(fun(m:Bool)=>(xq 0 [(6,i64 n),(7,bv m)] [(0,.box (YM.g a))]))) (fun⟨f,b⟩=>?_) bC (false,0)) fun m=>?_;refine io ?_ rfl;refine bo rg fun c=>?_;refine bz lm ?_;refine bo (aL (S:=Bool×Int) (enc:=fun⟨h,i⟩=>(Q [(5,i64 x3),(6,i64 n),(7,bv h),(9,.ref 1 0),(18,.is 2 (I YW.g a.Cells)),(19,i64 (a.Cells.length:Int)),(20,i64 b),(25,.is 2 (I YC.g c.Clefs)),(26,i64 (c.Clefs.length:Int)),(27,i64 i)] [(1,.box (YW.g c)),(0,.box (YM.g a))])) (encE:=(fun(l:Bool)=>(xq 2 [(5,i64 x3),(6,i64 n),(7,bv l),(18,.is 2 (I YW.g a.Cells)),(19,i64 (a.Cells.length:Int)),(20,i64 b)] [(1,.box (YW.g c)),(0,.box (YM.g a))]))) (fun⟨h,i⟩=>?_) bC (f,0)) fun l=>?_;refine io ?_ rfl;refine bo rg fun j=>?_;refine bo (e:=id) ?_ fun p=>?_;refine io rfl ?_;refine bo (lF1 (d+1) j.Clef) fun o=>?_;rfl;refine bo (e:=id) ?_ fun r=>?_;refine io rfl ?_;refine bo (oL (d+3) j.At 0 (bE (x3-1))) fun q=>?_;rfl;refine bo (e:=id) ?_ fun u=>?_;refine io rfl ?_;refine bo (e:=id) ?_ fun t=>?_;refine io ?_ rfl;refine bo rg fun s=>?_;rfl;rfl;rfl;rfl;refine bz (eZ rfl) ?_;rfl
def Cz (x1:aA YV) (e:Y0) (x3:Int):aB (aA YV):=
 (aU (E:=aA YV) (fun(⟨a,f⟩:Int×(aA YV))=>if decide (a<(e.Measures.length:Int))then(aW e.Measures a).bind fun g=>(F60 a g).bind fun b=>(iL b g.ID f e x3).bind fun c=>some (.inl ((bE (a+1)),c))else some (.inr f)) bC (0,x1)).bind fun d=>some d
theorem Zi {k} (d) (x1:aA YV) (a:Y0) (x3:Int):eJ (XD k (d+6)) 57 [.ref 1 0,.fn 60 [] []] [(2,.lst 111 3 false (I YV.g x1)),(1,.box (ck a x3 (.own 2)))] 3 false=(Cz x1 a x3).map (fun(e:aA YV)=>((.tup [],[(2,.lst 111 3 false (I YV.g e)),(1,.box (ck a x3 (.own 2)))],0))):=by
 rw[xd (fn:=Yv) rfl];refine bz lm ?_;refine bo (aL (S:=Int×(aA YV)) (enc:=fun⟨f,h⟩=>(Q [(0,.ref 1 0),(1,.fn 60 [] []),(10,.is 22 (I YM.g a.Measures)),(11,i64 (a.Measures.length:Int)),(12,i64 f)] [(2,.lst 111 3 false (I YV.g h)),(1,.box (ck a x3 (.own 2)))])) (encE:=(fun(b:aA YV)=>(xq 0 [] [(2,.lst 111 3 false (I YV.g b)),(1,.box (ck a x3 (.own 2)))]))) (fun⟨f,h⟩=>?_) bC (0,x1)) fun b=>?_;refine io ?_ rfl;refine bo rg fun i=>?_;refine bo (xK1 d f i) fun c=>?_;refine bo (gH (d+4) c i.ID h a x3) fun j=>?_;rfl;rfl
def Tp (x1:aA YV) (g:Y0) (x3:Int):aB (aA YV):=
 (aU (E:=aA YV) (fun(⟨a,c⟩:Int×(aA YV))=>if decide (a<(g.Parts.length:Int))then(aW g.Parts a).bind fun d=>(aU (E:=aA YV) (fun(⟨b,e⟩:Int×(aA YV))=>if decide (b<(d.Staves.length:Int))then(aW d.Staves b).bind fun f=>(F59 f.Clef).bind fun h=>(iL (h !=0) f.ID e g x3).bind fun i=>some (.inl ((bE (b+1)),i))else some (.inr e)) bC (0,c)).bind fun j=>some (.inl ((bE (a+1)),j))else some (.inr c)) bC (0,x1)).bind fun k=>(Cz k g x3).bind fun l=>some l
theorem lL1 {k} (d) (x1:aA YV) (a:Y0) (x3:Int):eJ (XD k (d+7)) 29 [.ref 1 0] [(2,.lst 111 3 false (I YV.g x1)),(1,.box (ck a x3 (.own 2)))] 3 false=(Tp x1 a x3).map (fun(n:aA YV)=>((.tup [],[(2,.lst 111 3 false (I YV.g n)),(1,.box (ck a x3 (.own 2)))],0))):=by
 rw[xd (fn:=p29) rfl];refine bz lm ?_;refine bo (aL (S:=Int×(aA YV)) (enc:=fun⟨b,e⟩=>(Q [(0,.ref 1 0),(10,.is 6 (I YJ.g a.Parts)),(11,i64 (a.Parts.length:Int)),(12,i64 b)] [(2,.lst 111 3 false (I YV.g e)),(1,.box (ck a x3 (.own 2)))])) (encE:=(fun(h:aA YV)=>(xq 0 [(0,.ref 1 0)] [(2,.lst 111 3 false (I YV.g h)),(1,.box (ck a x3 (.own 2)))]))) (fun⟨b,e⟩=>?_) bC (0,x1)) fun h=>?_;refine io ?_ rfl;refine bo rg fun c=>?_;refine bz lm ?_;refine bo (aL (S:=Int×(aA YV)) (enc:=fun⟨i,f⟩=>(Q [(0,.ref 1 0),(10,.is 6 (I YJ.g a.Parts)),(11,i64 (a.Parts.length:Int)),(12,i64 b),(17,.is 3 (I YF.g c.Staves)),(18,i64 (c.Staves.length:Int)),(19,i64 i)] [(3,.box (YJ.g c)),(2,.lst 111 3 false (I YV.g f)),(1,.box (ck a x3 (.own 2)))])) (encE:=(fun(l:aA YV)=>(xq 2 [(0,.ref 1 0),(10,.is 6 (I YJ.g a.Parts)),(11,i64 (a.Parts.length:Int)),(12,i64 b)] [(3,.box (YJ.g c)),(2,.lst 111 3 false (I YV.g l)),(1,.box (ck a x3 (.own 2)))]))) (fun⟨i,f⟩=>?_) bC (0,e)) fun l=>?_;refine io ?_ rfl;refine bo rg fun j=>?_;refine bo (lF1 (d+3) j.Clef) fun m=>?_;refine bo (gH (d+5) (m !=0) j.ID f a x3) fun o=>?_;rfl;rfl;refine bo (Zi d h a x3) fun p=>?_;rfl
def Zj (x1:Int):aB Int:=
 if(decide (x1<(-7)))||(decide (x1>7))then some 2 else some 0
theorem lM1 {k} (d) (x1:Int):OD k (d+1) 105 [i64 x1]=(Zj x1).map i64:=by
 refine oe rfl ?_;refine bz (fR rfl) ?_;refine io rfl rfl
def F63 (x1:Int) (a:YL):aB (Int×Int):=
 (Zj x1).bind fun x3=>if x3 !=0 then some (0,x3)else if(((decide (a.Steps<(-77)))||(decide (a.Steps>77)))||(decide (a.Semitones<(-140))))||(decide (a.Semitones>140))then some (0,2)else(aU (E:=Int) (fun(b:Int)=>if decide (b>7)then some (.inl (bE (b-12)))else some (.inr b)) bC (bE (x1+(bE ((bE (7*a.Semitones))-(bE (12*a.Steps))))))).bind fun d=>(aU (E:=Int) (fun(c:Int)=>if decide (c<(-7))then some (.inl (bE (c+12)))else some (.inr c)) bC d).bind fun e=>some (e,0)
theorem xL1 {k} (d) (x1:Int) (a:YL):OD k (d+2) 63 [i64 x1,.agg (YL.g a)]=(F63 x1 a).map (fun⟨h,i⟩=>.tup [i64 h,i64 i]):=by
 refine oe rfl ?_;refine bo (lM1 d x1) fun x3=>?_;refine io rfl ?_;refine bz (fR rfl) ?_;refine bz (fR rfl) ?_;refine bz (fR rfl) ?_;refine io rfl ?_;refine bo (aL (S:=Int) (enc:=fun c=>(Q [(0,i64 c)] [(0,.box (YL.g a))])) (encE:=(fun(b:Int)=>(xq 0 [(0,i64 b)] [(0,.box (YL.g a))]))) (fun c=>?_) bC (bE (x1+(bE ((bE (7*a.Semitones))-(bE (12*a.Steps))))))) fun b=>?_;refine io rfl rfl;refine bo (aL (S:=Int) (enc:=fun e=>(Q [(0,i64 e)] [(0,.box (YL.g a))])) (encE:=(fun(f:Int)=>(xq 2 [(0,i64 f)] [(0,.box (YL.g a))]))) (fun e=>?_) bC b) fun f=>?_;refine io rfl rfl;rfl
def F62 (x1:Int) (g:YM) (x3:YK):aB Bool:=
 (Zh g).bind fun⟨l,i⟩=>((if i !=0 then some true else(vV g.Fifths (-7) 7).bind fun j=>some (!j):aB (Bool))).bind fun k=>(aU (E:=Bool) (fun(⟨a,b⟩:Bool×Int)=>if decide (b<(x3.s'.Parts.length:Int))then(aW x3.s'.Parts b).bind fun c=>((if x3.s'.Written&&(!a)then(F63 g.Fifths c.Transpose).bind fun⟨h,d⟩=>some (d !=0)else some a:aB (Bool))).bind fun e=>some (.inl (e,(bE (b+1))))else some (.inr a)) bC (k,0)).bind fun f=>some f
theorem xM1 {k} (d) (x1:Int) (a:YM) (x3:YK):OD k (d+5) 62 [i64 x1,.agg (YM.g a),.ip [.ip (YK.g x3)]]=(F62 x1 a x3).map bv:=by
 refine oe rfl ?_;refine bo (Ou d a) fun⟨n,o⟩=>?_;refine bo (e:=id) ?_ fun m=>?_;refine io rfl ?_;refine bo (oL (d+3) a.Fifths (-7) 7) fun p=>?_;rfl;refine bz lm ?_;refine bo (aL (S:=Bool×Int) (enc:=fun⟨c,b⟩=>(Q [(2,.ip [.ip (YK.g x3)]),(4,.ref 0 0),(8,bv c),(28,.is 6 (I YJ.g x3.s'.Parts)),(29,i64 (x3.s'.Parts.length:Int)),(30,i64 b)] [(0,.box (YM.g a))])) (encE:=(fun(i:Bool)=>(xq 0 [(8,bv i)] [(0,.box (YM.g a))]))) (fun⟨c,b⟩=>?_) bC (m,0)) fun i=>?_;refine io ?_ rfl;refine bo rg fun f=>?_;refine bz (eZ rfl) ?_;refine bo (e:=(fun(h:Bool)=>(nq [(2,.ip [.ip (YK.g x3)]),(4,.ref 0 0),(8,bv h),(28,.is 6 (I YJ.g x3.s'.Parts)),(29,i64 (x3.s'.Parts.length:Int)),(30,i64 b)] [(1,.box (YJ.g f)),(0,.box (YM.g a))]))) ?_ fun h=>?_;refine io ?_ rfl;refine bo (xL1 (d+2) a.Fifths f.Transpose) fun⟨j,l⟩=>?_;rfl;rfl;rfl
def Da (x1:aA YV) (a:Y0) (x3:Int):aB (aA YV):=
 (aU (E:=aA YV) (fun(⟨b,f⟩:Int×(aA YV))=>if decide (b<(a.Measures.length:Int))then(aW a.Measures b).bind fun g=>(F62 b g (YK.mk a x3 f)).bind fun c=>(iL c g.ID f a x3).bind fun d=>some (.inl ((bE (b+1)),d))else some (.inr f)) bC (0,x1)).bind fun e=>some e
theorem Zk {k} (d) (x1:aA YV) (a:Y0) (x3:Int):eJ (XD k (d+6)) 57 [.ref 1 0,.fn 62 [] [.ref 3 0]] [(3,.box [.ref 1 0]),(2,.lst 111 3 false (I YV.g x1)),(1,.box (ck a x3 (.own 2)))] 4 false=(Da x1 a x3).map (fun(f:aA YV)=>((.tup [],[(3,.box [.ref 1 0]),(2,.lst 111 3 false (I YV.g f)),(1,.box (ck a x3 (.own 2)))],0))):=by
 rw[xd (fn:=Yv) rfl];refine bz lm ?_;refine bo (aL (S:=Int×(aA YV)) (enc:=fun⟨h,c⟩=>(Q [(0,.ref 1 0),(1,.fn 62 [] [.ref 3 0]),(10,.is 22 (I YM.g a.Measures)),(11,i64 (a.Measures.length:Int)),(12,i64 h)] [(3,.box [.ref 1 0]),(2,.lst 111 3 false (I YV.g c)),(1,.box (ck a x3 (.own 2)))])) (encE:=(fun(b:aA YV)=>(xq 0 [] [(3,.box [.ref 1 0]),(2,.lst 111 3 false (I YV.g b)),(1,.box (ck a x3 (.own 2)))]))) (fun⟨h,c⟩=>?_) bC (0,x1)) fun b=>?_;refine io ?_ rfl;refine bo rg fun i=>?_;refine bo (xM1 d h i (YK.mk a x3 c)) fun e=>?_;refine bo (gH (d+4) e i.ID c a x3) fun j=>?_;rfl;rfl
def Tq (x1:aA YV) (a:Y0) (x3:Int):aB (aA YV):=
 (Da x1 a x3).bind fun b=>some b
theorem lN1 {k} (d) (x1:aA YV) (a:Y0) (x3:Int):eJ (XD k (d+7)) 30 [.ref 1 0] [(2,.lst 111 3 false (I YV.g x1)),(1,.box (ck a x3 (.own 2)))] 3 false=(Tq x1 a x3).map (fun(b:aA YV)=>((.tup [],[(2,.lst 111 3 false (I YV.g b)),(1,.box (ck a x3 (.own 2)))],0))):=by
 rw[xd (fn:=p30) rfl];refine bo (Zk d x1 a x3) fun c=>?_;rfl
def pF (x1 a:Int):aB Int:=
 if(decide (x1<0))||(decide (x1>a))then some 2 else some 0
theorem lW {k} (d) (x1 a:Int):OD k (d+1) 115 [i64 x1,i64 a]=(pF x1 a).map i64:=by
 refine oe rfl ?_;refine bz (fR rfl) ?_;refine io rfl rfl
def Gs (x1:aA Int):aB Int:=
 (aU (E:=Int⊕Unit) (fun(x3:Int)=>if decide (x3<(x1.length:Int))then(aW x1 x3).bind fun a=>if a !=0 then some (.inr (.inl a))else some (.inl (bE (x3+1)))else some (.inr (.inr ()))) bC 0).bind fun b=>(match b with|.inl x5=>some x5|.inr _=>some 0)
theorem Gt {k} (d) (x1:aA Int):OD k (d+1) 114 [.is 1 (I cI x1)]=(Gs x1).map i64:=by
 refine oe rfl ?_;refine bz lm ?_;refine bo (aL (S:=Int) (enc:=fun x3=>(Q [(5,.is 1 (I cI x1)),(6,i64 (x1.length:Int)),(7,i64 x3)] [])) (encE:=(fun|.inl a=>(rq [(2,i64 a)] [])|.inr _=>(xq 0 [] []))) (fun x3=>?_) bC 0) fun b=>?_;refine io ?_ rfl;refine bo rg fun c=>?_;refine io rfl rfl;rcases b with a|_;rfl;rfl
def Ts (x1:Int):aB Bool:=
 some ((decide (x1>=1))&&(decide (x1<=4)))
theorem eG1 {k} (d) (x1:Int):OD k (d+1) 116 [i64 x1]=(Ts x1).map bv:=by
 refine oe rfl ?_;refine bz (eZ rfl) ?_;rfl
def Zl (x1:Int):aB Int:=
 if decide (x1<0)then some 0 else some (cU .i64 x1 16)
theorem lO1 {k} (d) (x1:Int):OD k (d+1) 157 [i64 x1]=(Zl x1).map i64:=by
 refine oe rfl ?_;refine io rfl rfl
def Zm (x1:YE):aB YE:=
 ((if x1.Kind==1 then some true else(Ts x1.Kind).bind fun a=>some (!a):aB (Bool))).bind fun x3=>if x3 then some x1 else((if x1.Kind !=3 then some x1.Value else some (YA.mk 0 0):aB (YA))).bind fun b=>((if x1.Kind !=4 then(Zl x1.Articulations).bind fun c=>some c else some 0:aB (Int))).bind fun d=>some (YE.mk x1.ID x1.Kind b [] [] d 0 x1.Dynamic [] 0 0)
theorem lP1 {k} (d) (x1:YE):OD k (d+2) 118 [.agg (YE.g x1)]=(Zm x1).map (fun c=>.agg (YE.g c)):=by
 refine oe rfl ?_;refine bo (e:=id) ?_ fun x3=>?_;refine io rfl ?_;refine bo (eG1 d x1.Kind) fun f=>?_;rfl;refine io rfl ?_;refine bo (e:=(fun(a:YA)=>(nq [(1,.ref 0 0),(2,.ref 1 0),(3,.ref 2 0)] [(2,.box [i64 x1.ID.Site,i64 x1.ID.Number,i64 x1.Kind,i64 a.Log,i64 a.Dots,.v (.slice none 0 0),.v (.slice none 0 0),i64 0,i64 0,i64 x1.Dynamic,.v (.slice none 0 0),i64 0,i64 0]),(1,.box [i64 0,i64 0,i64 0,i64 0,i64 0,.v (.slice none 0 0),.v (.slice none 0 0),i64 0,i64 0,i64 0,.v (.slice none 0 0),i64 0,i64 0]),(0,.box (YE.g x1))]))) ?_ fun a=>?_;refine io rfl rfl;refine bo (e:=(fun(b:Int)=>(nq [(2,.ref 1 0),(3,.ref 2 0)] [(2,.box [i64 x1.ID.Site,i64 x1.ID.Number,i64 x1.Kind,i64 a.Log,i64 a.Dots,.v (.slice none 0 0),.v (.slice none 0 0),i64 b,i64 0,i64 x1.Dynamic,.v (.slice none 0 0),i64 0,i64 0]),(1,.box [i64 0,i64 0,i64 0,i64 0,i64 0,.v (.slice none 0 0),.v (.slice none 0 0),i64 0,i64 0,i64 0,.v (.slice none 0 0),i64 0,i64 0]),(0,.box (YE.g x1))]))) ?_ fun b=>?_;refine io ?_ rfl;refine bo (lO1 d x1.Articulations) fun h=>?_;rfl;rfl
def Zn (x1 d:aA YB):aB Bool:=
 if(x1.length:Int)!=(d.length:Int)then some false else(aU (E:=Unit⊕Unit) (fun(c:Int)=>if decide (c<(x1.length:Int))then(aW x1 c).bind fun a=>(aW d c).bind fun b=>if((a.Pitch.Step==b.Pitch.Step)&&((a.Pitch.Alter==b.Pitch.Alter)&&((a.Pitch.Octave==b.Pitch.Octave)&&((a.Tied==b.Tied)&&((a.Show==b.Show)&&true)))))!=true then some (.inr (.inl ()))else some (.inl (bE (c+1)))else some (.inr (.inr ()))) bC 0).bind fun e=>(match e with|.inl _=>some false|.inr _=>some true)
theorem lQ1 {k} (d) (x1 a:aA YB):OD k (d+1) 154 [.is 5 (I YB.g x1),.is 5 (I YB.g a)]=(Zn x1 a).map bv:=by
 refine oe rfl ?_;refine bz lm ?_;refine bz lm ?_;refine io rfl ?_;refine bz lm ?_;refine bo (aL (S:=Int) (enc:=fun b=>(Q [(0,.is 5 (I YB.g x1)),(1,.is 5 (I YB.g a)),(12,i64 (x1.length:Int)),(13,i64 b)] [])) (encE:=(fun|.inl _=>(rq [(4,bv false)] [])|.inr _=>(xq 0 [] []))) (fun b=>?_) bC 0) fun c=>?_;refine io ?_ rfl;refine bo rg fun e=>?_;refine bo rg fun f=>?_;refine io rfl rfl;rcases c with _|_;rfl;rfl
def Zo (x1 d:aA YD):aB Bool:=
 if(x1.length:Int)!=(d.length:Int)then some false else(aU (E:=Unit⊕Unit) (fun(c:Int)=>if decide (c<(x1.length:Int))then(aW x1 c).bind fun a=>(aW d c).bind fun b=>if((a.Pitch.Step==b.Pitch.Step)&&((a.Pitch.Alter==b.Pitch.Alter)&&((a.Pitch.Octave==b.Pitch.Octave)&&((a.Log==b.Log)&&((a.Slash==b.Slash)&&true)))))!=true then some (.inr (.inl ()))else some (.inl (bE (c+1)))else some (.inr (.inr ()))) bC 0).bind fun e=>(match e with|.inl _=>some false|.inr _=>some true)
theorem lR1 {k} (d) (x1 a:aA YD):OD k (d+1) 155 [.is 5 (I YD.g x1),.is 5 (I YD.g a)]=(Zo x1 a).map bv:=by
 refine oe rfl ?_;refine bz lm ?_;refine bz lm ?_;refine io rfl ?_;refine bz lm ?_;refine bo (aL (S:=Int) (enc:=fun b=>(Q [(0,.is 5 (I YD.g x1)),(1,.is 5 (I YD.g a)),(12,i64 (x1.length:Int)),(13,i64 b)] [])) (encE:=(fun|.inl _=>(rq [(4,bv false)] [])|.inr _=>(xq 0 [] []))) (fun b=>?_) bC 0) fun c=>?_;refine io ?_ rfl;refine bo rg fun e=>?_;refine bo rg fun f=>?_;refine io rfl rfl;rcases c with _|_;rfl;rfl
end Go.P
namespace Go.P
open Go.Sim (Ex dV CK)
open K (I Q rq nq xq ck)
def Zp (x1 b:aA YY):aB Bool:=
 if(x1.length:Int)!=(b.length:Int)then some false else(aU (E:=Unit⊕Unit) (fun(a:Int)=>if decide (a<(x1.length:Int))then(aW x1 a).bind fun c=>(aW b a).bind fun d=>if((c.Text==d.Text)&&((c.Link==d.Link)&&true))!=true then some (.inr (.inl ()))else some (.inl (bE (a+1)))else some (.inr (.inr ()))) bC 0).bind fun e=>(match e with|.inl _=>some false|.inr _=>some true)
theorem lS1 {k} (d) (x1 a:aA YY):OD k (d+1) 156 [.is 2 (I YY.g x1),.is 2 (I YY.g a)]=(Zp x1 a).map bv:=by
 refine oe rfl ?_;refine bz lm ?_;refine bz lm ?_;refine io rfl ?_;refine bz lm ?_;refine bo (aL (S:=Int) (enc:=fun b=>(Q [(0,.is 2 (I YY.g x1)),(1,.is 2 (I YY.g a)),(12,i64 (x1.length:Int)),(13,i64 b)] [])) (encE:=(fun|.inl _=>(rq [(4,bv false)] [])|.inr _=>(xq 0 [] []))) (fun b=>?_) bC 0) fun c=>?_;refine io ?_ rfl;refine bo rg fun e=>?_;refine bo rg fun f=>?_;refine io rfl rfl;rcases c with _|_;rfl;rfl
def Zq (x1 a:YE):aB Bool:=
 ((if((((((x1.Kind==a.Kind)&&(((x1.Value.Log==a.Value.Log)&&((x1.Value.Dots==a.Value.Dots)&&true))!=false))&&(x1.Articulations==a.Articulations))&&(x1.Ornament==a.Ornament))&&(x1.Dynamic==a.Dynamic))&&(x1.Stem==a.Stem))&&(x1.Beam==a.Beam)then(Zn x1.Heads a.Heads).bind fun x3=>some x3 else some false:aB (Bool))).bind fun b=>((if b then(Zo x1.Graces a.Graces).bind fun c=>some c else some false:aB (Bool))).bind fun d=>((if d then(Zp x1.Lyrics a.Lyrics).bind fun e=>some e else some false:aB (Bool))).bind fun f=>some f
theorem lT1 {k} (d) (x1 a:YE):OD k (d+2) 117 [.agg (YE.g x1),.agg (YE.g a)]=(Zq x1 a).map bv:=by
 refine oe rfl ?_;refine bz (eZ rfl) ?_;refine bz (eZ rfl) ?_;refine bz (eZ rfl) ?_;refine bz (eZ rfl) ?_;refine bz (eZ rfl) ?_;refine bz (eZ rfl) ?_;refine bo (e:=id) ?_ fun b=>?_;refine io ?_ rfl;refine bo (lQ1 d x1.Heads a.Heads) fun x3=>?_;rfl;refine bo (e:=id) ?_ fun f=>?_;refine io ?_ rfl;refine bo (lR1 d x1.Graces a.Graces) fun c=>?_;rfl;refine bo (e:=id) ?_ fun i=>?_;refine io ?_ rfl;refine bo (lS1 d x1.Lyrics a.Lyrics) fun h=>?_;rfl;rfl
def Tt (x1:YA):aB Int:=
 if(((decide (x1.Log<(-1)))||(decide (x1.Log>8)))||(decide (x1.Dots<0)))||(decide (x1.Dots>3))then some 17 else some 0
theorem eH1 {k} (d) (x1:YA):OD k (d+1) 119 [.agg (YA.g x1)]=(Tt x1).map i64:=by
 refine oe rfl ?_;refine bz (fR rfl) ?_;refine bz (fR rfl) ?_;refine bz (fR rfl) ?_;refine io rfl rfl
def Zr:aB yL:=
 some (yL.mk 0 2 4 5 7 9 11)
theorem lU1 {k} (d):OD k (d+1) 162 []=(Zr).map (fun a=>.agg (yL.g a)):=by
 refine oe rfl ?_;rfl
def Tu (x1:YH):aB Int:=
 (Zr).bind fun a=>(aW [a.c0,a.c1,a.c2,a.c3,a.c4,a.c5,a.c6] x1.Step).bind fun x3=>some (bE ((bE ((bE (12*(bE (x1.Octave+1))))+x3))+x1.Alter))
theorem eI1 {k} (d) (x1:YH):OD k (d+2) 124 [.agg (YH.g x1)]=(Tu x1).map i64:=by
 refine oe rfl ?_;refine bo (lU1 d) fun a=>?_;refine bo (qH .i64 [a.c0,a.c1,a.c2,a.c3,a.c4,a.c5,a.c6] x1.Step rfl) fun x3=>?_;rfl
def Zs (x1:YH):aB Int:=
 if(((((decide (x1.Step<0))||(decide (x1.Step>6)))||(decide (x1.Alter<(-2))))||(decide (x1.Alter>2)))||(decide (x1.Octave<(-1))))||(decide (x1.Octave>9))then some 18 else(Tu x1).bind fun a=>if(decide (a<0))||(decide (a>127))then some 18 else some 0
theorem lV1 {k} (d) (x1:YH):OD k (d+3) 123 [.agg (YH.g x1)]=(Zs x1).map i64:=by
 refine oe rfl ?_;refine bz (fR rfl) ?_;refine bz (fR rfl) ?_;refine bz (fR rfl) ?_;refine bz (fR rfl) ?_;refine bz (fR rfl) ?_;refine io rfl ?_;refine bo (eI1 d x1) fun a=>?_;refine bz (fR rfl) ?_;refine io rfl rfl
def F73 (x1:YH):aB (Int×Int):=
 (Zs x1).bind fun a=>if a !=0 then some (0,a)else(Tu x1).bind fun x3=>some (x3,0)
theorem lX1 {k} (d) (x1:YH):OD k (d+4) 73 [.agg (YH.g x1)]=(F73 x1).map (fun⟨a,b⟩=>.tup [i64 a,i64 b]):=by
 refine oe rfl ?_;refine bo (lV1 d x1) fun c=>?_;refine io rfl ?_;refine bo (eI1 (d+1) x1) fun x3=>?_;rfl
def Ov (x1:YH):aB (Int×Int):=
 (F73 x1).bind fun⟨a,x3⟩=>if((x3 !=0)||(decide (a<0)))||(decide (a>127))then some (0,18)else some (a,0)
theorem Tv {k} (d) (x1:YH):OD k (d+5) 159 [.agg (YH.g x1)]=(Ov x1).map (fun⟨a,b⟩=>.tup [i64 a,i64 b]):=by
 refine oe rfl ?_;refine bo (lX1 d x1) fun⟨c,x3⟩=>?_;refine bz (fR rfl) ?_;refine bz (fR rfl) ?_;refine io rfl rfl
def Zt (x1:YB):aB Int:=
 (Ov x1.Pitch).bind fun⟨c,x3⟩=>(pF x1.Show 2).bind fun a=>(Gs [x3,a]).bind fun b=>some b
theorem lY1 {k} (d) (x1:YB):OD k (d+6) 158 [.agg (YB.g x1)]=(Zt x1).map i64:=by
 refine oe rfl ?_;refine bo (Tv d x1.Pitch) fun⟨b,x3⟩=>?_;refine bo (lW (d+4) x1.Show 2) fun a=>?_;refine bo (Gt (d+4) [x3,a]) fun c=>?_;rfl
def Zu (x1:aA YB):aB Int:=
 if(x1.length:Int)==0 then some 4 else if decide ((x1.length:Int)>10)then some 9 else(aU (E:=Int⊕Unit) (fun(⟨g,c⟩:Int×Int)=>if decide (c<(x1.length:Int))then(aW x1 c).bind fun d=>(Zt d).bind fun e=>if e !=0 then some (.inr (.inl e))else(Ov d.Pitch).bind fun⟨a,f⟩=>if decide (a<=g)then some (.inr (.inl 25))else some (.inl (a,(bE (c+1))))else some (.inr (.inr ()))) bC ((-1),0)).bind fun b=>(match b with|.inl x12=>some x12|.inr _=>some 0)
theorem lZ1 {k} (d) (x1:aA YB):OD k (d+7) 120 [.is 5 (I YB.g x1)]=(Zu x1).map i64:=by
 refine oe rfl ?_;refine bz lm ?_;refine io rfl ?_;refine bz lm ?_;refine io rfl ?_;refine bz lm ?_;refine bo (aL (S:=Int×Int) (enc:=fun⟨c,e⟩=>(Q [(3,i64 c),(17,.is 5 (I YB.g x1)),(18,i64 (x1.length:Int)),(19,i64 e)] [])) (encE:=(fun|.inl a=>(rq [(2,i64 a)] [])|.inr _=>(xq 1 [] []))) (fun⟨c,e⟩=>?_) bC ((-1),0)) fun b=>?_;refine io ?_ rfl;refine bo rg fun f=>?_;refine bo (lY1 d f) fun j=>?_;refine io rfl ?_;refine bo (Tv (d+1) f.Pitch) fun⟨h,i⟩=>?_;refine io rfl rfl;rcases b with a|_;rfl;rfl
def Zv (x1:aA YD):aB Int:=
 if decide ((x1.length:Int)>8)then some 9 else(aU (E:=Int⊕Unit) (fun(b:Int)=>if decide (b<(x1.length:Int))then(aW x1 b).bind fun c=>(Ov c.Pitch).bind fun⟨e,d⟩=>if d !=0 then some (.inr (.inl d))else if(decide (c.Log<1))||(decide (c.Log>6))then some (.inr (.inl 2))else some (.inl (bE (b+1)))else some (.inr (.inr ()))) bC 0).bind fun a=>(match a with|.inl x9=>some x9|.inr _=>some 0)
theorem mA1 {k} (d) (x1:aA YD):OD k (d+6) 121 [.is 5 (I YD.g x1)]=(Zv x1).map i64:=by
 refine oe rfl ?_;refine bz lm ?_;refine io rfl ?_;refine bz lm ?_;refine bo (aL (S:=Int) (enc:=fun b=>(Q [(10,.is 5 (I YD.g x1)),(11,i64 (x1.length:Int)),(12,i64 b)] [])) (encE:=(fun|.inl c=>(rq [(2,i64 c)] [])|.inr _=>(xq 0 [] []))) (fun b=>?_) bC 0) fun a=>?_;refine io ?_ rfl;refine bo rg fun e=>?_;refine bo (Tv d e.Pitch) fun⟨f,h⟩=>?_;refine io rfl ?_;refine bz (fR rfl) ?_;refine io rfl rfl;rcases a with c|_;rfl;rfl
def Zw (x1:YY):aB Int:=
 if(decide (x1.Link<0))||(decide (x1.Link>2))then some 2 else if decide ((x1.Text.size:Int)>256)then some 5 else(aU (E:=Unit⊕Unit) (fun(a:Int)=>if decide (a<(x1.Text.size:Int))then(oA x1.Text a).bind fun b=>((if decide (b<32)then some true else(oA x1.Text a).bind fun c=>some (c==127):aB (Bool))).bind fun d=>if d then some (.inr (.inl ()))else some (.inl (bE (a+1)))else some (.inr (.inr ()))) bC 0).bind fun e=>(match e with|.inl _=>some 6|.inr _=>if(x1.Text.toList==(⟨#[]⟩:ByteArray).toList)&&(x1.Link==1)then some 3 else some 0)
theorem mB1 {k} (d) (x1:YY):OD k (d+1) 160 [.agg (YY.g x1)]=(Zw x1).map i64:=by
 refine oe rfl ?_;refine bz (fR rfl) ?_;refine io rfl ?_;refine io rfl ?_;refine bo (aL (S:=Int) (enc:=fun a=>(Q [(1,.ref 0 0),(20,i64 (x1.Text.size:Int)),(21,i64 a)] [(0,.box (YY.g x1))])) (encE:=(fun|.inl _=>(rq [(1,.ref 0 0),(2,i64 6)] [(0,.box (YY.g x1))])|.inr _=>(xq 1 [(1,.ref 0 0)] [(0,.box (YY.g x1))]))) (fun a=>?_) bC 0) fun b=>?_;refine io ?_ rfl;refine bo oi fun c=>?_;refine bo (e:=id) ?_ fun h=>?_;refine io rfl ?_;refine bo oi fun f=>?_;rfl;refine io rfl rfl;rcases b with _|_;rfl;refine bz (eZ rfl) ?_;refine io rfl rfl
def Zx (x1:YY):aB Bool:=
 some (((x1.Text==(⟨#[]⟩:ByteArray))&&((x1.Link==0)&&true))!=false)
theorem mC1 {k} (d) (x1:YY):OD k (d+1) 161 [.agg (YY.g x1)]=(Zx x1).map bv:=by
 refine oe rfl ?_;rfl
def Zy (x1:aA YY):aB Int:=
 if decide ((x1.length:Int)>4)then some 9 else(aU (E:=Int⊕Unit) (fun(c:Int)=>if decide (c<(x1.length:Int))then(aW x1 c).bind fun e=>(Zw e).bind fun d=>if d !=0 then some (.inr (.inl d))else some (.inl (bE (c+1)))else some (.inr (.inr ()))) bC 0).bind fun f=>(match f with|.inl x7=>some x7|.inr _=>((if decide ((x1.length:Int)>0)then(aW x1 (bE ((x1.length:Int)-1))).bind fun g=>(Zx g).bind fun a=>some a else some false:aB (Bool))).bind fun b=>if b then some 3 else some 0)
theorem mD1 {k} (d) (x1:aA YY):OD k (d+2) 122 [.is 2 (I YY.g x1)]=(Zy x1).map i64:=by
 refine oe rfl ?_;refine bz lm ?_;refine io rfl ?_;refine bz lm ?_;refine bo (aL (S:=Int) (enc:=fun a=>(Q [(0,.is 2 (I YY.g x1)),(10,.is 2 (I YY.g x1)),(11,i64 (x1.length:Int)),(12,i64 a)] [])) (encE:=(fun|.inl b=>(rq [(0,.is 2 (I YY.g x1)),(2,i64 b)] [])|.inr _=>(xq 0 [(0,.is 2 (I YY.g x1))] []))) (fun a=>?_) bC 0) fun i=>?_;refine io ?_ rfl;refine bo rg fun h=>?_;refine bo (mB1 d h) fun l=>?_;refine io rfl rfl;rcases i with b|_;rfl;refine bz lm ?_;refine bo (e:=id) ?_ fun f=>?_;refine io ?_ rfl;refine bo rg fun j=>?_;refine bo (mC1 d j) fun c=>?_;rfl;refine io rfl rfl
def Zz (x1:YE):aB Int:=
 (pF x1.ID.Site 99).bind fun r=>(pF x1.ID.Number 1073741824).bind fun x3=>(Gs [r,x3]).bind fun q=>if q !=0 then some q else(Ts x1.Kind).bind fun s=>if !s then some 11 else(Zm x1).bind fun t=>(Zq x1 t).bind fun u=>if !u then some 3 else((if x1.Kind !=3 then(Tt x1.Value).bind fun v=>some (v !=0)else some false:aB (Bool))).bind fun w=>if w then some 17 else if x1.Kind==1 then(Zu x1.Heads).bind fun b=>(Zv x1.Graces).bind fun c=>(Zy x1.Lyrics).bind fun d=>(Gs [b,c,d]).bind fun a=>if a !=0 then some a else(pF x1.Articulations 31).bind fun e=>(pF x1.Ornament 4).bind fun f=>(pF x1.Dynamic 9).bind fun g=>(pF x1.Stem 2).bind fun h=>(pF x1.Beam 2).bind fun i=>(Gs [e,f,g,h,i]).bind fun j=>some j else(pF x1.Articulations 31).bind fun k=>(pF x1.Ornament 4).bind fun l=>(pF x1.Dynamic 9).bind fun m=>(pF x1.Stem 2).bind fun n=>(pF x1.Beam 2).bind fun o=>(Gs [k,l,m,n,o]).bind fun p=>some p
theorem Ow {k} (d) (x1:YE):OD k (d+8) 69 [.agg (YE.g x1)]=(Zz x1).map i64:=by
 refine oe rfl ?_;refine bo (lW (d+6) x1.ID.Site 99) fun t=>?_;refine bo (lW (d+6) x1.ID.Number 1073741824) fun x3=>?_;refine bo (Gt (d+6) [t,x3]) fun w=>?_;refine io rfl ?_;refine bo (eG1 (d+6) x1.Kind) fun x=>?_;refine io rfl ?_;refine bo (lP1 (d+5) x1) fun v=>?_;refine bo (lT1 (d+5) x1 v) fun y=>?_;refine io rfl ?_;refine bo (e:=id) ?_ fun A=>?_;refine io ?_ rfl;refine bo (eH1 (d+6) x1.Value) fun z=>?_;rfl;refine io rfl ?_;refine io ?_ ?_;refine bo (lZ1 d x1.Heads) fun a=>?_;refine bo (mA1 (d+1) x1.Graces) fun b=>?_;refine bo (mD1 (d+5) x1.Lyrics) fun c=>?_;refine bo (Gt (d+6) [a,b,c]) fun r=>?_;refine io rfl ?_;refine bo (lW (d+6) x1.Articulations 31) fun f=>?_;refine bo (lW (d+6) x1.Ornament 4) fun h=>?_;refine bo (lW (d+6) x1.Dynamic 9) fun i=>?_;refine bo (lW (d+6) x1.Stem 2) fun j=>?_;refine bo (lW (d+6) x1.Beam 2) fun l=>?_;refine bo (Gt (d+6) [f,h,i,j,l]) fun s=>?_;rfl;refine bo (lW (d+6) x1.Articulations 31) fun m=>?_;refine bo (lW (d+6) x1.Ornament 4) fun n=>?_;refine bo (lW (d+6) x1.Dynamic 9) fun o=>?_;refine bo (lW (d+6) x1.Stem 2) fun p=>?_;refine bo (lW (d+6) x1.Beam 2) fun q=>?_;refine bo (Gt (d+6) [m,n,o,p,q]) fun u=>?_;rfl
def aA1 (x1:YE):aB Bool:=
 (Zz x1).bind fun a=>some (a !=0)
theorem mE1 {k} (d) (x1:YE):OD k (d+9) 107 [.agg (YE.g x1)]=(aA1 x1).map bv:=by
 refine oe rfl ?_;refine bo (Ow d x1) fun a=>?_;rfl
def aB1 (x1:aA YE):aB Int:=
 (aU (E:=Int⊕Unit) (fun(a:Int)=>if decide (a<(x1.length:Int))then(aW x1 a).bind fun b=>(aA1 b).bind fun c=>if c then some (.inr (.inl a))else some (.inl (bE (a+1)))else some (.inr (.inr ()))) bC 0).bind fun d=>(match d with|.inl x7=>some x7|.inr _=>some (-1))
theorem mF1 {k} (d) (x1:aA YE):OD k (d+10) 152 [.is 13 (I YE.g x1),.fn 107 [] []]=(aB1 x1).map i64:=by
 refine oe rfl ?_;refine bz lm ?_;refine bo (aL (S:=Int) (enc:=fun a=>(Q [(0,.is 13 (I YE.g x1)),(1,.fn 107 [] []),(7,i64 (x1.length:Int)),(8,i64 a)] [])) (encE:=(fun|.inl b=>(rq [(4,i64 b)] [])|.inr _=>(xq 0 [] []))) (fun a=>?_) bC 0) fun e=>?_;refine io ?_ rfl;refine bo rg fun c=>?_;refine bo (mE1 d c) fun f=>?_;refine io rfl rfl;rcases e with b|_;rfl;rfl
def Tw (x1:aA YE):aB Bool:=
 (aB1 x1).bind fun a=>some (decide (a>=0))
theorem eJ1 {k} (d) (x1:aA YE):OD k (d+11) 112 [.is 13 (I YE.g x1),.fn 107 [] []]=(Tw x1).map bv:=by
 refine oe rfl ?_;refine bo (mF1 d x1) fun a=>?_;rfl
def aC1 (x1:YO):aB Bool:=
 ((if decide ((x1.Events.length:Int)>0)then(aW x1.Events 0).bind fun a=>some (a.Kind==3)else some false:aB (Bool))).bind fun x3=>some x3
theorem mG1 {k} (d) (x1:YO):OD k (d+1) 185 [.agg (YO.g x1)]=(aC1 x1).map bv:=by
 refine oe rfl ?_;refine bz lm ?_;refine bo (e:=id) ?_ fun x3=>?_;refine io ?_ rfl;refine bo rg fun a=>?_;rfl;rfl
def aD1 (x1:YA):aB Int:=
 (nF .i64 3870720 (bE (x1.Log+1))).bind fun a=>(aU (E:=Int) (fun(⟨e,b,c⟩:Int×Int×Int)=>if decide (c<x1.Dots)then(sB .i64 e 2).bind fun d=>some (.inl (d,(bE (b+d)),(bE (c+1))))else some (.inr b)) bC (a,a,0)).bind fun f=>some f
theorem mH1 {k} (d) (x1:YA):OD k (d+1) 201 [.agg (YA.g x1)]=(aD1 x1).map i64:=by
 refine oe rfl ?_;refine bo oi fun a=>?_;refine bo (aL (S:=Int×Int×Int) (enc:=fun⟨b,c,e⟩=>(Q [(3,i64 b),(4,i64 c),(11,i64 x1.Dots),(12,i64 e)] [(0,.box (YA.g x1))])) (encE:=(fun(f:Int)=>(xq 0 [(4,i64 f)] [(0,.box (YA.g x1))]))) (fun⟨b,c,e⟩=>?_) bC (a,a,0)) fun f=>?_;refine io ?_ rfl;refine bo oi fun h=>?_;rfl;rfl
def aE1 (x1:YA):aB (Int×Int):=
 (Tt x1).bind fun a=>if a !=0 then some (0,a)else(aD1 x1).bind fun x3=>some (x3,0)
theorem mI1 {k} (d) (x1:YA):OD k (d+2) 195 [.agg (YA.g x1)]=(aE1 x1).map (fun⟨a,b⟩=>.tup [i64 a,i64 b]):=by
 refine oe rfl ?_;refine bo (eH1 d x1) fun c=>?_;refine io rfl ?_;refine bo (mH1 d x1) fun x3=>?_;rfl
def aF1 (x1:YE):aB (Int×Int):=
 (Zz x1).bind fun a=>if(a !=0)||(x1.Kind==3)then some (0,a)else(aE1 x1.Value).bind fun⟨x3,b⟩=>some (x3,b)
theorem mJ1 {k} (d) (x1:YE):OD k (d+9) 191 [.agg (YE.g x1)]=(aF1 x1).map (fun⟨a,b⟩=>.tup [i64 a,i64 b]):=by
 refine oe rfl ?_;refine bo (Ow d x1) fun c=>?_;refine bz (fR rfl) ?_;refine io rfl ?_;refine bo (mI1 (d+6) x1.Value) fun⟨x3,e⟩=>?_;rfl
def aG1 (x1:aA YE):aB (aA Int):=
 (vB (x1.length:Int) (x1.length:Int) 0).bind fun j=>(aU (E:=aA Int) (fun(⟨b,a⟩:Int×(aA Int))=>if decide (b<(x1.length:Int))then(aW x1 b).bind fun c=>(aF1 c).bind fun⟨d,h⟩=>(fQ a b).bind fun e=>(Oh a e (fun i=>d)).bind fun f=>some (.inl ((bE (b+1)),f))else some (.inr a)) bC (0,j)).bind fun g=>some g
theorem mK1 {k} (d) (x1:aA YE):OD k (d+10) 188 [.is 13 (I YE.g x1)]=(aG1 x1).map (fun q=>.is 1 (I cI q)):=by
 refine oe rfl ?_;refine bz lm ?_;refine bo (jR cI _ _ 0) fun p=>?_;refine bz lm ?_;refine bo (aL (S:=Int×(aA Int)) (enc:=fun⟨i,a⟩=>(Q [(3,.own 0),(9,.is 13 (I YE.g x1)),(10,i64 (x1.length:Int)),(11,i64 i)] [(0,.lst 3 1 true (I cI a))])) (encE:=(fun(b:aA Int)=>(xq 0 [(3,.own 0)] [(0,.lst 3 1 true (I cI b))]))) (fun⟨i,a⟩=>?_) bC (0,p)) fun b=>?_;refine io ?_ rfl;refine bo rg fun e=>?_;refine bo (mJ1 d e) fun⟨h,j⟩=>?_;refine bo (bU cI a _) fun l=>?_;refine bo (Ba (A:=Int) (c:=cI) (m:=1) (f:=fun n=>h) (fun _=>⟨rfl,rfl⟩) (jK2 rfl) a _) fun o=>?_;rfl;rfl
def Tx (x1:Int):aB Bool:=
 some ((decide (x1>=1))&&(decide (x1<=32)))
theorem eK1 {k} (d) (x1:Int):OD k (d+1) 198 [i64 x1]=(Tx x1).map bv:=by
 refine oe rfl ?_;refine bz (eZ rfl) ?_;rfl
def aH1 (x1 a:YU):aB Int:=
 if x1.First !=a.First then if decide (x1.First<a.First)then some (-1)else some 1 else if x1.Count !=a.Count then if decide (x1.Count>a.Count)then some (-1)else some 1 else some 0
theorem mL1 {k} (d) (x1 a:YU):OD k (d+1) 199 [.agg (YU.g x1),.agg (YU.g a)]=(aH1 x1 a).map i64:=by
 refine oe rfl ?_;refine io ?_ ?_;refine io rfl rfl;refine io ?_ rfl;refine io rfl rfl
def Ji (x1:YU):aB Int:=
 some (bE (x1.First+x1.Count))
theorem Ly {k} (d) (x1:YU):OD k (d+1) 197 [.agg (YU.g x1)]=(Ji x1).map i64:=by
 refine oe rfl ?_;rfl
def Lz (x1:YU) (n:aA YU):aB (Bool×(aA YU)):=
 (aU (E:=aA YU) (fun(b:aA YU)=>((if decide ((b.length:Int)>0)then(fQ b (bE ((b.length:Int)-1))).bind fun o=>(gL b o).bind fun c=>(Ji c).bind fun d=>some (decide (d<=x1.First))else some false:aB (Bool))).bind fun e=>if e then(yJ b (bE ((b.length:Int)-1))).bind fun f=>some (.inl f)else some (.inr b)) bC n).bind fun a=>((if(a.length:Int)==3 then some true else((if decide ((a.length:Int)>0)then(Ji x1).bind fun g=>(fQ a (bE ((a.length:Int)-1))).bind fun h=>(gL a h).bind fun i=>(Ji i).bind fun j=>some (decide (g>j))else some false:aB (Bool))).bind fun k=>some k:aB (Bool))).bind fun l=>if l then some (false,a)else(fJ true a [x1]).bind fun m=>some (true,m)
theorem gW1 {k} (d) (x1:YU) (i:aA YU):eJ (XD k (d+2)) 196 [.agg (YU.g x1),.ref 0 0] [(1,.lst 276 4 true (I YU.g i)),(0,.box [.own 1])] 2 false=(Lz x1 i).map (fun(⟨j,l⟩:Bool×(aA YU))=>((bv j,[(1,.lst 276 4 true (I YU.g l)),(0,.box [.own 1])],0))):=by
 rw[xd (fn:=kQ1) rfl];refine bo (aL (S:=aA YU) (enc:=fun h=>(Q [(1,.ref 0 0),(2,.ref 2 0)] [(2,.box (YU.g x1)),(1,.lst 276 4 true (I YU.g h)),(0,.box [.own 1])])) (encE:=(fun(b:aA YU)=>(xq 0 [(1,.ref 0 0),(2,.ref 2 0)] [(2,.box (YU.g x1)),(1,.lst 276 4 true (I YU.g b)),(0,.box [.own 1])]))) (fun h=>?_) bC i) fun b=>?_;refine bz (cV YU.g h) ?_;refine bo (e:=id) ?_ fun o=>?_;refine io ?_ rfl;refine bz (cV YU.g h) ?_;refine bo (bU YU.g h _) fun w=>?_;refine bo (kJ (A:=YU) (c:=YU.g) (m:=4) (g:=fun a=>[i64 a.First,i64 a.Count,i64 a.Actual,i64 a.Normal]) (fun _=>⟨rfl,rfl⟩) (jK2 rfl) h _) fun a=>?_;refine bo (Ly d a) fun n=>?_;rfl;refine io ?_ rfl;refine bz (cV YU.g h) ?_;refine bo (zE YU.g h (bE ((h.length:Int)-1))) fun p=>?_;rfl;refine bz (cV YU.g b) ?_;refine bo (e:=id) ?_ fun u=>?_;refine io rfl ?_;refine bo (e:=id) ?_ fun t=>?_;refine io ?_ rfl;refine bo (Ly d x1) fun q=>?_;refine bo (bU YU.g b _) fun r=>?_;refine bo (kJ (A:=YU) (c:=YU.g) (m:=4) (g:=fun f=>[i64 f.First,i64 f.Count,i64 f.Actual,i64 f.Normal]) (fun _=>⟨rfl,rfl⟩) (jK2 rfl) b _) fun f=>?_;refine bo (Ly d f) fun s=>?_;rfl;rfl;refine io rfl ?_;refine bo (bH true YU.g b [x1]) fun v=>?_;rfl
def aI1 (x1:aA YU) (e:Int):aB Int:=
 if(decide (e<0))||(decide (e>128))then some 2 else if decide ((x1.length:Int)>16)then some 9 else(aU (E:=(Int×(aA YU))⊕(aA YU)) (fun(⟨b,c⟩:Int×(aA YU))=>if decide (b<(x1.length:Int))then(aW x1 b).bind fun a=>((if(((decide (a.Count<1))||(decide (a.Count>e)))||(decide (a.First<0)))||(decide (a.First>(bE (e-a.Count))))then some true else(Tx a.Actual).bind fun f=>some (!f):aB (Bool))).bind fun g=>((if g then some true else(Tx a.Normal).bind fun h=>some (!h):aB (Bool))).bind fun i=>if i||(a.Actual==a.Normal)then some (.inr (.inl (2,c)))else((if decide (b>0)then(aW x1 (bE (b-1))).bind fun j=>(aH1 j a).bind fun k=>some (decide (k>0))else some false:aB (Bool))).bind fun l=>if l then some (.inr (.inl (25,c)))else(Lz a c).bind fun⟨m,d⟩=>if !m then some (.inr (.inl (21,d)))else some (.inl ((bE (b+1)),d))else some (.inr (.inr c))) bC (0,[])).bind fun n=>(match n with|.inl ⟨x25,x26⟩=>some x25|.inr x27=>some 0)
theorem mM1 {k} (d) (x1:aA YU) (i:Int):OD k (d+3) 192 [.is 4 (I YU.g x1),i64 i]=(aI1 x1 i).map i64:=by
 refine oe rfl ?_;refine bz (fR rfl) ?_;refine io rfl ?_;refine bz lm ?_;refine io rfl ?_;refine bz lm ?_;refine bo (aL (S:=Int×(aA YU)) (enc:=fun⟨c,b⟩=>(Q [(0,.is 4 (I YU.g x1)),(1,i64 i),(6,.fn 196 [] [.ref 0 0]),(19,.is 4 (I YU.g x1)),(20,i64 (x1.length:Int)),(21,i64 c)] [(1,.lst 276 4 true (I YU.g b)),(0,.box [.own 1])])) (encE:=(fun|.inl ⟨f,h⟩=>(rq [(4,i64 f)] [(1,.lst 276 4 true (I YU.g h)),(0,.box [.own 1])])|.inr x27=>(xq 0 [] [(1,.lst 276 4 true (I YU.g x27)),(0,.box [.own 1])]))) (fun⟨c,b⟩=>?_) bC (0,[])) fun l=>?_;refine io ?_ rfl;refine bo rg fun a=>?_;refine bz (fR rfl) ?_;refine bz (fR rfl) ?_;refine bz (fR rfl) ?_;refine bo (e:=id) ?_ fun n=>?_;refine io rfl ?_;refine bo (eK1 (d+1) a.Actual) fun m=>?_;rfl;refine bo (e:=id) ?_ fun p=>?_;refine io rfl ?_;refine bo (eK1 (d+1) a.Normal) fun o=>?_;rfl;refine bz (fR rfl) ?_;refine io rfl ?_;refine bo (e:=id) ?_ fun r=>?_;refine io ?_ rfl;refine bo rg fun j=>?_;refine bo (mL1 (d+1) j a) fun q=>?_;rfl;refine io rfl ?_;refine bo (gW1 d a b) fun⟨s,t⟩=>?_;refine io rfl rfl;rcases l with⟨f,h⟩|x27;rfl;rfl
def aJ1 (x1:YU) (a:Int):aB Bool:=
 some ((decide (a>=x1.First))&&(decide ((bE (a-x1.First))<x1.Count)))
theorem mN1 {k} (d) (x1:YU) (a:Int):OD k (d+1) 202 [.agg (YU.g x1),i64 a]=(aJ1 x1 a).map bv:=by
 refine oe rfl ?_;refine bz (eZ rfl) ?_;rfl
def aK1 (x1 c:Int):aB Int:=
 (aU (E:=Int) (fun(⟨b,a⟩:Int×Int)=>if decide (a>0)then(qI .i64 b a).bind fun d=>some (.inl (a,d))else some (.inr b)) bC (x1,c)).bind fun e=>some e
theorem mO1 {k} (d) (x1 a:Int):OD k (d+1) 203 [i64 x1,i64 a]=(aK1 x1 a).map i64:=by
 refine oe rfl ?_;refine bo (aL (S:=Int×Int) (enc:=fun⟨b,c⟩=>(Q [(0,i64 b),(1,i64 c)] [])) (encE:=(fun(e:Int)=>(xq 0 [(0,i64 e)] []))) (fun⟨b,c⟩=>?_) bC (x1,a)) fun e=>?_;refine io ?_ rfl;refine bo oi fun f=>?_;rfl;rfl
def aL1 (x1:aA YU) (m:Int):aB (Int×Int):=
 (aU (E:=Int×Int) (fun(⟨b,c,d⟩:Int×Int×Int)=>if decide (d<(x1.length:Int))then(aW x1 d).bind fun a=>(aJ1 a m).bind fun f=>((if f then(aK1 (bE (b*a.Normal)) (bE (c*a.Actual))).bind fun e=>(sB .i64 (bE (b*a.Normal)) e).bind fun g=>(sB .i64 (bE (c*a.Actual)) e).bind fun h=>some (g,h)else some (b,c):aB (Int×Int))).bind fun⟨i,j⟩=>some (.inl (i,j,(bE (d+1))))else some (.inr (b,c))) bC (1,1,0)).bind fun⟨k,l⟩=>some (k,l)
theorem mP1 {k} (d) (x1:aA YU) (j:Int):OD k (d+2) 200 [.is 4 (I YU.g x1),i64 j]=(aL1 x1 j).map (fun⟨r,s⟩=>.tup [i64 r,i64 s]):=by
 refine oe rfl ?_;refine bz lm ?_;refine bo (aL (S:=Int×Int×Int) (enc:=fun⟨b,c,f⟩=>(Q [(1,i64 j),(4,i64 b),(5,i64 c),(9,.is 4 (I YU.g x1)),(10,i64 (x1.length:Int)),(11,i64 f)] [])) (encE:=(fun(⟨l,m⟩:Int×Int)=>(xq 0 [(4,i64 l),(5,i64 m)] []))) (fun⟨b,c,f⟩=>?_) bC (1,1,0)) fun⟨l,m⟩=>?_;refine io ?_ rfl;refine bo rg fun a=>?_;refine bo (mN1 d a j) fun n=>?_;refine bo (e:=(fun(⟨h,i⟩:Int×Int)=>(nq [(1,i64 j),(4,i64 h),(5,i64 i),(9,.is 4 (I YU.g x1)),(10,i64 (x1.length:Int)),(11,i64 f)] [(0,.box (YU.g a))]))) ?_ fun⟨h,i⟩=>?_;refine io ?_ rfl;refine bo (mO1 d (bE (b*a.Normal)) (bE (c*a.Actual))) fun o=>?_;refine bo oi fun p=>?_;refine bo oi fun q=>?_;rfl;rfl;rfl
def Ty (x1:aA YU) (c x3:Int):aB (Int×Int):=
 if(decide (x3<0))||(decide (x3>7741440))then some (0,2)else(aL1 x1 c).bind fun⟨a,b⟩=>(qI .i64 (bE (x3*a)) b).bind fun d=>if d !=0 then some (0,16)else(sB .i64 (bE (x3*a)) b).bind fun e=>some (e,0)
theorem eL1 {k} (d) (x1:aA YU) (a x3:Int):OD k (d+3) 193 [.is 4 (I YU.g x1),i64 a,i64 x3]=(Ty x1 a x3).map (fun⟨b,c⟩=>.tup [i64 b,i64 c]):=by
 refine oe rfl ?_;refine bz (fR rfl) ?_;refine io rfl ?_;refine bo (mP1 d x1 a) fun⟨e,f⟩=>?_;refine bo oi fun h=>?_;refine io rfl ?_;refine bo oi fun i=>?_;rfl
def Tz (x1:aA YU) (c:aA Int):aB ((aA Int)×Int):=
 (aI1 x1 (c.length:Int)).bind fun x3=>if x3 !=0 then some ([],x3)else(vB 0 (c.length:Int) 0).bind fun i=>(aU (E:=(Int×(aA Int))⊕(aA Int)) (fun(⟨d,a⟩:Int×(aA Int))=>if decide (d<(c.length:Int))then(aW c d).bind fun e=>(Ty x1 d e).bind fun⟨f,b⟩=>if b !=0 then some (.inr (.inl (b,a)))else(fJ true a [f]).bind fun g=>some (.inl ((bE (d+1)),g))else some (.inr (.inr a))) bC (0,i)).bind fun h=>(match h with|.inl ⟨x15,x16⟩=>some ([],x15)|.inr x17=>some (x17,0))
theorem eM1 {k} (d) (x1:aA YU) (e:aA Int):OD k (d+4) 189 [.is 4 (I YU.g x1),.is 1 (I cI e)]=(Tz x1 e).map (fun⟨o,p⟩=>.tup [.is 1 (I cI o),i64 p]):=by
 refine oe rfl ?_;refine bz lm ?_;refine bo (mM1 d x1 (e.length:Int)) fun x3=>?_;refine io rfl ?_;refine bz lm ?_;refine bo (jR cI _ _ 0) fun n=>?_;refine bz lm ?_;refine bo (aL (S:=Int×(aA Int)) (enc:=fun⟨j,a⟩=>(Q [(0,.is 4 (I YU.g x1)),(7,.own 0),(22,.is 1 (I cI e)),(23,i64 (e.length:Int)),(24,i64 j)] [(0,.lst 3 1 true (I cI a))])) (encE:=(fun|.inl ⟨b,c⟩=>(rq [(4,.is 1 (I cI [])),(5,i64 b),(7,.own 0)] [(0,.lst 3 1 true (I cI c))])|.inr x17=>(xq 0 [(7,.own 0)] [(0,.lst 3 1 true (I cI x17))]))) (fun⟨j,a⟩=>?_) bC (0,n)) fun i=>?_;refine io ?_ rfl;refine bo rg fun f=>?_;refine bo (eL1 d x1 j f) fun⟨h,l⟩=>?_;refine io rfl ?_;refine bo (bH true cI a [h]) fun m=>?_;rfl;rcases i with⟨b,c⟩|x17;rfl;rfl
def aM1 (x1:aA YU) (m:Int) (x3:aA Int):aB (Int×Bool):=
 (aW x1 m).bind fun l=>(aU (E:=Int⊕Int) (fun(⟨c,a⟩:Int×Int)=>(Ji l).bind fun d=>if decide (a<d)then(mS x1 (bE (m+1)) ((x1).length)).bind fun e=>(aW x3 a).bind fun f=>(Ty e a f).bind fun⟨g,h⟩=>if h !=0 then some (.inr (.inl c))else some (.inl ((bE (c+g)),(bE (a+1))))else some (.inr (.inr c))) bC (0,l.First)).bind fun i=>(match i with|.inl x17=>some (0,false)|.inr x18=>(aU (E:=Int⊕Unit) (fun(b:Int)=>if decide (b<=8)then(nF .i64 3870720 (bE (b+1))).bind fun j=>if x18==(bE (l.Actual*j))then some (.inr (.inl b))else some (.inl (bE (b+1)))else some (.inr (.inr ()))) bC (-1)).bind fun k=>(match k with|.inl x23=>some (x23,true)|.inr _=>some (0,false)))
theorem mQ1 {k} (d) (x1:aA YU) (m:Int) (x3:aA Int):OD k (d+4) 194 [.is 4 (I YU.g x1),i64 m,.is 1 (I cI x3)]=(aM1 x1 m x3).map (fun⟨s,t⟩=>.tup [i64 s,bv t]):=by
 refine oe rfl ?_;refine bo rg fun a=>?_;refine bo (aL (S:=Int×Int) (enc:=fun⟨c,b⟩=>(Q [(0,.is 4 (I YU.g x1)),(1,i64 m),(2,.is 1 (I cI x3)),(8,.ref 0 0),(9,i64 c),(10,i64 b)] [(0,.box (YU.g a))])) (encE:=(fun|.inl e=>(rq [(6,i64 0),(7,bv false),(8,.ref 0 0),(9,i64 e)] [(0,.box (YU.g a))])|.inr x18=>(xq 0 [(8,.ref 0 0),(9,i64 x18)] [(0,.box (YU.g a))]))) (fun⟨c,b⟩=>?_) bC (0,a.First)) fun l=>?_;refine bo (Ly (d+2) a) fun o=>?_;refine io ?_ rfl;refine bo (zD _ _ _) fun i=>?_;refine bo rg fun j=>?_;refine bo (eL1 d i b j) fun⟨p,q⟩=>?_;refine io rfl rfl;rcases l with e|x18;rfl;refine bo (aL (S:=Int) (enc:=fun f=>(Q [(8,.ref 0 0),(9,i64 x18),(13,i64 f)] [(0,.box (YU.g a))])) (encE:=(fun|.inl h=>(rq [(6,i64 h),(7,bv true)] [(0,.box (YU.g a))])|.inr _=>(xq 2 [] [(0,.box (YU.g a))]))) (fun f=>?_) bC (-1)) fun n=>?_;refine io ?_ rfl;refine bo oi fun r=>?_;refine io rfl rfl;rcases n with h|_;rfl;rfl
def aN1 (x1:aA YU) (g:aA Int):aB ((aA Int)×Int):=
 (Tz x1 g).bind fun⟨x3,h⟩=>if h !=0 then some ([],h)else(vB 0 (x1.length:Int) 0).bind fun i=>(aU (E:=(aA Int)⊕(aA Int)) (fun(⟨f,a⟩:Int×(aA Int))=>if decide (f<(x1.length:Int))then(aM1 x1 f g).bind fun⟨b,c⟩=>if !c then some (.inr (.inl a))else(fJ true a [b]).bind fun d=>some (.inl ((bE (f+1)),d))else some (.inr (.inr a))) bC (0,i)).bind fun e=>(match e with|.inl x14=>some ([],21)|.inr x15=>some (x15,0))
theorem mR1 {k} (d) (x1:aA YU) (c:aA Int):OD k (d+5) 190 [.is 4 (I YU.g x1),.is 1 (I cI c)]=(aN1 x1 c).map (fun⟨m,n⟩=>.tup [.is 1 (I cI m),i64 n]):=by
 refine oe rfl ?_;refine bo (eM1 d x1 c) fun⟨x3,o⟩=>?_;refine io rfl ?_;refine bz lm ?_;refine bo (jR cI _ _ 0) fun l=>?_;refine bz lm ?_;refine bo (aL (S:=Int×(aA Int)) (enc:=fun⟨h,a⟩=>(Q [(0,.is 4 (I YU.g x1)),(1,.is 1 (I cI c)),(8,.own 0),(25,i64 (x1.length:Int)),(26,i64 h)] [(0,.lst 3 1 true (I cI a))])) (encE:=(fun|.inl b=>(rq [(4,.is 1 (I cI [])),(5,i64 21),(8,.own 0)] [(0,.lst 3 1 true (I cI b))])|.inr x15=>(xq 0 [(8,.own 0)] [(0,.lst 3 1 true (I cI x15))]))) (fun⟨h,a⟩=>?_) bC (0,l)) fun f=>?_;refine io ?_ rfl;refine bo (mQ1 d x1 h c) fun⟨e,i⟩=>?_;refine io rfl ?_;refine bo (bH true cI a [e]) fun j=>?_;rfl;rcases f with b|x15;rfl;rfl
def aO1 (x1:YO):aB ((aA Int)×Int):=
 (aU (E:=Int⊕Unit) (fun(b:Int)=>if decide (b<(x1.Events.length:Int))then(aW x1.Events b).bind fun e=>(Zz e).bind fun f=>if f !=0 then some (.inr (.inl f))else if(e.Kind==3)&&((decide (b>0))||(decide ((x1.Events.length:Int)>1)))then some (.inr (.inl 11))else some (.inl (bE (b+1)))else some (.inr (.inr ()))) bC 0).bind fun i=>(match i with|.inl x7=>some ([],x7)|.inr _=>(aG1 x1.Events).bind fun g=>(Tz x1.Tuplets g).bind fun⟨c,a⟩=>if a !=0 then some ([],a)else(aN1 x1.Tuplets g).bind fun⟨h,d⟩=>if d !=0 then some ([],21)else some (c,0))
theorem mS1 {k} (d) (x1:YO):OD k (d+11) 186 [.agg (YO.g x1)]=(aO1 x1).map (fun⟨m,n⟩=>.tup [.is 1 (I cI m),i64 n]):=by
 refine oe rfl ?_;refine bz lm ?_;refine bo (aL (S:=Int) (enc:=fun a=>(Q [(1,.ref 0 0),(13,.is 13 (I YE.g x1.Events)),(14,i64 (x1.Events.length:Int)),(15,i64 a)] [(0,.box (YO.g x1))])) (encE:=(fun|.inl b=>(rq [(1,.ref 0 0),(2,.is 1 (I cI [])),(3,i64 b)] [(0,.box (YO.g x1))])|.inr _=>(xq 0 [(1,.ref 0 0)] [(0,.box (YO.g x1))]))) (fun a=>?_) bC 0) fun l=>?_;refine io ?_ rfl;refine bo rg fun j=>?_;refine bo (Ow (d+2) j) fun o=>?_;refine io rfl ?_;refine bz (eZ (bz (fR (bz lm rfl)) rfl)) ?_;refine io rfl rfl;rcases l with b|_;rfl;refine bo (mK1 d x1.Events) fun c=>?_;refine bo (eM1 (d+6) x1.Tuplets c) fun⟨e,f⟩=>?_;refine io rfl ?_;refine bo (mR1 (d+5) x1.Tuplets c) fun⟨h,i⟩=>?_;refine io rfl rfl
def aP1 (x1:YO) (a:Int):aB ((aA Int)×Int):=
 if(decide (a<1))||(decide (a>15482880))then some ([],2)else if decide ((x1.Events.length:Int)>128)then some ([],9)else(aC1 x1).bind fun x3=>if x3&&((x1.Events.length:Int)==1)then(aW x1.Events 0).bind fun c=>(Zz c).bind fun b=>if b !=0 then some ([],b)else if decide ((x1.Tuplets.length:Int)>0)then some ([],21)else some ([a],0)else(aO1 x1).bind fun⟨d,e⟩=>some (d,e)
theorem mT1 {k} (d) (x1:YO) (a:Int):OD k (d+12) 177 [.agg (YO.g x1),i64 a]=(aP1 x1 a).map (fun⟨c,e⟩=>.tup [.is 1 (I cI c),i64 e]):=by
 refine oe rfl ?_;refine bz (fR rfl) ?_;refine io rfl ?_;refine bz lm ?_;refine io rfl ?_;refine bo (mG1 (d+10) x1) fun x3=>?_;refine bz (eZ (bz lm rfl)) ?_;refine io ?_ ?_;refine bo rg fun b=>?_;refine bo (Ow (d+3) b) fun f=>?_;refine io rfl ?_;refine bz lm ?_;refine io rfl rfl;refine bo (mS1 d x1) fun⟨h,i⟩=>?_;rfl
def aQ1 (x1:aA Int):aB Int:=
 (aU (E:=Int) (fun(⟨x3,a⟩:Int×Int)=>if decide (a<(x1.length:Int))then(aW x1 a).bind fun b=>some (.inl ((bE (x3+b)),(bE (a+1))))else some (.inr x3)) bC (0,0)).bind fun c=>some c
theorem mU1 {k} (d) (x1:aA Int):OD k (d+1) 178 [.is 1 (I cI x1)]=(aQ1 x1).map i64:=by
 refine oe rfl ?_;refine bz lm ?_;refine bo (aL (S:=Int×Int) (enc:=fun⟨x3,a⟩=>(Q [(3,i64 x3),(6,.is 1 (I cI x1)),(7,i64 (x1.length:Int)),(8,i64 a)] [])) (encE:=(fun(b:Int)=>(xq 0 [(3,i64 b)] []))) (fun⟨x3,a⟩=>?_) bC (0,0)) fun b=>?_;refine io ?_ rfl;refine bo rg fun c=>?_;rfl;rfl
def Ua (x1:YO) (a:Int):aB ((aA Int)×Int):=
 (aP1 x1 a).bind fun⟨x3,b⟩=>((if(b==0)&&(decide ((x3.length:Int)>0))then(aQ1 x3).bind fun d=>some (d !=a)else some false:aB (Bool))).bind fun e=>((if e then some 20 else some b:aB (Int))).bind fun c=>if c !=0 then some ([],c)else some (x3,0)
theorem eN1 {k} (d) (x1:YO) (a:Int):OD k (d+13) 153 [.agg (YO.g x1),i64 a]=(Ua x1 a).map (fun⟨c,f⟩=>.tup [.is 1 (I cI c),i64 f]):=by
 refine oe rfl ?_;refine bo (mT1 d x1 a) fun⟨x3,h⟩=>?_;refine bz (eZ (bz lm rfl)) ?_;refine bo (e:=id) ?_ fun j=>?_;refine io ?_ rfl;refine bo (mU1 (d+11) x3) fun i=>?_;rfl;refine bo (e:=(fun(b:Int)=>(nq [(6,.is 1 (I cI x3)),(7,i64 b)] [(0,.box (YO.g x1))]))) ?_ fun b=>?_;refine io rfl rfl;refine io rfl rfl
def Ub (x1:YO) (a:Int):aB Int:=
 (Ua x1 a).bind fun⟨x3,b⟩=>some b
theorem eO1 {k} (d) (x1:YO) (a:Int):OD k (d+14) 113 [.agg (YO.g x1),i64 a]=(Ub x1 a).map i64:=by
 refine oe rfl ?_;refine bo (eN1 d x1 a) fun⟨x3,b⟩=>?_;rfl
def F65 (x1:Int):aB Bool:=
 some ((x1==11)||(x1==20))
theorem mW1 {k} (d) (x1:Int):OD k (d+1) 65 [i64 x1]=(F65 x1).map bv:=by
 refine oe rfl ?_;refine bz (fR rfl) ?_;rfl
def aR1 (x1:YO) (a:Int):aB Bool:=
 (Tw x1.Events).bind fun x3=>((if !x3 then(Ub x1 a).bind fun b=>(F65 b).bind fun c=>some c else some false:aB (Bool))).bind fun d=>some d
theorem mX1 {k} (d) (x1:YO) (a:Int):OD k (d+15) 111 [.agg (YO.g x1),.ip [.fn 107 [] []],.ip [.fn 65 [] []],.ip [i64 a]]=(aR1 x1 a).map bv:=by
 refine oe rfl ?_;refine bo (eJ1 (d+3) x1.Events) fun x3=>?_;refine bo (e:=id) ?_ fun f=>?_;refine io ?_ rfl;refine bo (eO1 d x1 a) fun b=>?_;refine bo (mW1 (d+13) b) fun c=>?_;rfl;rfl
def aS1 (x1:aA YO) (b:Int):aB Int:=
 (aU (E:=Int⊕Unit) (fun(a:Int)=>if decide (a<(x1.length:Int))then(aW x1 a).bind fun c=>(aR1 c b).bind fun d=>if d then some (.inr (.inl a))else some (.inl (bE (a+1)))else some (.inr (.inr ()))) bC 0).bind fun e=>(match e with|.inl x8=>some x8|.inr _=>some (-1))
theorem mY1 {k} (d) (x1:aA YO) (a:Int):OD k (d+16) 151 [.is 2 (I YO.g x1),.fn 111 [] [.ip [.fn 107 [] []],.ip [.fn 65 [] []],.ip [i64 a]]]=(aS1 x1 a).map i64:=by
 refine oe rfl ?_;refine bz lm ?_;refine bo (aL (S:=Int) (enc:=fun b=>(Q [(0,.is 2 (I YO.g x1)),(1,.fn 111 [] [.ip [.fn 107 [] []],.ip [.fn 65 [] []],.ip [i64 a]]),(7,i64 (x1.length:Int)),(8,i64 b)] [])) (encE:=(fun|.inl c=>(rq [(4,i64 c)] [])|.inr _=>(xq 0 [] []))) (fun b=>?_) bC 0) fun f=>?_;refine io ?_ rfl;refine bo rg fun e=>?_;refine bo (mX1 d e a) fun h=>?_;refine io rfl rfl;rcases f with c|_;rfl;rfl
def aT1 (x1:aA YO) (a:Int):aB Bool:=
 (aS1 x1 a).bind fun x3=>some (decide (x3>=0))
theorem mZ1 {k} (d) (x1:aA YO) (a:Int):OD k (d+17) 110 [.is 2 (I YO.g x1),.fn 111 [] [.ip [.fn 107 [] []],.ip [.fn 65 [] []],.ip [i64 a]]]=(aT1 x1 a).map bv:=by
 refine oe rfl ?_;refine bo (mY1 d x1 a) fun x3=>?_;rfl
def aU1 (x1:YW) (a:Int):aB Bool:=
 (aT1 x1.Voices a).bind fun x3=>some x3
theorem nA1 {k} (d) (x1:YW) (a:Int):OD k (d+18) 109 [.agg (YW.g x1),.ip [.fn 107 [] []],.ip [.fn 65 [] []],.ip [i64 a]]=(aU1 x1 a).map bv:=by
 refine oe rfl ?_;refine bo (mZ1 d x1.Voices a) fun x3=>?_;rfl
def aV1 (x1:aA YW) (b:Int):aB Int:=
 (aU (E:=Int⊕Unit) (fun(a:Int)=>if decide (a<(x1.length:Int))then(aW x1 a).bind fun c=>(aU1 c b).bind fun d=>if d then some (.inr (.inl a))else some (.inl (bE (a+1)))else some (.inr (.inr ()))) bC 0).bind fun e=>(match e with|.inl x8=>some x8|.inr _=>some (-1))
theorem nB1 {k} (d) (x1:aA YW) (a:Int):OD k (d+19) 150 [.is 2 (I YW.g x1),.fn 109 [] [.ip [.fn 107 [] []],.ip [.fn 65 [] []],.ip [i64 a]]]=(aV1 x1 a).map i64:=by
 refine oe rfl ?_;refine bz lm ?_;refine bo (aL (S:=Int) (enc:=fun b=>(Q [(0,.is 2 (I YW.g x1)),(1,.fn 109 [] [.ip [.fn 107 [] []],.ip [.fn 65 [] []],.ip [i64 a]]),(7,i64 (x1.length:Int)),(8,i64 b)] [])) (encE:=(fun|.inl c=>(rq [(4,i64 c)] [])|.inr _=>(xq 0 [] []))) (fun b=>?_) bC 0) fun f=>?_;refine io ?_ rfl;refine bo rg fun e=>?_;refine bo (nA1 d e a) fun h=>?_;refine io rfl rfl;rcases f with c|_;rfl;rfl
def aW1 (x1:aA YW) (a:Int):aB Bool:=
 (aV1 x1 a).bind fun x3=>some (decide (x3>=0))
theorem nC1 {k} (d) (x1:aA YW) (a:Int):OD k (d+20) 108 [.is 2 (I YW.g x1),.fn 109 [] [.ip [.fn 107 [] []],.ip [.fn 65 [] []],.ip [i64 a]]]=(aW1 x1 a).map bv:=by
 refine oe rfl ?_;refine bo (nB1 d x1 a) fun x3=>?_;rfl
def aX1 (x1:Int) (a:YM):aB Bool:=
 (Zh a).bind fun⟨x3,b⟩=>if b !=0 then some false else(aW1 a.Cells x3).bind fun c=>some c
theorem nD1 {k} (d) (x1:Int) (a:YM):OD k (d+21) 106 [i64 x1,.agg (YM.g a),.ip [.fn 65 [] []]]=(aX1 x1 a).map bv:=by
 refine oe rfl ?_;refine bo (Ou (d+16) a) fun⟨x3,b⟩=>?_;refine io rfl ?_;refine bo (nC1 d a.Cells x3) fun c=>?_;rfl
def Db (x1:aA YV) (e:Y0) (x3:Int):aB (aA YV):=
 (aU (E:=aA YV) (fun(⟨a,f⟩:Int×(aA YV))=>if decide (a<(e.Measures.length:Int))then(aW e.Measures a).bind fun g=>(aX1 a g).bind fun b=>(iL b g.ID f e x3).bind fun c=>some (.inl ((bE (a+1)),c))else some (.inr f)) bC (0,x1)).bind fun d=>some d
theorem aY1 {k} (d) (x1:aA YV) (a:Y0) (x3:Int):eJ (XD k (d+22)) 57 [.ref 1 0,.fn 106 [] [.ref 3 0]] [(3,.box [.fn 65 [] []]),(2,.lst 111 3 false (I YV.g x1)),(1,.box (ck a x3 (.own 2)))] 4 false=(Db x1 a x3).map (fun(e:aA YV)=>((.tup [],[(3,.box [.fn 65 [] []]),(2,.lst 111 3 false (I YV.g e)),(1,.box (ck a x3 (.own 2)))],0))):=by
 rw[xd (fn:=Yv) rfl];refine bz lm ?_;refine bo (aL (S:=Int×(aA YV)) (enc:=fun⟨f,h⟩=>(Q [(0,.ref 1 0),(1,.fn 106 [] [.ref 3 0]),(10,.is 22 (I YM.g a.Measures)),(11,i64 (a.Measures.length:Int)),(12,i64 f)] [(3,.box [.fn 65 [] []]),(2,.lst 111 3 false (I YV.g h)),(1,.box (ck a x3 (.own 2)))])) (encE:=(fun(b:aA YV)=>(xq 0 [] [(3,.box [.fn 65 [] []]),(2,.lst 111 3 false (I YV.g b)),(1,.box (ck a x3 (.own 2)))]))) (fun⟨f,h⟩=>?_) bC (0,x1)) fun b=>?_;refine io ?_ rfl;refine bo rg fun i=>?_;refine bo (nD1 d f i) fun c=>?_;refine bo (gH (d+20) c i.ID h a x3) fun j=>?_;rfl;rfl
def aZ1 (x1:aA YV) (a:Y0) (x3:Int):aB (aA YV):=
 (Db x1 a x3).bind fun b=>some b
theorem nE1 {k} (d) (x1:aA YV) (a:Y0) (x3:Int):eJ (XD k (d+23)) 64 [.ref 1 0,.fn 65 [] []] [(2,.lst 111 3 false (I YV.g x1)),(1,.box (ck a x3 (.own 2)))] 3 false=(aZ1 x1 a x3).map (fun(b:aA YV)=>((.tup [],[(2,.lst 111 3 false (I YV.g b)),(1,.box (ck a x3 (.own 2)))],0))):=by
 rw[xd (fn:=p64) rfl];refine bo (aY1 d x1 a x3) fun c=>?_;rfl
def Uc (x1:aA YV) (a:Y0) (x3:Int):aB (aA YV):=
 (aZ1 x1 a x3).bind fun b=>some b
theorem nF1 {k} (d) (x1:aA YV) (a:Y0) (x3:Int):eJ (XD k (d+24)) 31 [.ref 1 0] [(2,.lst 111 3 false (I YV.g x1)),(1,.box (ck a x3 (.own 2)))] 3 false=(Uc x1 a x3).map (fun(b:aA YV)=>((.tup [],[(2,.lst 111 3 false (I YV.g b)),(1,.box (ck a x3 (.own 2)))],0))):=by
 rw[xd (fn:=p31) rfl];refine bo (nE1 d x1 a x3) fun c=>?_;rfl
def F66 (x1:Int):aB Bool:=
 ((if x1 !=0 then(F65 x1).bind fun a=>some (!a)else some false:aB (Bool))).bind fun x3=>some x3
theorem xN1 {k} (d) (x1:Int):OD k (d+2) 66 [i64 x1]=(F66 x1).map bv:=by
 refine oe rfl ?_;refine bo (e:=id) ?_ fun x3=>?_;refine io ?_ rfl;refine bo (mW1 d x1) fun a=>?_;rfl;rfl
def Dc (x1:YO) (a:Int):aB Bool:=
 (Tw x1.Events).bind fun x3=>((if !x3 then(Ub x1 a).bind fun b=>(F66 b).bind fun c=>some c else some false:aB (Bool))).bind fun d=>some d
theorem bA1 {k} (d) (x1:YO) (a:Int):OD k (d+15) 111 [.agg (YO.g x1),.ip [.fn 107 [] []],.ip [.fn 66 [] []],.ip [i64 a]]=(Dc x1 a).map bv:=by
 refine oe rfl ?_;refine bo (eJ1 (d+3) x1.Events) fun x3=>?_;refine bo (e:=id) ?_ fun f=>?_;refine io ?_ rfl;refine bo (eO1 d x1 a) fun b=>?_;refine bo (xN1 (d+12) b) fun c=>?_;rfl;rfl
def Dd (x1:aA YO) (b:Int):aB Int:=
 (aU (E:=Int⊕Unit) (fun(a:Int)=>if decide (a<(x1.length:Int))then(aW x1 a).bind fun c=>(Dc c b).bind fun d=>if d then some (.inr (.inl a))else some (.inl (bE (a+1)))else some (.inr (.inr ()))) bC 0).bind fun e=>(match e with|.inl x8=>some x8|.inr _=>some (-1))
theorem bB1 {k} (d) (x1:aA YO) (a:Int):OD k (d+16) 151 [.is 2 (I YO.g x1),.fn 111 [] [.ip [.fn 107 [] []],.ip [.fn 66 [] []],.ip [i64 a]]]=(Dd x1 a).map i64:=by
 refine oe rfl ?_;refine bz lm ?_;refine bo (aL (S:=Int) (enc:=fun b=>(Q [(0,.is 2 (I YO.g x1)),(1,.fn 111 [] [.ip [.fn 107 [] []],.ip [.fn 66 [] []],.ip [i64 a]]),(7,i64 (x1.length:Int)),(8,i64 b)] [])) (encE:=(fun|.inl c=>(rq [(4,i64 c)] [])|.inr _=>(xq 0 [] []))) (fun b=>?_) bC 0) fun f=>?_;refine io ?_ rfl;refine bo rg fun e=>?_;refine bo (bA1 d e a) fun h=>?_;refine io rfl rfl;rcases f with c|_;rfl;rfl
def De (x1:aA YO) (a:Int):aB Bool:=
 (Dd x1 a).bind fun x3=>some (decide (x3>=0))
theorem bC1 {k} (d) (x1:aA YO) (a:Int):OD k (d+17) 110 [.is 2 (I YO.g x1),.fn 111 [] [.ip [.fn 107 [] []],.ip [.fn 66 [] []],.ip [i64 a]]]=(De x1 a).map bv:=by
 refine oe rfl ?_;refine bo (bB1 d x1 a) fun x3=>?_;rfl
def Df (x1:YW) (a:Int):aB Bool:=
 (De x1.Voices a).bind fun x3=>some x3
theorem bD1 {k} (d) (x1:YW) (a:Int):OD k (d+18) 109 [.agg (YW.g x1),.ip [.fn 107 [] []],.ip [.fn 66 [] []],.ip [i64 a]]=(Df x1 a).map bv:=by
 refine oe rfl ?_;refine bo (bC1 d x1.Voices a) fun x3=>?_;rfl
def Dg (x1:aA YW) (b:Int):aB Int:=
 (aU (E:=Int⊕Unit) (fun(a:Int)=>if decide (a<(x1.length:Int))then(aW x1 a).bind fun c=>(Df c b).bind fun d=>if d then some (.inr (.inl a))else some (.inl (bE (a+1)))else some (.inr (.inr ()))) bC 0).bind fun e=>(match e with|.inl x8=>some x8|.inr _=>some (-1))
theorem bE1 {k} (d) (x1:aA YW) (a:Int):OD k (d+19) 150 [.is 2 (I YW.g x1),.fn 109 [] [.ip [.fn 107 [] []],.ip [.fn 66 [] []],.ip [i64 a]]]=(Dg x1 a).map i64:=by
 refine oe rfl ?_;refine bz lm ?_;refine bo (aL (S:=Int) (enc:=fun b=>(Q [(0,.is 2 (I YW.g x1)),(1,.fn 109 [] [.ip [.fn 107 [] []],.ip [.fn 66 [] []],.ip [i64 a]]),(7,i64 (x1.length:Int)),(8,i64 b)] [])) (encE:=(fun|.inl c=>(rq [(4,i64 c)] [])|.inr _=>(xq 0 [] []))) (fun b=>?_) bC 0) fun f=>?_;refine io ?_ rfl;refine bo rg fun e=>?_;refine bo (bD1 d e a) fun h=>?_;refine io rfl rfl;rcases f with c|_;rfl;rfl
def Dh (x1:aA YW) (a:Int):aB Bool:=
 (Dg x1 a).bind fun x3=>some (decide (x3>=0))
theorem bF1 {k} (d) (x1:aA YW) (a:Int):OD k (d+20) 108 [.is 2 (I YW.g x1),.fn 109 [] [.ip [.fn 107 [] []],.ip [.fn 66 [] []],.ip [i64 a]]]=(Dh x1 a).map bv:=by
 refine oe rfl ?_;refine bo (bE1 d x1 a) fun x3=>?_;rfl
def Di (x1:Int) (a:YM):aB Bool:=
 (Zh a).bind fun⟨x3,b⟩=>if b !=0 then some false else(Dh a.Cells x3).bind fun c=>some c
theorem bG1 {k} (d) (x1:Int) (a:YM):OD k (d+21) 106 [i64 x1,.agg (YM.g a),.ip [.fn 66 [] []]]=(Di x1 a).map bv:=by
 refine oe rfl ?_;refine bo (Ou (d+16) a) fun⟨x3,b⟩=>?_;refine io rfl ?_;refine bo (bF1 d a.Cells x3) fun c=>?_;rfl
def Dj (x1:aA YV) (e:Y0) (x3:Int):aB (aA YV):=
 (aU (E:=aA YV) (fun(⟨a,f⟩:Int×(aA YV))=>if decide (a<(e.Measures.length:Int))then(aW e.Measures a).bind fun g=>(Di a g).bind fun b=>(iL b g.ID f e x3).bind fun c=>some (.inl ((bE (a+1)),c))else some (.inr f)) bC (0,x1)).bind fun d=>some d
theorem bH1 {k} (d) (x1:aA YV) (a:Y0) (x3:Int):eJ (XD k (d+22)) 57 [.ref 1 0,.fn 106 [] [.ref 3 0]] [(3,.box [.fn 66 [] []]),(2,.lst 111 3 false (I YV.g x1)),(1,.box (ck a x3 (.own 2)))] 4 false=(Dj x1 a x3).map (fun(e:aA YV)=>((.tup [],[(3,.box [.fn 66 [] []]),(2,.lst 111 3 false (I YV.g e)),(1,.box (ck a x3 (.own 2)))],0))):=by
 rw[xd (fn:=Yv) rfl];refine bz lm ?_;refine bo (aL (S:=Int×(aA YV)) (enc:=fun⟨f,h⟩=>(Q [(0,.ref 1 0),(1,.fn 106 [] [.ref 3 0]),(10,.is 22 (I YM.g a.Measures)),(11,i64 (a.Measures.length:Int)),(12,i64 f)] [(3,.box [.fn 66 [] []]),(2,.lst 111 3 false (I YV.g h)),(1,.box (ck a x3 (.own 2)))])) (encE:=(fun(b:aA YV)=>(xq 0 [] [(3,.box [.fn 66 [] []]),(2,.lst 111 3 false (I YV.g b)),(1,.box (ck a x3 (.own 2)))]))) (fun⟨f,h⟩=>?_) bC (0,x1)) fun b=>?_;refine io ?_ rfl;refine bo rg fun i=>?_;refine bo (bG1 d f i) fun c=>?_;refine bo (gH (d+20) c i.ID h a x3) fun j=>?_;rfl;rfl
def Dk (x1:aA YV) (a:Y0) (x3:Int):aB (aA YV):=
 (Dj x1 a x3).bind fun b=>some b
theorem bI1 {k} (d) (x1:aA YV) (a:Y0) (x3:Int):eJ (XD k (d+23)) 64 [.ref 1 0,.fn 66 [] []] [(2,.lst 111 3 false (I YV.g x1)),(1,.box (ck a x3 (.own 2)))] 3 false=(Dk x1 a x3).map (fun(b:aA YV)=>((.tup [],[(2,.lst 111 3 false (I YV.g b)),(1,.box (ck a x3 (.own 2)))],0))):=by
 rw[xd (fn:=p64) rfl];refine bo (bH1 d x1 a x3) fun c=>?_;rfl
def Ud (x1:aA YV) (a:Y0) (x3:Int):aB (aA YV):=
 (Dk x1 a x3).bind fun b=>some b
theorem nG1 {k} (d) (x1:aA YV) (a:Y0) (x3:Int):eJ (XD k (d+24)) 32 [.ref 1 0] [(2,.lst 111 3 false (I YV.g x1)),(1,.box (ck a x3 (.own 2)))] 3 false=(Ud x1 a x3).map (fun(b:aA YV)=>((.tup [],[(2,.lst 111 3 false (I YV.g b)),(1,.box (ck a x3 (.own 2)))],0))):=by
 rw[xd (fn:=p32) rfl];refine bo (bI1 d x1 a x3) fun c=>?_;rfl
def F68 (x1:YP) (a:YE):aB Bool:=
 (Zz a).bind fun x3=>some (x3 !=0)
theorem xO1 {k} (d) (x1:YP) (a:YE):OD k (d+9) 68 [.agg (YP.g x1),.agg (YE.g a)]=(F68 x1 a).map bv:=by
 refine oe rfl ?_;refine bo (Ow d a) fun x3=>?_;rfl
def bJ1 (x1:aA YV) (s:Y0) (x3:Int):aB (aA YV):=
 (aU (E:=aA YV) (fun(⟨b,m⟩:Int×(aA YV))=>if decide (b<(s.Measures.length:Int))then(aW s.Measures b).bind fun n=>(aU (E:=aA YV) (fun(⟨c,o⟩:Int×(aA YV))=>if decide (c<(n.Cells.length:Int))then(aW n.Cells c).bind fun p=>(aU (E:=aA YV) (fun(⟨d,q⟩:Int×(aA YV))=>if decide (d<(p.Voices.length:Int))then(aW p.Voices d).bind fun r=>(aU (E:=aA YV) (fun(⟨a,e⟩:Int×(aA YV))=>if decide (a<(r.Events.length:Int))then(aW r.Events a).bind fun f=>(F68 (YP.mk 4 0 c b d a 0) f).bind fun g=>(iL g f.ID e s x3).bind fun h=>some (.inl ((bE (a+1)),h))else some (.inr e)) bC (0,q)).bind fun i=>some (.inl ((bE (d+1)),i))else some (.inr q)) bC (0,o)).bind fun j=>some (.inl ((bE (c+1)),j))else some (.inr o)) bC (0,m)).bind fun k=>some (.inl ((bE (b+1)),k))else some (.inr m)) bC (0,x1)).bind fun l=>some l
theorem nH1 {k} (d) (x1:aA YV) (c:Y0) (x3:Int):eJ (XD k (d+10)) 67 [.ref 1 0,.fn 68 [] []] [(2,.lst 111 3 false (I YV.g x1)),(1,.box (ck c x3 (.own 2)))] 3 false=(bJ1 x1 c x3).map (fun(v:aA YV)=>((.tup [],[(2,.lst 111 3 false (I YV.g v)),(1,.box (ck c x3 (.own 2)))],0))):=by
 rw[xd (fn:=p67) rfl];refine bz lm ?_;refine bo (aL (S:=Int×(aA YV)) (enc:=fun⟨b,r⟩=>(Q [(0,.ref 1 0),(1,.fn 68 [] []),(16,.is 22 (I YM.g c.Measures)),(17,i64 (c.Measures.length:Int)),(18,i64 b)] [(2,.lst 111 3 false (I YV.g r)),(1,.box (ck c x3 (.own 2)))])) (encE:=(fun(q:aA YV)=>(xq 0 [] [(2,.lst 111 3 false (I YV.g q)),(1,.box (ck c x3 (.own 2)))]))) (fun⟨b,r⟩=>?_) bC (0,x1)) fun q=>?_;refine io ?_ rfl;refine bo rg fun a=>?_;refine bz lm ?_;refine bo (aL (S:=Int×(aA YV)) (enc:=fun⟨e,s⟩=>(Q [(0,.ref 1 0),(1,.fn 68 [] []),(4,i64 b),(16,.is 22 (I YM.g c.Measures)),(17,i64 (c.Measures.length:Int)),(18,i64 b),(24,.is 2 (I YW.g a.Cells)),(25,i64 (a.Cells.length:Int)),(26,i64 e)] [(3,.box (YM.g a)),(2,.lst 111 3 false (I YV.g s)),(1,.box (ck c x3 (.own 2)))])) (encE:=(fun(p:aA YV)=>(xq 2 [(0,.ref 1 0),(1,.fn 68 [] []),(16,.is 22 (I YM.g c.Measures)),(17,i64 (c.Measures.length:Int)),(18,i64 b)] [(3,.box (YM.g a)),(2,.lst 111 3 false (I YV.g p)),(1,.box (ck c x3 (.own 2)))]))) (fun⟨e,s⟩=>?_) bC (0,r)) fun p=>?_;refine io ?_ rfl;refine bo rg fun f=>?_;refine bz lm ?_;refine bo (aL (S:=Int×(aA YV)) (enc:=fun⟨h,t⟩=>(Q [(0,.ref 1 0),(1,.fn 68 [] []),(4,i64 b),(6,i64 e),(16,.is 22 (I YM.g c.Measures)),(17,i64 (c.Measures.length:Int)),(18,i64 b),(24,.is 2 (I YW.g a.Cells)),(25,i64 (a.Cells.length:Int)),(26,i64 e),(32,.is 2 (I YO.g f.Voices)),(33,i64 (f.Voices.length:Int)),(34,i64 h)] [(4,.box (YW.g f)),(3,.box (YM.g a)),(2,.lst 111 3 false (I YV.g t)),(1,.box (ck c x3 (.own 2)))])) (encE:=(fun(o:aA YV)=>(xq 4 [(0,.ref 1 0),(1,.fn 68 [] []),(4,i64 b),(16,.is 22 (I YM.g c.Measures)),(17,i64 (c.Measures.length:Int)),(18,i64 b),(24,.is 2 (I YW.g a.Cells)),(25,i64 (a.Cells.length:Int)),(26,i64 e)] [(4,.box (YW.g f)),(3,.box (YM.g a)),(2,.lst 111 3 false (I YV.g o)),(1,.box (ck c x3 (.own 2)))]))) (fun⟨h,t⟩=>?_) bC (0,s)) fun o=>?_;refine io ?_ rfl;refine bo rg fun l=>?_;refine bz lm ?_;refine bo (aL (S:=Int×(aA YV)) (enc:=fun⟨i,j⟩=>(Q [(0,.ref 1 0),(1,.fn 68 [] []),(4,i64 b),(6,i64 e),(8,i64 h),(16,.is 22 (I YM.g c.Measures)),(17,i64 (c.Measures.length:Int)),(18,i64 b),(24,.is 2 (I YW.g a.Cells)),(25,i64 (a.Cells.length:Int)),(26,i64 e),(32,.is 2 (I YO.g f.Voices)),(33,i64 (f.Voices.length:Int)),(34,i64 h),(40,.is 13 (I YE.g l.Events)),(41,i64 (l.Events.length:Int)),(42,i64 i)] [(5,.box (YO.g l)),(4,.box (YW.g f)),(3,.box (YM.g a)),(2,.lst 111 3 false (I YV.g j)),(1,.box (ck c x3 (.own 2)))])) (encE:=(fun(n:aA YV)=>(xq 6 [(0,.ref 1 0),(1,.fn 68 [] []),(4,i64 b),(6,i64 e),(16,.is 22 (I YM.g c.Measures)),(17,i64 (c.Measures.length:Int)),(18,i64 b),(24,.is 2 (I YW.g a.Cells)),(25,i64 (a.Cells.length:Int)),(26,i64 e),(32,.is 2 (I YO.g f.Voices)),(33,i64 (f.Voices.length:Int)),(34,i64 h)] [(5,.box (YO.g l)),(4,.box (YW.g f)),(3,.box (YM.g a)),(2,.lst 111 3 false (I YV.g n)),(1,.box (ck c x3 (.own 2)))]))) (fun⟨i,j⟩=>?_) bC (0,t)) fun n=>?_;refine io ?_ rfl;refine bo rg fun m=>?_;refine bo (xO1 d (YP.mk 4 0 e b h i 0) m) fun u=>?_;refine bo (gH (d+8) u m.ID j c x3) fun w=>?_;rfl;rfl;rfl;rfl;rfl
def Ue (x1:aA YV) (a:Y0) (x3:Int):aB (aA YV):=
 (bJ1 x1 a x3).bind fun b=>some b
theorem nI1 {k} (d) (x1:aA YV) (a:Y0) (x3:Int):eJ (XD k (d+11)) 33 [.ref 1 0] [(2,.lst 111 3 false (I YV.g x1)),(1,.box (ck a x3 (.own 2)))] 3 false=(Ue x1 a x3).map (fun(b:aA YV)=>((.tup [],[(2,.lst 111 3 false (I YV.g b)),(1,.box (ck a x3 (.own 2)))],0))):=by
 rw[xd (fn:=p33) rfl];refine bo (nH1 d x1 a x3) fun c=>?_;rfl
end Go.P
namespace Go.P
open Go.Sim (Ex dV CK)
open K (I Q rq nq xq ck)
def F71 (x1:Y0) (c:Int):aB (Int×Int×Int):=
 if decide (c<0)then some (0,0,2)else(aU (E:=(Int×Int)⊕Unit) (fun(⟨b,a⟩:Int×Int)=>if decide (a<(x1.Parts.length:Int))then(aW x1.Parts a).bind fun d=>if decide (b<(d.Staves.length:Int))then some (.inr (.inl (a,b)))else some (.inl ((bE (b-(d.Staves.length:Int))),(bE (a+1))))else some (.inr (.inr ()))) bC (c,0)).bind fun e=>(match e with|.inl ⟨x7,x8⟩=>some (x7,x8,0)|.inr _=>some (0,0,2))
theorem xP1 {k} (d) (x1:Y0) (a:Int):OD k (d+1) 71 [.agg (Y0.g x1),i64 a]=(F71 x1 a).map (fun⟨i,j,l⟩=>.tup [i64 i,i64 j,i64 l]):=by
 refine oe rfl ?_;refine io rfl ?_;refine bz lm ?_;refine bo (aL (S:=Int×Int) (enc:=fun⟨b,c⟩=>(Q [(1,i64 b),(12,.is 6 (I YJ.g x1.Parts)),(13,i64 (x1.Parts.length:Int)),(14,i64 c)] [(0,.box (Y0.g x1))])) (encE:=(fun|.inl ⟨e,f⟩=>(rq [(4,i64 e),(5,i64 f),(6,i64 0)] [(0,.box (Y0.g x1))])|.inr _=>(xq 0 [] [(0,.box (Y0.g x1))]))) (fun⟨b,c⟩=>?_) bC (a,0)) fun h=>?_;refine io ?_ rfl;refine bo rg fun m=>?_;refine bz lm ?_;refine io rfl ?_;refine bz lm ?_;rfl;rcases h with⟨e,f⟩|_;rfl;rfl
def F72 (x1:YH) (a:Int):aB Bool:=
 (F73 x1).bind fun⟨x3,c⟩=>(vV (bE (x3+a)) 0 127).bind fun b=>some (!b)
theorem nK1 {k} (d) (x1:YH) (a:Int):OD k (d+5) 72 [.agg (YH.g x1),.ip [i64 a]]=(F72 x1 a).map bv:=by
 refine oe rfl ?_;refine bo (lX1 d x1) fun⟨x3,b⟩=>?_;refine bo (oL (d+3) (bE (x3+a)) 0 127) fun c=>?_;rfl
def F75 (x1:YB) (a:Int):aB Bool:=
 (F72 x1.Pitch a).bind fun x3=>some x3
theorem xQ1 {k} (d) (x1:YB) (a:Int):OD k (d+6) 75 [.agg (YB.g x1),.ip [.fn 72 [] [.ip [i64 a]]]]=(F75 x1 a).map bv:=by
 refine oe rfl ?_;refine bo (nK1 d x1.Pitch a) fun x3=>?_;rfl
def bK1 (x1:aA YB) (b:Int):aB Int:=
 (aU (E:=Int⊕Unit) (fun(a:Int)=>if decide (a<(x1.length:Int))then(aW x1 a).bind fun c=>(F75 c b).bind fun d=>if d then some (.inr (.inl a))else some (.inl (bE (a+1)))else some (.inr (.inr ()))) bC 0).bind fun e=>(match e with|.inl x8=>some x8|.inr _=>some (-1))
theorem nL1 {k} (d) (x1:aA YB) (a:Int):OD k (d+7) 125 [.is 5 (I YB.g x1),.fn 75 [] [.ip [.fn 72 [] [.ip [i64 a]]]]]=(bK1 x1 a).map i64:=by
 refine oe rfl ?_;refine bz lm ?_;refine bo (aL (S:=Int) (enc:=fun b=>(Q [(0,.is 5 (I YB.g x1)),(1,.fn 75 [] [.ip [.fn 72 [] [.ip [i64 a]]]]),(7,i64 (x1.length:Int)),(8,i64 b)] [])) (encE:=(fun|.inl c=>(rq [(4,i64 c)] [])|.inr _=>(xq 0 [] []))) (fun b=>?_) bC 0) fun f=>?_;refine io ?_ rfl;refine bo rg fun e=>?_;refine bo (xQ1 d e a) fun h=>?_;refine io rfl rfl;rcases f with c|_;rfl;rfl
def F74 (x1:aA YB) (a:Int):aB Bool:=
 (bK1 x1 a).bind fun x3=>some (decide (x3>=0))
theorem xR1 {k} (d) (x1:aA YB) (a:Int):OD k (d+8) 74 [.is 5 (I YB.g x1),.fn 75 [] [.ip [.fn 72 [] [.ip [i64 a]]]]]=(F74 x1 a).map bv:=by
 refine oe rfl ?_;refine bo (nL1 d x1 a) fun x3=>?_;rfl
def F77 (x1:YD) (a:Int):aB Bool:=
 (F72 x1.Pitch a).bind fun x3=>some x3
theorem xS1 {k} (d) (x1:YD) (a:Int):OD k (d+6) 77 [.agg (YD.g x1),.ip [.fn 72 [] [.ip [i64 a]]]]=(F77 x1 a).map bv:=by
 refine oe rfl ?_;refine bo (nK1 d x1.Pitch a) fun x3=>?_;rfl
def bL1 (x1:aA YD) (b:Int):aB Int:=
 (aU (E:=Int⊕Unit) (fun(a:Int)=>if decide (a<(x1.length:Int))then(aW x1 a).bind fun c=>(F77 c b).bind fun d=>if d then some (.inr (.inl a))else some (.inl (bE (a+1)))else some (.inr (.inr ()))) bC 0).bind fun e=>(match e with|.inl x8=>some x8|.inr _=>some (-1))
theorem nM1 {k} (d) (x1:aA YD) (a:Int):OD k (d+7) 126 [.is 5 (I YD.g x1),.fn 77 [] [.ip [.fn 72 [] [.ip [i64 a]]]]]=(bL1 x1 a).map i64:=by
 refine oe rfl ?_;refine bz lm ?_;refine bo (aL (S:=Int) (enc:=fun b=>(Q [(0,.is 5 (I YD.g x1)),(1,.fn 77 [] [.ip [.fn 72 [] [.ip [i64 a]]]]),(7,i64 (x1.length:Int)),(8,i64 b)] [])) (encE:=(fun|.inl c=>(rq [(4,i64 c)] [])|.inr _=>(xq 0 [] []))) (fun b=>?_) bC 0) fun f=>?_;refine io ?_ rfl;refine bo rg fun e=>?_;refine bo (xS1 d e a) fun h=>?_;refine io rfl rfl;rcases f with c|_;rfl;rfl
def F76 (x1:aA YD) (a:Int):aB Bool:=
 (bL1 x1 a).bind fun x3=>some (decide (x3>=0))
theorem xT1 {k} (d) (x1:aA YD) (a:Int):OD k (d+8) 76 [.is 5 (I YD.g x1),.fn 77 [] [.ip [.fn 72 [] [.ip [i64 a]]]]]=(F76 x1 a).map bv:=by
 refine oe rfl ?_;refine bo (nM1 d x1 a) fun x3=>?_;rfl
def F70 (x1:YP) (e:YE) (x3:YK):aB Bool:=
 (Zz e).bind fun g=>if g !=0 then some false else(F71 x3.s' x1.Staff).bind fun⟨h,k,i⟩=>((if i==0 then(aW x3.s'.Parts h).bind fun j=>some j.Transpose.Semitones else some 0:aB (Int))).bind fun f=>((if x3.s'.Written then some (bE (0-f))else some f:aB (Int))).bind fun a=>(F74 e.Heads a).bind fun b=>((if b then some true else(F76 e.Graces a).bind fun c=>some c:aB (Bool))).bind fun d=>some d
theorem xU1 {k} (d) (x1:YP) (b:YE) (x3:YK):OD k (d+9) 70 [.agg (YP.g x1),.agg (YE.g b),.ip [.ip (YK.g x3)]]=(F70 x1 b x3).map bv:=by
 refine oe rfl ?_;refine bo (Ow d b) fun j=>?_;refine io rfl ?_;refine bo (xP1 (d+7) x3.s' x1.Staff) fun⟨l,m,n⟩=>?_;refine bo (e:=(fun(c:Int)=>(nq [(2,.ip [.ip (YK.g x3)]),(4,.ref 1 0),(6,.ref 2 0)] [(2,.box [i64 c]),(1,.box (YE.g b)),(0,.box (YP.g x1))]))) ?_ fun c=>?_;refine io ?_ rfl;refine bo rg fun o=>?_;rfl;refine bo (e:=(fun(a:Int)=>(nq [(4,.ref 1 0),(6,.ref 2 0)] [(2,.box [i64 a]),(1,.box (YE.g b)),(0,.box (YP.g x1))]))) ?_ fun a=>?_;refine io rfl rfl;refine bo (xR1 d b.Heads a) fun f=>?_;refine bo (e:=id) ?_ fun i=>?_;refine io rfl ?_;refine bo (xT1 d b.Graces a) fun h=>?_;rfl;rfl
def Dl (x1:aA YV) (s:Y0) (x3:Int):aB (aA YV):=
 (aU (E:=aA YV) (fun(⟨c,m⟩:Int×(aA YV))=>if decide (c<(s.Measures.length:Int))then(aW s.Measures c).bind fun n=>(aU (E:=aA YV) (fun(⟨d,o⟩:Int×(aA YV))=>if decide (d<(n.Cells.length:Int))then(aW n.Cells d).bind fun p=>(aU (E:=aA YV) (fun(⟨e,q⟩:Int×(aA YV))=>if decide (e<(p.Voices.length:Int))then(aW p.Voices e).bind fun r=>(aU (E:=aA YV) (fun(⟨a,b⟩:Int×(aA YV))=>if decide (a<(r.Events.length:Int))then(aW r.Events a).bind fun f=>(F70 (YP.mk 4 0 d c e a 0) f (YK.mk s x3 b)).bind fun g=>(iL g f.ID b s x3).bind fun h=>some (.inl ((bE (a+1)),h))else some (.inr b)) bC (0,q)).bind fun i=>some (.inl ((bE (e+1)),i))else some (.inr q)) bC (0,o)).bind fun j=>some (.inl ((bE (d+1)),j))else some (.inr o)) bC (0,m)).bind fun k=>some (.inl ((bE (c+1)),k))else some (.inr m)) bC (0,x1)).bind fun l=>some l
theorem bM1 {k} (d) (x1:aA YV) (c:Y0) (x3:Int):eJ (XD k (d+10)) 67 [.ref 1 0,.fn 70 [] [.ref 3 0]] [(3,.box [.ref 1 0]),(2,.lst 111 3 false (I YV.g x1)),(1,.box (ck c x3 (.own 2)))] 4 false=(Dl x1 c x3).map (fun(v:aA YV)=>((.tup [],[(3,.box [.ref 1 0]),(2,.lst 111 3 false (I YV.g v)),(1,.box (ck c x3 (.own 2)))],0))):=by
 rw[xd (fn:=p67) rfl];refine bz lm ?_;refine bo (aL (S:=Int×(aA YV)) (enc:=fun⟨b,r⟩=>(Q [(0,.ref 1 0),(1,.fn 70 [] [.ref 3 0]),(16,.is 22 (I YM.g c.Measures)),(17,i64 (c.Measures.length:Int)),(18,i64 b)] [(3,.box [.ref 1 0]),(2,.lst 111 3 false (I YV.g r)),(1,.box (ck c x3 (.own 2)))])) (encE:=(fun(q:aA YV)=>(xq 0 [] [(3,.box [.ref 1 0]),(2,.lst 111 3 false (I YV.g q)),(1,.box (ck c x3 (.own 2)))]))) (fun⟨b,r⟩=>?_) bC (0,x1)) fun q=>?_;refine io ?_ rfl;refine bo rg fun a=>?_;refine bz lm ?_;refine bo (aL (S:=Int×(aA YV)) (enc:=fun⟨e,s⟩=>(Q [(0,.ref 1 0),(1,.fn 70 [] [.ref 3 0]),(4,i64 b),(16,.is 22 (I YM.g c.Measures)),(17,i64 (c.Measures.length:Int)),(18,i64 b),(24,.is 2 (I YW.g a.Cells)),(25,i64 (a.Cells.length:Int)),(26,i64 e)] [(4,.box (YM.g a)),(3,.box [.ref 1 0]),(2,.lst 111 3 false (I YV.g s)),(1,.box (ck c x3 (.own 2)))])) (encE:=(fun(p:aA YV)=>(xq 2 [(0,.ref 1 0),(1,.fn 70 [] [.ref 3 0]),(16,.is 22 (I YM.g c.Measures)),(17,i64 (c.Measures.length:Int)),(18,i64 b)] [(4,.box (YM.g a)),(3,.box [.ref 1 0]),(2,.lst 111 3 false (I YV.g p)),(1,.box (ck c x3 (.own 2)))]))) (fun⟨e,s⟩=>?_) bC (0,r)) fun p=>?_;refine io ?_ rfl;refine bo rg fun f=>?_;refine bz lm ?_;refine bo (aL (S:=Int×(aA YV)) (enc:=fun⟨i,t⟩=>(Q [(0,.ref 1 0),(1,.fn 70 [] [.ref 3 0]),(4,i64 b),(6,i64 e),(16,.is 22 (I YM.g c.Measures)),(17,i64 (c.Measures.length:Int)),(18,i64 b),(24,.is 2 (I YW.g a.Cells)),(25,i64 (a.Cells.length:Int)),(26,i64 e),(32,.is 2 (I YO.g f.Voices)),(33,i64 (f.Voices.length:Int)),(34,i64 i)] [(5,.box (YW.g f)),(4,.box (YM.g a)),(3,.box [.ref 1 0]),(2,.lst 111 3 false (I YV.g t)),(1,.box (ck c x3 (.own 2)))])) (encE:=(fun(o:aA YV)=>(xq 4 [(0,.ref 1 0),(1,.fn 70 [] [.ref 3 0]),(4,i64 b),(16,.is 22 (I YM.g c.Measures)),(17,i64 (c.Measures.length:Int)),(18,i64 b),(24,.is 2 (I YW.g a.Cells)),(25,i64 (a.Cells.length:Int)),(26,i64 e)] [(5,.box (YW.g f)),(4,.box (YM.g a)),(3,.box [.ref 1 0]),(2,.lst 111 3 false (I YV.g o)),(1,.box (ck c x3 (.own 2)))]))) (fun⟨i,t⟩=>?_) bC (0,s)) fun o=>?_;refine io ?_ rfl;refine bo rg fun l=>?_;refine bz lm ?_;refine bo (aL (S:=Int×(aA YV)) (enc:=fun⟨j,h⟩=>(Q [(0,.ref 1 0),(1,.fn 70 [] [.ref 3 0]),(4,i64 b),(6,i64 e),(8,i64 i),(16,.is 22 (I YM.g c.Measures)),(17,i64 (c.Measures.length:Int)),(18,i64 b),(24,.is 2 (I YW.g a.Cells)),(25,i64 (a.Cells.length:Int)),(26,i64 e),(32,.is 2 (I YO.g f.Voices)),(33,i64 (f.Voices.length:Int)),(34,i64 i),(40,.is 13 (I YE.g l.Events)),(41,i64 (l.Events.length:Int)),(42,i64 j)] [(6,.box (YO.g l)),(5,.box (YW.g f)),(4,.box (YM.g a)),(3,.box [.ref 1 0]),(2,.lst 111 3 false (I YV.g h)),(1,.box (ck c x3 (.own 2)))])) (encE:=(fun(n:aA YV)=>(xq 6 [(0,.ref 1 0),(1,.fn 70 [] [.ref 3 0]),(4,i64 b),(6,i64 e),(16,.is 22 (I YM.g c.Measures)),(17,i64 (c.Measures.length:Int)),(18,i64 b),(24,.is 2 (I YW.g a.Cells)),(25,i64 (a.Cells.length:Int)),(26,i64 e),(32,.is 2 (I YO.g f.Voices)),(33,i64 (f.Voices.length:Int)),(34,i64 i)] [(6,.box (YO.g l)),(5,.box (YW.g f)),(4,.box (YM.g a)),(3,.box [.ref 1 0]),(2,.lst 111 3 false (I YV.g n)),(1,.box (ck c x3 (.own 2)))]))) (fun⟨j,h⟩=>?_) bC (0,t)) fun n=>?_;refine io ?_ rfl;refine bo rg fun m=>?_;refine bo (xU1 d (YP.mk 4 0 e b i j 0) m (YK.mk c x3 h)) fun u=>?_;refine bo (gH (d+8) u m.ID h c x3) fun w=>?_;rfl;rfl;rfl;rfl;rfl
def Uf (x1:aA YV) (a:Y0) (x3:Int):aB (aA YV):=
 (Dl x1 a x3).bind fun b=>some b
theorem nN1 {k} (d) (x1:aA YV) (a:Y0) (x3:Int):eJ (XD k (d+11)) 34 [.ref 1 0] [(2,.lst 111 3 false (I YV.g x1)),(1,.box (ck a x3 (.own 2)))] 3 false=(Uf x1 a x3).map (fun(b:aA YV)=>((.tup [],[(2,.lst 111 3 false (I YV.g b)),(1,.box (ck a x3 (.own 2)))],0))):=by
 rw[xd (fn:=p34) rfl];refine bo (bM1 d x1 a x3) fun c=>?_;rfl
def bN1 (x1:YB):aB Bool:=
 some x1.Tied
theorem nO1 {k} (d) (x1:YB):OD k (d+1) 127 [.agg (YB.g x1)]=(bN1 x1).map bv:=by
 refine oe rfl ?_;rfl
def Dm (x1:aA YB):aB Int:=
 (aU (E:=Int⊕Unit) (fun(a:Int)=>if decide (a<(x1.length:Int))then(aW x1 a).bind fun b=>(bN1 b).bind fun c=>if c then some (.inr (.inl a))else some (.inl (bE (a+1)))else some (.inr (.inr ()))) bC 0).bind fun d=>(match d with|.inl x7=>some x7|.inr _=>some (-1))
theorem bO1 {k} (d) (x1:aA YB):OD k (d+2) 125 [.is 5 (I YB.g x1),.fn 127 [] []]=(Dm x1).map i64:=by
 refine oe rfl ?_;refine bz lm ?_;refine bo (aL (S:=Int) (enc:=fun a=>(Q [(0,.is 5 (I YB.g x1)),(1,.fn 127 [] []),(7,i64 (x1.length:Int)),(8,i64 a)] [])) (encE:=(fun|.inl b=>(rq [(4,i64 b)] [])|.inr _=>(xq 0 [] []))) (fun a=>?_) bC 0) fun e=>?_;refine io ?_ rfl;refine bo rg fun c=>?_;refine bo (nO1 d c) fun f=>?_;refine io rfl rfl;rcases e with b|_;rfl;rfl
def Ma (x1:aA YB):aB Bool:=
 (Dm x1).bind fun a=>some (decide (a>=0))
theorem gX1 {k} (d) (x1:aA YB):OD k (d+3) 74 [.is 5 (I YB.g x1),.fn 127 [] []]=(Ma x1).map bv:=by
 refine oe rfl ?_;refine bo (bO1 d x1) fun a=>?_;rfl
def F79 (x1:YE):aB Bool:=
 ((if x1.Kind==1 then(Ma x1.Heads).bind fun a=>some a else some false:aB (Bool))).bind fun x3=>some x3
theorem nQ1 {k} (d) (x1:YE):OD k (d+4) 79 [.agg (YE.g x1)]=(F79 x1).map bv:=by
 refine oe rfl ?_;refine bo (e:=id) ?_ fun x3=>?_;refine io ?_ rfl;refine bo (gX1 d x1.Heads) fun a=>?_;rfl;rfl
def Dn (x1:Y0) (a x3 e:Int):aB (aA YE):=
 ((if((decide (a<0))||(decide (a>=(x1.Measures.length:Int))))||(decide (x3<0))then some true else(aW x1.Measures a).bind fun f=>some (decide (x3>=(f.Cells.length:Int))):aB (Bool))).bind fun g=>((if g||(decide (e<0))then some true else(aW x1.Measures a).bind fun h=>(aW h.Cells x3).bind fun i=>some (decide (e>=(i.Voices.length:Int))):aB (Bool))).bind fun j=>if j then some []else(aW x1.Measures a).bind fun b=>(aW b.Cells x3).bind fun c=>(aW c.Voices e).bind fun d=>some d.Events
theorem Mb {k} (d) (x1:Y0) (a x3 b:Int):OD k (d+1) 129 [.agg (Y0.g x1),i64 a,i64 x3,i64 b]=(Dn x1 a x3 b).map (fun i=>.is 13 (I YE.g i)):=by
 refine oe rfl ?_;refine bz (fR (bz lm rfl)) ?_;refine bz (fR rfl) ?_;refine bo (e:=id) ?_ fun l=>?_;refine io rfl ?_;refine bo rg fun j=>?_;refine bz lm ?_;rfl;refine bz (fR rfl) ?_;refine bo (e:=id) ?_ fun o=>?_;refine io rfl ?_;refine bo rg fun m=>?_;refine bo rg fun n=>?_;refine bz lm ?_;rfl;refine io rfl ?_;refine bo rg fun c=>?_;refine bo rg fun f=>?_;refine bo rg fun h=>?_;rfl
def Ug (x1:Y0) (a:YP):aB Int:=
 if a.Kind !=4 then some 11 else((if decide (a.Event<0)then some true else(Dn x1 a.Measure a.Staff a.Voice).bind fun x3=>some (decide (a.Event>=(x3.length:Int))):aB (Bool))).bind fun b=>if b then some 2 else some 0
theorem eP1 {k} (d) (x1:Y0) (a:YP):OD k (d+2) 128 [.agg (Y0.g x1),.agg (YP.g a)]=(Ug x1 a).map i64:=by
 refine oe rfl ?_;refine io rfl ?_;refine bo (e:=id) ?_ fun b=>?_;refine io rfl ?_;refine bo (Mb d x1 a.Measure a.Staff a.Voice) fun x3=>?_;refine bz lm ?_;rfl;refine io rfl rfl
def Uh (x1 a:Int) (x3 b:Int):aB YP:=
 some (YP.mk 4 0 a x1 x3 b 0)
theorem eQ1 {k} (d) (x1 a:Int) (x3 b:Int):OD k (d+1) 130 [i64 x1,i64 a,i64 x3,i64 b]=(Uh x1 a x3 b).map (fun c=>.agg (YP.g c)):=by
 refine oe rfl ?_;rfl
def F80 (x1:Y0) (a:YP):aB (YP×Bool):=
 (Ug x1 a).bind fun x3=>if x3 !=0 then some ((YP.mk 0 0 0 0 0 0 0),false)else(Dn x1 a.Measure a.Staff a.Voice).bind fun b=>if decide ((bE (a.Event+1))<(b.length:Int))then(Uh a.Measure a.Staff a.Voice (bE (a.Event+1))).bind fun c=>some (c,true)else(Dn x1 (bE (a.Measure+1)) a.Staff a.Voice).bind fun d=>if decide ((d.length:Int)>0)then(Uh (bE (a.Measure+1)) a.Staff a.Voice 0).bind fun e=>some (e,true)else some ((YP.mk 0 0 0 0 0 0 0),false)
theorem nS1 {k} (d) (x1:Y0) (a:YP):OD k (d+3) 80 [.agg (Y0.g x1),.agg (YP.g a)]=(F80 x1 a).map (fun⟨b,c⟩=>.tup [.agg (YP.g b),bv c]):=by
 refine oe rfl ?_;refine bo (eP1 d x1 a) fun x3=>?_;refine io rfl ?_;refine bo (Mb (d+1) x1 a.Measure a.Staff a.Voice) fun e=>?_;refine bz lm ?_;refine io ?_ ?_;refine bo (eQ1 (d+1) a.Measure a.Staff a.Voice (bE (a.Event+1))) fun f=>?_;rfl;refine bo (Mb (d+1) x1 (bE (a.Measure+1)) a.Staff a.Voice) fun h=>?_;refine bz lm ?_;refine io ?_ rfl;refine bo (eQ1 (d+1) (bE (a.Measure+1)) a.Staff a.Voice 0) fun i=>?_;rfl
def bP1 (x1:YE):aB YE:=
 (qJ x1.Heads).bind fun a=>(qJ x1.Graces).bind fun x3=>(qJ x1.Lyrics).bind fun b=>some (YE.mk x1.ID x1.Kind x1.Value a x3 x1.Articulations x1.Ornament x1.Dynamic b x1.Stem x1.Beam)
theorem nT1 {k} (d) (x1:YE):OD k (d+2) 131 [.agg (YE.g x1)]=(bP1 x1).map (fun a=>.agg (YE.g a)):=by
 refine oe rfl ?_;refine bo (qK 163 (d+1) 5 _ _ rfl rfl rfl) fun b=>?_;refine bo (qK 164 (d+1) 5 _ _ rfl rfl rfl) fun x3=>?_;refine bo (qK 165 (d+1) 2 _ _ rfl rfl rfl) fun c=>?_;rfl
def F81 (x1:Y0) (a:YP):aB (YE×Int):=
 (Ug x1 a).bind fun x3=>if x3 !=0 then some ((YE.mk (YZ.mk 0 0) 0 (YA.mk 0 0) [] [] 0 0 0 [] 0 0),x3)else(Dn x1 a.Measure a.Staff a.Voice).bind fun b=>(aW b a.Event).bind fun c=>(bP1 c).bind fun d=>some (d,0)
theorem xV1 {k} (d) (x1:Y0) (a:YP):OD k (d+3) 81 [.agg (Y0.g x1),.agg (YP.g a)]=(F81 x1 a).map (fun⟨c,e⟩=>.tup [.agg (YE.g c),i64 e]):=by
 refine oe rfl ?_;refine bo (eP1 d x1 a) fun x3=>?_;refine io rfl ?_;refine bo (Mb (d+1) x1 a.Measure a.Staff a.Voice) fun f=>?_;refine bo rg fun b=>?_;refine bo (nT1 d b) fun h=>?_;rfl
def bQ1 (x1 a:YB):aB Bool:=
 some (((x1.Pitch.Step==a.Pitch.Step)&&((x1.Pitch.Alter==a.Pitch.Alter)&&((x1.Pitch.Octave==a.Pitch.Octave)&&true)))!=false)
theorem nU1 {k} (d) (x1 a:YB):OD k (d+1) 132 [.agg (YB.g x1),.ip (YB.g a)]=(bQ1 x1 a).map bv:=by
 refine oe rfl ?_;rfl
def Dp (x1:aA YB) (b:YB):aB Int:=
 (aU (E:=Int⊕Unit) (fun(a:Int)=>if decide (a<(x1.length:Int))then(aW x1 a).bind fun c=>(bQ1 c b).bind fun d=>if d then some (.inr (.inl a))else some (.inl (bE (a+1)))else some (.inr (.inr ()))) bC 0).bind fun e=>(match e with|.inl x8=>some x8|.inr _=>some (-1))
theorem bR1 {k} (d) (x1:aA YB) (a:YB):OD k (d+2) 125 [.is 5 (I YB.g x1),.fn 132 [] [.ip (YB.g a)]]=(Dp x1 a).map i64:=by
 refine oe rfl ?_;refine bz lm ?_;refine bo (aL (S:=Int) (enc:=fun b=>(Q [(0,.is 5 (I YB.g x1)),(1,.fn 132 [] [.ip (YB.g a)]),(7,i64 (x1.length:Int)),(8,i64 b)] [])) (encE:=(fun|.inl c=>(rq [(4,i64 c)] [])|.inr _=>(xq 0 [] []))) (fun b=>?_) bC 0) fun f=>?_;refine io ?_ rfl;refine bo rg fun e=>?_;refine bo (nU1 d e a) fun h=>?_;refine io rfl rfl;rcases f with c|_;rfl;rfl
def Mc (x1:aA YB) (a:YB):aB Bool:=
 (Dp x1 a).bind fun x3=>some (decide (x3>=0))
theorem gY1 {k} (d) (x1:aA YB) (a:YB):OD k (d+3) 74 [.is 5 (I YB.g x1),.fn 132 [] [.ip (YB.g a)]]=(Mc x1 a).map bv:=by
 refine oe rfl ?_;refine bo (bR1 d x1 a) fun x3=>?_;rfl
def F82 (x1 e:YE):aB Bool:=
 if x1.Kind !=1 then some true else(aU (E:=Unit⊕Unit) (fun(d:Int)=>if decide (d<(x1.Heads.length:Int))then(aW x1.Heads d).bind fun f=>((if f.Tied then((if e.Kind==1 then(Mc e.Heads f).bind fun g=>some g else some false:aB (Bool))).bind fun a=>some (!a)else some false:aB (Bool))).bind fun b=>if b then some (.inr (.inl ()))else some (.inl (bE (d+1)))else some (.inr (.inr ()))) bC 0).bind fun c=>(match c with|.inl _=>some false|.inr _=>some true)
theorem xW1 {k} (d) (x1 a:YE):OD k (d+4) 82 [.agg (YE.g x1),.agg (YE.g a)]=(F82 x1 a).map bv:=by
 refine oe rfl ?_;refine io rfl ?_;refine bz lm ?_;refine bo (aL (S:=Int) (enc:=fun c=>(Q [(3,.ref 1 0),(11,.is 5 (I YB.g x1.Heads)),(12,i64 (x1.Heads.length:Int)),(13,i64 c)] [(1,.box (YE.g a)),(0,.box (YE.g x1))])) (encE:=(fun|.inl _=>(rq [(4,bv false)] [(1,.box (YE.g a)),(0,.box (YE.g x1))])|.inr _=>(xq 0 [] [(1,.box (YE.g a)),(0,.box (YE.g x1))]))) (fun c=>?_) bC 0) fun b=>?_;refine io ?_ rfl;refine bo rg fun i=>?_;refine bo (e:=id) ?_ fun h=>?_;refine io ?_ rfl;refine bo (e:=id) ?_ fun f=>?_;refine io ?_ rfl;refine bo (gY1 d a.Heads i) fun j=>?_;rfl;rfl;refine io rfl rfl;rcases b with _|_;rfl;rfl
def F78 (x1:YP) (b:YE) (x3:YK):aB Bool:=
 (F79 b).bind fun c=>if !c then some false else(F80 x3.s' x1).bind fun⟨d,e⟩=>(F81 x3.s' d).bind fun⟨f,h⟩=>((if !e then some true else(F82 b f).bind fun g=>some (!g):aB (Bool))).bind fun a=>some a
theorem xX1 {k} (d) (x1:YP) (a:YE) (x3:YK):OD k (d+5) 78 [.agg (YP.g x1),.agg (YE.g a),.ip [.ip (YK.g x3)]]=(F78 x1 a x3).map bv:=by
 refine oe rfl ?_;refine bo (nQ1 d a) fun h=>?_;refine io rfl ?_;refine bo (nS1 (d+1) x3.s' x1) fun⟨c,i⟩=>?_;refine bo (xV1 (d+1) x3.s' c) fun⟨f,j⟩=>?_;refine bo (e:=id) ?_ fun b=>?_;refine io rfl ?_;refine bo (xW1 d a f) fun l=>?_;rfl;rfl
def Dq (x1:aA YV) (s:Y0) (x3:Int):aB (aA YV):=
 (aU (E:=aA YV) (fun(⟨c,m⟩:Int×(aA YV))=>if decide (c<(s.Measures.length:Int))then(aW s.Measures c).bind fun n=>(aU (E:=aA YV) (fun(⟨d,o⟩:Int×(aA YV))=>if decide (d<(n.Cells.length:Int))then(aW n.Cells d).bind fun p=>(aU (E:=aA YV) (fun(⟨e,q⟩:Int×(aA YV))=>if decide (e<(p.Voices.length:Int))then(aW p.Voices e).bind fun r=>(aU (E:=aA YV) (fun(⟨a,b⟩:Int×(aA YV))=>if decide (a<(r.Events.length:Int))then(aW r.Events a).bind fun f=>(F78 (YP.mk 4 0 d c e a 0) f (YK.mk s x3 b)).bind fun g=>(iL g f.ID b s x3).bind fun h=>some (.inl ((bE (a+1)),h))else some (.inr b)) bC (0,q)).bind fun i=>some (.inl ((bE (e+1)),i))else some (.inr q)) bC (0,o)).bind fun j=>some (.inl ((bE (d+1)),j))else some (.inr o)) bC (0,m)).bind fun k=>some (.inl ((bE (c+1)),k))else some (.inr m)) bC (0,x1)).bind fun l=>some l
theorem bS1 {k} (d) (x1:aA YV) (c:Y0) (x3:Int):eJ (XD k (d+6)) 67 [.ref 1 0,.fn 78 [] [.ref 3 0]] [(3,.box [.ref 1 0]),(2,.lst 111 3 false (I YV.g x1)),(1,.box (ck c x3 (.own 2)))] 4 false=(Dq x1 c x3).map (fun(v:aA YV)=>((.tup [],[(3,.box [.ref 1 0]),(2,.lst 111 3 false (I YV.g v)),(1,.box (ck c x3 (.own 2)))],0))):=by
 rw[xd (fn:=p67) rfl];refine bz lm ?_;refine bo (aL (S:=Int×(aA YV)) (enc:=fun⟨b,r⟩=>(Q [(0,.ref 1 0),(1,.fn 78 [] [.ref 3 0]),(16,.is 22 (I YM.g c.Measures)),(17,i64 (c.Measures.length:Int)),(18,i64 b)] [(3,.box [.ref 1 0]),(2,.lst 111 3 false (I YV.g r)),(1,.box (ck c x3 (.own 2)))])) (encE:=(fun(q:aA YV)=>(xq 0 [] [(3,.box [.ref 1 0]),(2,.lst 111 3 false (I YV.g q)),(1,.box (ck c x3 (.own 2)))]))) (fun⟨b,r⟩=>?_) bC (0,x1)) fun q=>?_;refine io ?_ rfl;refine bo rg fun a=>?_;refine bz lm ?_;refine bo (aL (S:=Int×(aA YV)) (enc:=fun⟨e,s⟩=>(Q [(0,.ref 1 0),(1,.fn 78 [] [.ref 3 0]),(4,i64 b),(16,.is 22 (I YM.g c.Measures)),(17,i64 (c.Measures.length:Int)),(18,i64 b),(24,.is 2 (I YW.g a.Cells)),(25,i64 (a.Cells.length:Int)),(26,i64 e)] [(4,.box (YM.g a)),(3,.box [.ref 1 0]),(2,.lst 111 3 false (I YV.g s)),(1,.box (ck c x3 (.own 2)))])) (encE:=(fun(p:aA YV)=>(xq 2 [(0,.ref 1 0),(1,.fn 78 [] [.ref 3 0]),(16,.is 22 (I YM.g c.Measures)),(17,i64 (c.Measures.length:Int)),(18,i64 b)] [(4,.box (YM.g a)),(3,.box [.ref 1 0]),(2,.lst 111 3 false (I YV.g p)),(1,.box (ck c x3 (.own 2)))]))) (fun⟨e,s⟩=>?_) bC (0,r)) fun p=>?_;refine io ?_ rfl;refine bo rg fun f=>?_;refine bz lm ?_;refine bo (aL (S:=Int×(aA YV)) (enc:=fun⟨i,t⟩=>(Q [(0,.ref 1 0),(1,.fn 78 [] [.ref 3 0]),(4,i64 b),(6,i64 e),(16,.is 22 (I YM.g c.Measures)),(17,i64 (c.Measures.length:Int)),(18,i64 b),(24,.is 2 (I YW.g a.Cells)),(25,i64 (a.Cells.length:Int)),(26,i64 e),(32,.is 2 (I YO.g f.Voices)),(33,i64 (f.Voices.length:Int)),(34,i64 i)] [(5,.box (YW.g f)),(4,.box (YM.g a)),(3,.box [.ref 1 0]),(2,.lst 111 3 false (I YV.g t)),(1,.box (ck c x3 (.own 2)))])) (encE:=(fun(o:aA YV)=>(xq 4 [(0,.ref 1 0),(1,.fn 78 [] [.ref 3 0]),(4,i64 b),(16,.is 22 (I YM.g c.Measures)),(17,i64 (c.Measures.length:Int)),(18,i64 b),(24,.is 2 (I YW.g a.Cells)),(25,i64 (a.Cells.length:Int)),(26,i64 e)] [(5,.box (YW.g f)),(4,.box (YM.g a)),(3,.box [.ref 1 0]),(2,.lst 111 3 false (I YV.g o)),(1,.box (ck c x3 (.own 2)))]))) (fun⟨i,t⟩=>?_) bC (0,s)) fun o=>?_;refine io ?_ rfl;refine bo rg fun l=>?_;refine bz lm ?_;refine bo (aL (S:=Int×(aA YV)) (enc:=fun⟨j,h⟩=>(Q [(0,.ref 1 0),(1,.fn 78 [] [.ref 3 0]),(4,i64 b),(6,i64 e),(8,i64 i),(16,.is 22 (I YM.g c.Measures)),(17,i64 (c.Measures.length:Int)),(18,i64 b),(24,.is 2 (I YW.g a.Cells)),(25,i64 (a.Cells.length:Int)),(26,i64 e),(32,.is 2 (I YO.g f.Voices)),(33,i64 (f.Voices.length:Int)),(34,i64 i),(40,.is 13 (I YE.g l.Events)),(41,i64 (l.Events.length:Int)),(42,i64 j)] [(6,.box (YO.g l)),(5,.box (YW.g f)),(4,.box (YM.g a)),(3,.box [.ref 1 0]),(2,.lst 111 3 false (I YV.g h)),(1,.box (ck c x3 (.own 2)))])) (encE:=(fun(n:aA YV)=>(xq 6 [(0,.ref 1 0),(1,.fn 78 [] [.ref 3 0]),(4,i64 b),(6,i64 e),(16,.is 22 (I YM.g c.Measures)),(17,i64 (c.Measures.length:Int)),(18,i64 b),(24,.is 2 (I YW.g a.Cells)),(25,i64 (a.Cells.length:Int)),(26,i64 e),(32,.is 2 (I YO.g f.Voices)),(33,i64 (f.Voices.length:Int)),(34,i64 i)] [(6,.box (YO.g l)),(5,.box (YW.g f)),(4,.box (YM.g a)),(3,.box [.ref 1 0]),(2,.lst 111 3 false (I YV.g n)),(1,.box (ck c x3 (.own 2)))]))) (fun⟨j,h⟩=>?_) bC (0,t)) fun n=>?_;refine io ?_ rfl;refine bo rg fun m=>?_;refine bo (xX1 d (YP.mk 4 0 e b i j 0) m (YK.mk c x3 h)) fun u=>?_;refine bo (gH (d+4) u m.ID h c x3) fun w=>?_;rfl;rfl;rfl;rfl;rfl
def Ui (x1:aA YV) (a:Y0) (x3:Int):aB (aA YV):=
 (Dq x1 a x3).bind fun b=>some b
theorem nV1 {k} (d) (x1:aA YV) (a:Y0) (x3:Int):eJ (XD k (d+7)) 35 [.ref 1 0] [(2,.lst 111 3 false (I YV.g x1)),(1,.box (ck a x3 (.own 2)))] 3 false=(Ui x1 a x3).map (fun(b:aA YV)=>((.tup [],[(2,.lst 111 3 false (I YV.g b)),(1,.box (ck a x3 (.own 2)))],0))):=by
 rw[xd (fn:=p35) rfl];refine bo (bS1 d x1 a x3) fun c=>?_;rfl
def bT1 (x1:YE) (a:Int):aB Bool:=
 ((if decide (a>=(x1.Lyrics.length:Int))then some true else(aW x1.Lyrics a).bind fun x3=>some (((x3.Text==(⟨#[]⟩:ByteArray))&&((x3.Link==0)&&true))!=false):aB (Bool))).bind fun b=>some b
theorem nW1 {k} (d) (x1:YE) (a:Int):OD k (d+1) 133 [.agg (YE.g x1),i64 a]=(bT1 x1 a).map bv:=by
 refine oe rfl ?_;refine bz lm ?_;refine bo (e:=id) ?_ fun b=>?_;refine io rfl ?_;refine bo rg fun x3=>?_;rfl;rfl
def bU1 (x1 O x3:Int) (U:aA (YP×Bool)) (V:aA YV) (T:Y0) (W:Int):aB (aA (YP×Bool)):=
 (aU (E:=Int×Int×Int×Int×Int×YY×(aA (YP×Bool))) (fun(⟨e,n,o,p,q,r,s,t⟩:Int×Int×Int×Int×Int×Int×YY×(aA (YP×Bool)))=>if decide (e<(T.Measures.length:Int))then(aW T.Measures e).bind fun u=>((if decide (x1>=(u.Cells.length:Int))then some true else(aW u.Cells x1).bind fun P=>some (decide (O>=(P.Voices.length:Int))):aB (Bool))).bind fun R=>if R then some (.inl ((bE (e+1)),n,o,p,q,r,s,t))else(aW u.Cells x1).bind fun S=>(aW S.Voices O).bind fun N=>(aU (E:=Int×Int×Int×Int×Int×YY×(aA (YP×Bool))) (fun(⟨a,f,g,h,i,j,b,c⟩:Int×Int×Int×Int×Int×Int×YY×(aA (YP×Bool)))=>if decide (a<(N.Events.length:Int))then(aW N.Events a).bind fun k=>(bT1 k x3).bind fun v=>if v then some (.inl ((bE (a+1)),f,g,h,i,j,b,c))else(aW k.Lyrics x3).bind fun d=>((if(b.Link==1)&&(d.Text.toList==(⟨#[]⟩:ByteArray).toList)then some (jC c (YP.mk f 0 g h i j 0) true)else some c:aB (aA (YP×Bool)))).bind fun l=>((if((d.Text.toList==(⟨#[]⟩:ByteArray).toList)&&(d.Link==2))&&(b.Link !=2)then some (jC l (YP.mk 4 0 x1 e O a 0) true)else some l:aB (aA (YP×Bool)))).bind fun w=>some (.inl ((bE (a+1)),4,x1,e,O,a,d,w))else some (.inr (f,g,h,i,j,b,c))) bC (0,n,o,p,q,r,s,t)).bind fun⟨x,y,z,A,B,C,D⟩=>some (.inl ((bE (e+1)),x,y,z,A,B,C,D))else some (.inr (n,o,p,q,r,s,t))) bC (0,0,0,0,0,0,(YY.mk (⟨#[]⟩:ByteArray) 0),U)).bind fun⟨F,G,H,J,K,L,m⟩=>((if L.Link==1 then some (jC m (YP.mk F 0 G H J K 0) true)else some m:aB (aA (YP×Bool)))).bind fun M=>some M
theorem nX1 {k} (d) (x1 y x3:Int) (X:aA (YP×Bool)) (z:aA YV) (c:Y0) (A:Int):eJ (XD k (d+2)) 83 [.ref 1 0,i64 x1,i64 y,i64 x3,.map 3] [(3,.mp (I (bV (eA YP.g) bv) X)),(2,.lst 111 3 false (I YV.g z)),(1,.box (ck c A (.own 2)))] 4 false=(bU1 x1 y x3 X z c A).map (fun(W:aA (YP×Bool))=>((.tup [],[(3,.mp (I (bV (eA YP.g) bv) W)),(2,.lst 111 3 false (I YV.g z)),(1,.box (ck c A (.own 2)))],0))):=by
 rw[xd (fn:=p83) rfl];refine bz lm ?_;refine bo (aL (S:=Int×Int×Int×Int×Int×Int×YY×(aA (YP×Bool))) (enc:=fun⟨a,N,O,P,R,T,U,V⟩=>(Q [(1,i64 x1),(2,i64 y),(3,i64 x3),(4,.map 3),(10,.ref 4 0),(11,.ref 5 0),(22,.is 22 (I YM.g c.Measures)),(23,i64 (c.Measures.length:Int)),(24,i64 a)] [(5,.box [i64 N,i64 0,i64 O,i64 P,i64 R,i64 T,i64 0]),(4,.box (YY.g U)),(3,.mp (I (bV (eA YP.g) bv) V)),(2,.lst 111 3 false (I YV.g z)),(1,.box (ck c A (.own 2)))])) (encE:=(fun(⟨n,o,p,q,r,w,x⟩:Int×Int×Int×Int×Int×YY×(aA (YP×Bool)))=>(xq 0 [(4,.map 3),(10,.ref 4 0),(11,.ref 5 0)] [(5,.box [i64 n,i64 0,i64 o,i64 p,i64 q,i64 r,i64 0]),(4,.box (YY.g w)),(3,.mp (I (bV (eA YP.g) bv) x)),(2,.lst 111 3 false (I YV.g z)),(1,.box (ck c A (.own 2)))]))) (fun⟨a,N,O,P,R,T,U,V⟩=>?_) bC (0,0,0,0,0,0,(YY.mk (⟨#[]⟩:ByteArray) 0),X)) fun⟨n,o,p,q,r,w,x⟩=>?_;refine io ?_ rfl;refine bo rg fun B=>?_;refine bz lm ?_;refine bo (e:=id) ?_ fun a0=>?_;refine io rfl ?_;refine bo rg fun Z=>?_;refine bz lm ?_;rfl;refine io rfl ?_;refine bo rg fun b0=>?_;refine bo rg fun s=>?_;refine bz lm ?_;refine bo (aL (S:=Int×Int×Int×Int×Int×Int×YY×(aA (YP×Bool))) (enc:=fun⟨b,f,h,i,j,l,m,t⟩=>(Q [(1,i64 x1),(2,i64 y),(3,i64 x3),(4,.map 3),(10,.ref 4 0),(11,.ref 5 0),(12,i64 a),(22,.is 22 (I YM.g c.Measures)),(23,i64 (c.Measures.length:Int)),(24,i64 a),(54,.is 13 (I YE.g s.Events)),(55,i64 (s.Events.length:Int)),(56,i64 b)] [(6,.box (YM.g B)),(5,.box [i64 f,i64 0,i64 h,i64 i,i64 j,i64 l,i64 0]),(4,.box (YY.g m)),(3,.mp (I (bV (eA YP.g) bv) t)),(2,.lst 111 3 false (I YV.g z)),(1,.box (ck c A (.own 2)))])) (encE:=(fun(⟨E,F,G,H,J,K,L⟩:Int×Int×Int×Int×Int×YY×(aA (YP×Bool)))=>(xq 2 [(1,i64 x1),(2,i64 y),(3,i64 x3),(4,.map 3),(10,.ref 4 0),(11,.ref 5 0),(22,.is 22 (I YM.g c.Measures)),(23,i64 (c.Measures.length:Int)),(24,i64 a)] [(6,.box (YM.g B)),(5,.box [i64 E,i64 0,i64 F,i64 G,i64 H,i64 J,i64 0]),(4,.box (YY.g K)),(3,.mp (I (bV (eA YP.g) bv) L)),(2,.lst 111 3 false (I YV.g z)),(1,.box (ck c A (.own 2)))]))) (fun⟨b,f,h,i,j,l,m,t⟩=>?_) bC (0,N,O,P,R,T,U,V)) fun⟨E,F,G,H,J,K,L⟩=>?_;refine io ?_ rfl;refine bo rg fun u=>?_;refine bo (nW1 d u x3) fun Y=>?_;refine io rfl ?_;refine bo rg fun C=>?_;refine bz (eZ rfl) ?_;refine bo (e:=(fun(v:aA (YP×Bool))=>(nq [(1,i64 x1),(2,i64 y),(3,i64 x3),(4,.map 3),(10,.ref 4 0),(11,.ref 5 0),(12,i64 a),(16,.ref 8 0),(17,.ref 9 0),(22,.is 22 (I YM.g c.Measures)),(23,i64 (c.Measures.length:Int)),(24,i64 a),(54,.is 13 (I YE.g s.Events)),(55,i64 (s.Events.length:Int)),(56,i64 b)] [(9,.box (YY.g C)),(8,.box [i64 4,i64 0,i64 x1,i64 a,i64 y,i64 b,i64 0]),(7,.box (YE.g u)),(6,.box (YM.g B)),(5,.box [i64 f,i64 0,i64 h,i64 i,i64 j,i64 l,i64 0]),(4,.box (YY.g m)),(3,.mp (I (bV (eA YP.g) bv) v)),(2,.lst 111 3 false (I YV.g z)),(1,.box (ck c A (.own 2)))]))) ?_ fun v=>?_;refine io ?_ rfl;refine bz (gY gU bv t (YP.mk f 0 h i j l 0) true) ?_;rfl;refine bz (eZ rfl) ?_;refine bz (eZ rfl) ?_;refine bo (e:=(fun(D:aA (YP×Bool))=>(nq [(1,i64 x1),(2,i64 y),(3,i64 x3),(4,.map 3),(10,.ref 4 0),(11,.ref 5 0),(12,i64 a),(16,.ref 8 0),(17,.ref 9 0),(22,.is 22 (I YM.g c.Measures)),(23,i64 (c.Measures.length:Int)),(24,i64 a),(54,.is 13 (I YE.g s.Events)),(55,i64 (s.Events.length:Int)),(56,i64 b)] [(9,.box (YY.g C)),(8,.box [i64 4,i64 0,i64 x1,i64 a,i64 y,i64 b,i64 0]),(7,.box (YE.g u)),(6,.box (YM.g B)),(5,.box [i64 f,i64 0,i64 h,i64 i,i64 j,i64 l,i64 0]),(4,.box (YY.g m)),(3,.mp (I (bV (eA YP.g) bv) D)),(2,.lst 111 3 false (I YV.g z)),(1,.box (ck c A (.own 2)))]))) ?_ fun D=>?_;refine io ?_ rfl;refine bz (gY gU bv v (YP.mk 4 0 x1 a y b 0) true) ?_;rfl;rfl;rfl;refine bo (e:=(fun(M:aA (YP×Bool))=>(nq [] [(5,.box [i64 n,i64 0,i64 o,i64 p,i64 q,i64 r,i64 0]),(4,.box (YY.g w)),(3,.mp (I (bV (eA YP.g) bv) M)),(2,.lst 111 3 false (I YV.g z)),(1,.box (ck c A (.own 2)))]))) ?_ fun M=>?_;refine io ?_ rfl;refine bz (gY gU bv x (YP.mk n 0 o p q r 0) true) ?_;rfl;rfl
def F84 (x1:YP) (a:YE) (x3:aA (YP×Bool)):aB Bool:=
 some (fW x3 x1 false)
theorem xY1 {k} (d) (x1:YP) (a:YE) (x3:aA (YP×Bool)):OD k (d+1) 84 [.agg (YP.g x1),.agg (YE.g a),.ip [.im (I (bV (eA YP.g) bv) x3)]]=(F84 x1 a x3).map bv:=by
 refine oe rfl ?_;refine bz (iR gU bv x3 x1 false) ?_;rfl
def Dr (x1:aA (YP×Bool)) (s:aA YV) (x3:Y0) (t:Int):aB (aA YV):=
 (aU (E:=aA YV) (fun(⟨b,m⟩:Int×(aA YV))=>if decide (b<(x3.Measures.length:Int))then(aW x3.Measures b).bind fun n=>(aU (E:=aA YV) (fun(⟨c,o⟩:Int×(aA YV))=>if decide (c<(n.Cells.length:Int))then(aW n.Cells c).bind fun p=>(aU (E:=aA YV) (fun(⟨d,q⟩:Int×(aA YV))=>if decide (d<(p.Voices.length:Int))then(aW p.Voices d).bind fun r=>(aU (E:=aA YV) (fun(⟨a,e⟩:Int×(aA YV))=>if decide (a<(r.Events.length:Int))then(aW r.Events a).bind fun f=>(F84 (YP.mk 4 0 c b d a 0) f x1).bind fun g=>(iL g f.ID e x3 t).bind fun h=>some (.inl ((bE (a+1)),h))else some (.inr e)) bC (0,q)).bind fun i=>some (.inl ((bE (d+1)),i))else some (.inr q)) bC (0,o)).bind fun j=>some (.inl ((bE (c+1)),j))else some (.inr o)) bC (0,m)).bind fun k=>some (.inl ((bE (b+1)),k))else some (.inr m)) bC (0,s)).bind fun l=>some l
theorem bV1 {k} (d) (x1:aA (YP×Bool)) (w:aA YV) (x3:Y0) (h:Int):eJ (XD k (d+2)) 67 [.ref 1 0,.fn 84 [] [.ref 4 0]] [(4,.box [.map 3]),(3,.mp (I (bV (eA YP.g) bv) x1)),(2,.lst 111 3 false (I YV.g w)),(1,.box (ck x3 h (.own 2)))] 5 false=(Dr x1 w x3 h).map (fun(v:aA YV)=>((.tup [],[(4,.box [.map 3]),(3,.mp (I (bV (eA YP.g) bv) x1)),(2,.lst 111 3 false (I YV.g v)),(1,.box (ck x3 h (.own 2)))],0))):=by
 rw[xd (fn:=p67) rfl];refine bz lm ?_;refine bo (aL (S:=Int×(aA YV)) (enc:=fun⟨b,r⟩=>(Q [(0,.ref 1 0),(1,.fn 84 [] [.ref 4 0]),(16,.is 22 (I YM.g x3.Measures)),(17,i64 (x3.Measures.length:Int)),(18,i64 b)] [(4,.box [.map 3]),(3,.mp (I (bV (eA YP.g) bv) x1)),(2,.lst 111 3 false (I YV.g r)),(1,.box (ck x3 h (.own 2)))])) (encE:=(fun(q:aA YV)=>(xq 0 [] [(4,.box [.map 3]),(3,.mp (I (bV (eA YP.g) bv) x1)),(2,.lst 111 3 false (I YV.g q)),(1,.box (ck x3 h (.own 2)))]))) (fun⟨b,r⟩=>?_) bC (0,w)) fun q=>?_;refine io ?_ rfl;refine bo rg fun a=>?_;refine bz lm ?_;refine bo (aL (S:=Int×(aA YV)) (enc:=fun⟨c,s⟩=>(Q [(0,.ref 1 0),(1,.fn 84 [] [.ref 4 0]),(4,i64 b),(16,.is 22 (I YM.g x3.Measures)),(17,i64 (x3.Measures.length:Int)),(18,i64 b),(24,.is 2 (I YW.g a.Cells)),(25,i64 (a.Cells.length:Int)),(26,i64 c)] [(5,.box (YM.g a)),(4,.box [.map 3]),(3,.mp (I (bV (eA YP.g) bv) x1)),(2,.lst 111 3 false (I YV.g s)),(1,.box (ck x3 h (.own 2)))])) (encE:=(fun(p:aA YV)=>(xq 2 [(0,.ref 1 0),(1,.fn 84 [] [.ref 4 0]),(16,.is 22 (I YM.g x3.Measures)),(17,i64 (x3.Measures.length:Int)),(18,i64 b)] [(5,.box (YM.g a)),(4,.box [.map 3]),(3,.mp (I (bV (eA YP.g) bv) x1)),(2,.lst 111 3 false (I YV.g p)),(1,.box (ck x3 h (.own 2)))]))) (fun⟨c,s⟩=>?_) bC (0,r)) fun p=>?_;refine io ?_ rfl;refine bo rg fun e=>?_;refine bz lm ?_;refine bo (aL (S:=Int×(aA YV)) (enc:=fun⟨f,t⟩=>(Q [(0,.ref 1 0),(1,.fn 84 [] [.ref 4 0]),(4,i64 b),(6,i64 c),(16,.is 22 (I YM.g x3.Measures)),(17,i64 (x3.Measures.length:Int)),(18,i64 b),(24,.is 2 (I YW.g a.Cells)),(25,i64 (a.Cells.length:Int)),(26,i64 c),(32,.is 2 (I YO.g e.Voices)),(33,i64 (e.Voices.length:Int)),(34,i64 f)] [(6,.box (YW.g e)),(5,.box (YM.g a)),(4,.box [.map 3]),(3,.mp (I (bV (eA YP.g) bv) x1)),(2,.lst 111 3 false (I YV.g t)),(1,.box (ck x3 h (.own 2)))])) (encE:=(fun(o:aA YV)=>(xq 4 [(0,.ref 1 0),(1,.fn 84 [] [.ref 4 0]),(4,i64 b),(16,.is 22 (I YM.g x3.Measures)),(17,i64 (x3.Measures.length:Int)),(18,i64 b),(24,.is 2 (I YW.g a.Cells)),(25,i64 (a.Cells.length:Int)),(26,i64 c)] [(6,.box (YW.g e)),(5,.box (YM.g a)),(4,.box [.map 3]),(3,.mp (I (bV (eA YP.g) bv) x1)),(2,.lst 111 3 false (I YV.g o)),(1,.box (ck x3 h (.own 2)))]))) (fun⟨f,t⟩=>?_) bC (0,s)) fun o=>?_;refine io ?_ rfl;refine bo rg fun l=>?_;refine bz lm ?_;refine bo (aL (S:=Int×(aA YV)) (enc:=fun⟨i,j⟩=>(Q [(0,.ref 1 0),(1,.fn 84 [] [.ref 4 0]),(4,i64 b),(6,i64 c),(8,i64 f),(16,.is 22 (I YM.g x3.Measures)),(17,i64 (x3.Measures.length:Int)),(18,i64 b),(24,.is 2 (I YW.g a.Cells)),(25,i64 (a.Cells.length:Int)),(26,i64 c),(32,.is 2 (I YO.g e.Voices)),(33,i64 (e.Voices.length:Int)),(34,i64 f),(40,.is 13 (I YE.g l.Events)),(41,i64 (l.Events.length:Int)),(42,i64 i)] [(7,.box (YO.g l)),(6,.box (YW.g e)),(5,.box (YM.g a)),(4,.box [.map 3]),(3,.mp (I (bV (eA YP.g) bv) x1)),(2,.lst 111 3 false (I YV.g j)),(1,.box (ck x3 h (.own 2)))])) (encE:=(fun(n:aA YV)=>(xq 6 [(0,.ref 1 0),(1,.fn 84 [] [.ref 4 0]),(4,i64 b),(6,i64 c),(16,.is 22 (I YM.g x3.Measures)),(17,i64 (x3.Measures.length:Int)),(18,i64 b),(24,.is 2 (I YW.g a.Cells)),(25,i64 (a.Cells.length:Int)),(26,i64 c),(32,.is 2 (I YO.g e.Voices)),(33,i64 (e.Voices.length:Int)),(34,i64 f)] [(7,.box (YO.g l)),(6,.box (YW.g e)),(5,.box (YM.g a)),(4,.box [.map 3]),(3,.mp (I (bV (eA YP.g) bv) x1)),(2,.lst 111 3 false (I YV.g n)),(1,.box (ck x3 h (.own 2)))]))) (fun⟨i,j⟩=>?_) bC (0,t)) fun n=>?_;refine io ?_ rfl;refine bo rg fun m=>?_;refine bo (xY1 d (YP.mk 4 0 c b f i 0) m x1) fun u=>?_;refine bo (gH d u m.ID j x3 h) fun x=>?_;rfl;rfl;rfl;rfl;rfl
def Uj (x1:aA YV) (g:Y0) (x3:Int):aB (aA YV):=
 (F56 g).bind fun m=>(aU (E:=aA (YP×Bool)) (fun(⟨a,d⟩:Int×(aA (YP×Bool)))=>if decide (a<m)then(aU (E:=aA (YP×Bool)) (fun(⟨b,e⟩:Int×(aA (YP×Bool)))=>if decide (b<2)then(aU (E:=aA (YP×Bool)) (fun(⟨c,f⟩:Int×(aA (YP×Bool)))=>if decide (c<4)then(bU1 a b c f x1 g x3).bind fun h=>some (.inl ((bE (c+1)),h))else some (.inr f)) bC (0,e)).bind fun i=>some (.inl ((bE (b+1)),i))else some (.inr e)) bC (0,d)).bind fun j=>some (.inl ((bE (a+1)),j))else some (.inr d)) bC (0,[])).bind fun k=>(Dr k x1 g x3).bind fun l=>some l
theorem nY1 {k} (d) (x1:aA YV) (c:Y0) (x3:Int):eJ (XD k (d+3)) 36 [.ref 1 0] [(2,.lst 111 3 false (I YV.g x1)),(1,.box (ck c x3 (.own 2)))] 3 false=(Uj x1 c x3).map (fun(o:aA YV)=>((.tup [],[(2,.lst 111 3 false (I YV.g o)),(1,.box (ck c x3 (.own 2)))],0))):=by
 rw[xd (fn:=p36) rfl];refine bo (kZ1 (d+1) c) fun n=>?_;refine bo (aL (S:=Int×(aA (YP×Bool))) (enc:=fun⟨a,e⟩=>(Q [(0,.ref 1 0),(2,.ref 4 0),(13,i64 n),(14,i64 a)] [(4,.box [.map 3]),(3,.mp (I (bV (eA YP.g) bv) e)),(2,.lst 111 3 false (I YV.g x1)),(1,.box (ck c x3 (.own 2)))])) (encE:=(fun(j:aA (YP×Bool))=>(xq 0 [(0,.ref 1 0),(2,.ref 4 0)] [(4,.box [.map 3]),(3,.mp (I (bV (eA YP.g) bv) j)),(2,.lst 111 3 false (I YV.g x1)),(1,.box (ck c x3 (.own 2)))]))) (fun⟨a,e⟩=>?_) bC (0,[])) fun j=>?_;refine io ?_ rfl;refine bo (aL (S:=Int×(aA (YP×Bool))) (enc:=fun⟨b,f⟩=>(Q [(0,.ref 1 0),(2,.ref 4 0),(4,i64 a),(13,i64 n),(14,i64 a),(17,i64 b)] [(4,.box [.map 3]),(3,.mp (I (bV (eA YP.g) bv) f)),(2,.lst 111 3 false (I YV.g x1)),(1,.box (ck c x3 (.own 2)))])) (encE:=(fun(m:aA (YP×Bool))=>(xq 2 [(0,.ref 1 0),(2,.ref 4 0),(13,i64 n),(14,i64 a)] [(4,.box [.map 3]),(3,.mp (I (bV (eA YP.g) bv) m)),(2,.lst 111 3 false (I YV.g x1)),(1,.box (ck c x3 (.own 2)))]))) (fun⟨b,f⟩=>?_) bC (0,e)) fun m=>?_;refine io ?_ rfl;refine bo (aL (S:=Int×(aA (YP×Bool))) (enc:=fun⟨h,i⟩=>(Q [(0,.ref 1 0),(2,.ref 4 0),(4,i64 a),(5,i64 b),(13,i64 n),(14,i64 a),(17,i64 b),(20,i64 h)] [(4,.box [.map 3]),(3,.mp (I (bV (eA YP.g) bv) i)),(2,.lst 111 3 false (I YV.g x1)),(1,.box (ck c x3 (.own 2)))])) (encE:=(fun(l:aA (YP×Bool))=>(xq 4 [(0,.ref 1 0),(2,.ref 4 0),(4,i64 a),(13,i64 n),(14,i64 a),(17,i64 b)] [(4,.box [.map 3]),(3,.mp (I (bV (eA YP.g) bv) l)),(2,.lst 111 3 false (I YV.g x1)),(1,.box (ck c x3 (.own 2)))]))) (fun⟨h,i⟩=>?_) bC (0,f)) fun l=>?_;refine io ?_ rfl;refine bo (nX1 d a b h i x1 c x3) fun p=>?_;rfl;rfl;rfl;refine bo (bV1 d j x1 c x3) fun q=>?_;rfl
def vW (x1:Y0):aB Unit:=
 some ()
theorem Uk {k} (d) (x1:Y0):eJ (XD k (d+1)) 102 [.ref 0 0] [(0,.box (Y0.g x1))] 4 true=(vW x1).map (fun(_:Unit)=>((.fn 146 [] [.ref 4 0],[(4,.box [.ref 0 0]),(0,.box (Y0.g x1))],5))):=by
 rw[xd (fn:=gQ1) rfl];rfl
def sI (x1 d:Int) (x3 e:Int) (f g h:Int) (b:YJ) (i:Bool) (c:YP) (a:YZ):aB (Unit⊕Unit):=
 if((b.ID.Site==a.Site)&&((b.ID.Number==a.Number)&&true))!=false then some (.inl ())else some (.inr ())
theorem Ox {k} (d) (x1 c:Int) (x3 e:Int) (f h i:Int) (l:YJ) (j:Bool) (b:YP) (a:YZ):tG (XD k (d+1)) 5 [.agg [i64 x1,i64 c,i64 x3,i64 e,i64 f,i64 h,i64 i],.ip (YJ.g l)] [(5,.loop 22 [(3,.ref 1 0),(4,.ref 2 0),(5,.ref 3 0)] [13,14] bL bM false none),(3,.box [bv j]),(2,.box (YP.g b)),(1,.box (YZ.g a))] 6=(sI x1 c x3 e f h i l j b a).map (fun|.inl _=>((bv false,[(5,.loop 22 [(3,.ref 1 0),(4,.ref 2 0),(5,.ref 3 0)] [13,14] bL bM false (some .ret)),(3,.box [bv true]),(2,.box [i64 x1,i64 c,i64 x3,i64 e,i64 f,i64 h,i64 i]),(1,.box (YZ.g a))],0))|.inr _=>((bv true,[(5,.loop 22 [(3,.ref 1 0),(4,.ref 2 0),(5,.ref 3 0)] [13,14] bL bM false none),(3,.box [bv j]),(2,.box (YP.g b)),(1,.box (YZ.g a))],0))):=by
 rw[yd];refine bz (Po kL) ?_;refine io rfl rfl
def mV (x1 d:Int) (x3 e:Int) (f g h:Int) (b:YF) (i:Bool) (c:YP) (a:YZ):aB (Unit⊕Unit):=
 if((b.ID.Site==a.Site)&&((b.ID.Number==a.Number)&&true))!=false then some (.inl ())else some (.inr ())
theorem Gu {k} (d) (x1 c:Int) (x3 e:Int) (f h i:Int) (l:YF) (j:Bool) (b:YP) (a:YZ):tG (XD k (d+1)) 5 [.agg [i64 x1,i64 c,i64 x3,i64 e,i64 f,i64 h,i64 i],.ip (YF.g l)] [(5,.loop 22 [(3,.ref 1 0),(4,.ref 2 0),(5,.ref 3 0)] [13,14] bL bM false none),(3,.box [bv j]),(2,.box (YP.g b)),(1,.box (YZ.g a))] 6=(mV x1 c x3 e f h i l j b a).map (fun|.inl _=>((bv false,[(5,.loop 22 [(3,.ref 1 0),(4,.ref 2 0),(5,.ref 3 0)] [13,14] bL bM false (some .ret)),(3,.box [bv true]),(2,.box [i64 x1,i64 c,i64 x3,i64 e,i64 f,i64 h,i64 i]),(1,.box (YZ.g a))],0))|.inr _=>((bv true,[(5,.loop 22 [(3,.ref 1 0),(4,.ref 2 0),(5,.ref 3 0)] [13,14] bL bM false none),(3,.box [bv j]),(2,.box (YP.g b)),(1,.box (YZ.g a))],0))):=by
 rw[yd];refine bz (Po kL) ?_;refine io rfl rfl
def mW (x1 d:Int) (x3 e:Int) (f g h:Int) (b:YM) (i:Bool) (c:YP) (a:YZ):aB (Unit⊕Unit):=
 if((b.ID.Site==a.Site)&&((b.ID.Number==a.Number)&&true))!=false then some (.inl ())else some (.inr ())
theorem Gv {k} (d) (x1 c:Int) (x3 e:Int) (f h i:Int) (l:YM) (j:Bool) (b:YP) (a:YZ):tG (XD k (d+1)) 5 [.agg [i64 x1,i64 c,i64 x3,i64 e,i64 f,i64 h,i64 i],.ip (YM.g l)] [(5,.loop 22 [(3,.ref 1 0),(4,.ref 2 0),(5,.ref 3 0)] [13,14] bL bM false none),(3,.box [bv j]),(2,.box (YP.g b)),(1,.box (YZ.g a))] 6=(mW x1 c x3 e f h i l j b a).map (fun|.inl _=>((bv false,[(5,.loop 22 [(3,.ref 1 0),(4,.ref 2 0),(5,.ref 3 0)] [13,14] bL bM false (some .ret)),(3,.box [bv true]),(2,.box [i64 x1,i64 c,i64 x3,i64 e,i64 f,i64 h,i64 i]),(1,.box (YZ.g a))],0))|.inr _=>((bv true,[(5,.loop 22 [(3,.ref 1 0),(4,.ref 2 0),(5,.ref 3 0)] [13,14] bL bM false none),(3,.box [bv j]),(2,.box (YP.g b)),(1,.box (YZ.g a))],0))):=by
 rw[yd];refine bz (Po kL) ?_;refine io rfl rfl
def mX (x1 d:Int) (x3 e:Int) (f g h:Int) (b:YE) (i:Bool) (c:YP) (a:YZ):aB (Unit⊕Unit):=
 if((b.ID.Site==a.Site)&&((b.ID.Number==a.Number)&&true))!=false then some (.inl ())else some (.inr ())
theorem Gw {k} (d) (x1 c:Int) (x3 e:Int) (f h i:Int) (l:YE) (j:Bool) (b:YP) (a:YZ):tG (XD k (d+1)) 5 [.agg [i64 x1,i64 c,i64 x3,i64 e,i64 f,i64 h,i64 i],.ip (YE.g l)] [(5,.loop 22 [(3,.ref 1 0),(4,.ref 2 0),(5,.ref 3 0)] [13,14] bL bM false none),(3,.box [bv j]),(2,.box (YP.g b)),(1,.box (YZ.g a))] 6=(mX x1 c x3 e f h i l j b a).map (fun|.inl _=>((bv false,[(5,.loop 22 [(3,.ref 1 0),(4,.ref 2 0),(5,.ref 3 0)] [13,14] bL bM false (some .ret)),(3,.box [bv true]),(2,.box [i64 x1,i64 c,i64 x3,i64 e,i64 f,i64 h,i64 i]),(1,.box (YZ.g a))],0))|.inr _=>((bv true,[(5,.loop 22 [(3,.ref 1 0),(4,.ref 2 0),(5,.ref 3 0)] [13,14] bL bM false none),(3,.box [bv j]),(2,.box (YP.g b)),(1,.box (YZ.g a))],0))):=by
 rw[yd];refine bz (Po kL) ?_;refine io rfl rfl
def mY (x1 d:Int) (x3 e:Int) (f g h:Int) (b:YN) (i:Bool) (c:YP) (a:YZ):aB (Unit⊕Unit):=
 if((b.ID.Site==a.Site)&&((b.ID.Number==a.Number)&&true))!=false then some (.inl ())else some (.inr ())
theorem Gx {k} (d) (x1 c:Int) (x3 e:Int) (f h i:Int) (l:YN) (j:Bool) (b:YP) (a:YZ):tG (XD k (d+1)) 5 [.agg [i64 x1,i64 c,i64 x3,i64 e,i64 f,i64 h,i64 i],.ip (YN.g l)] [(5,.loop 22 [(3,.ref 1 0),(4,.ref 2 0),(5,.ref 3 0)] [13,14] bL bM false none),(3,.box [bv j]),(2,.box (YP.g b)),(1,.box (YZ.g a))] 6=(mY x1 c x3 e f h i l j b a).map (fun|.inl _=>((bv false,[(5,.loop 22 [(3,.ref 1 0),(4,.ref 2 0),(5,.ref 3 0)] [13,14] bL bM false (some .ret)),(3,.box [bv true]),(2,.box [i64 x1,i64 c,i64 x3,i64 e,i64 f,i64 h,i64 i]),(1,.box (YZ.g a))],0))|.inr _=>((bv true,[(5,.loop 22 [(3,.ref 1 0),(4,.ref 2 0),(5,.ref 3 0)] [13,14] bL bM false none),(3,.box [bv j]),(2,.box (YP.g b)),(1,.box (YZ.g a))],0))):=by
 rw[yd];refine bz (Po kL) ?_;refine io rfl rfl
def vX (x1:Y0) (u:Bool) (x3:YP) (D:YZ):aB (YP⊕Unit):=
 (aU (E:=(Int×Int×Int)⊕Unit) (fun(⟨F,f⟩:Int×Int)=>if decide (f<(x1.Parts.length:Int))then(aW x1.Parts f).bind fun G=>(sI 1 f 0 0 0 0 0 G u x3 D).bind fun H=>(match H with|.inl _=>some (.inr (.inl (1,f,0)))|.inr _=>(aW x1.Parts f).bind fun J=>(aU (E:=(Int×Int)⊕Int) (fun(⟨g,h⟩:Int×Int)=>if decide (h<(J.Staves.length:Int))then(aW x1.Parts f).bind fun K=>(aW K.Staves h).bind fun L=>(mV 2 0 g 0 0 0 0 L u x3 D).bind fun M=>(match M with|.inl _=>some (.inr (.inl (g,g)))|.inr _=>some (.inl ((bE (g+1)),(bE (h+1)))))else some (.inr (.inr g))) bC (F,0)).bind fun N=>(match N with|.inl ⟨x33,x34⟩=>some (.inr (.inl (2,0,x34)))|.inr x35=>some (.inl (x35,(bE (f+1))))))else some (.inr (.inr ()))) bC (0,0)).bind fun O=>(match O with|.inl ⟨x37,x38,x39⟩=>some (.inl (YP.mk x37 x38 x39 0 0 0 0))|.inr _=>(aU (E:=(Int×Int×Int×Int×Int)⊕Unit) (fun(a:Int)=>if decide (a<(x1.Measures.length:Int))then(aW x1.Measures a).bind fun i=>(mW 3 0 0 a 0 0 0 i u x3 D).bind fun j=>(match j with|.inl _=>some (.inr (.inl (3,0,a,0,0)))|.inr _=>(aW x1.Measures a).bind fun k=>(aU (E:=(Int×Int×Int)⊕Unit) (fun(b:Int)=>if decide (b<(k.Cells.length:Int))then(aW x1.Measures a).bind fun l=>(aW l.Cells b).bind fun m=>(aU (E:=(Int×Int)⊕Unit) (fun(c:Int)=>if decide (c<(m.Voices.length:Int))then(aW x1.Measures a).bind fun n=>(aW n.Cells b).bind fun o=>(aW o.Voices c).bind fun p=>(aU (E:=Int⊕Unit) (fun(d:Int)=>if decide (d<(p.Events.length:Int))then(aW x1.Measures a).bind fun q=>(aW q.Cells b).bind fun r=>(aW r.Voices c).bind fun s=>(aW s.Events d).bind fun t=>(mX 4 0 b a c d 0 t u x3 D).bind fun v=>(match v with|.inl _=>some (.inr (.inl d))|.inr _=>some (.inl (bE (d+1))))else some (.inr (.inr ()))) bC 0).bind fun w=>(match w with|.inl x201=>some (.inr (.inl (c,x201)))|.inr _=>some (.inl (bE (c+1))))else some (.inr (.inr ()))) bC 0).bind fun x=>(match x with|.inl ⟨x203,x204⟩=>some (.inr (.inl (b,x203,x204)))|.inr _=>some (.inl (bE (b+1))))else some (.inr (.inr ()))) bC 0).bind fun y=>(match y with|.inl ⟨x206,x207,x208⟩=>some (.inr (.inl (4,x206,a,x207,x208)))|.inr _=>some (.inl (bE (a+1)))))else some (.inr (.inr ()))) bC 0).bind fun z=>(match z with|.inl ⟨x210,x211,x212,x213,x214⟩=>some (.inl (YP.mk x210 0 x211 x212 x213 x214 0))|.inr _=>(aU (E:=Int⊕Unit) (fun(e:Int)=>if decide (e<(x1.Spanners.length:Int))then(aW x1.Spanners e).bind fun A=>(mY 5 0 0 0 0 0 e A u x3 D).bind fun B=>(match B with|.inl _=>some (.inr (.inl e))|.inr _=>some (.inl (bE (e+1))))else some (.inr (.inr ()))) bC 0).bind fun C=>(match C with|.inl x221=>some (.inl (YP.mk 5 0 0 0 0 0 x221))|.inr _=>some (.inr ()))))
theorem Ul {k} (d) (x1:Y0) (h:Bool) (x3:YP) (c:YZ):eJ (XD k (d+2)) 146 [.yld 5,.ref 4 0] [(5,.loop 22 [(3,.ref 1 0),(4,.ref 2 0),(5,.ref 3 0)] [13,14] bL bM false none),(4,.box [.ref 0 0]),(0,.box (Y0.g x1)),(3,.box [bv h]),(2,.box (YP.g x3)),(1,.box (YZ.g c))] 6 false=(vX x1 h x3 c).map (fun|.inl x223=>((.tup [],[(5,.loop 22 [(3,.ref 1 0),(4,.ref 2 0),(5,.ref 3 0)] [13,14] bL bM false (some .ret)),(4,.box [.ref 0 0]),(0,.box (Y0.g x1)),(3,.box [bv true]),(2,.box (YP.g x223)),(1,.box (YZ.g c))],0))|.inr _=>((.tup [],[(5,.loop 22 [(3,.ref 1 0),(4,.ref 2 0),(5,.ref 3 0)] [13,14] bL bM false none),(4,.box [.ref 0 0]),(0,.box (Y0.g x1)),(3,.box [bv h]),(2,.box (YP.g x3)),(1,.box (YZ.g c))],0))):=by
 rw[xd (fn:=gR1) rfl];refine bz lm ?_;refine bo (aL (S:=Int×Int) (enc:=fun⟨z,i⟩=>(Q [(0,.yld 5),(1,.ref 4 0),(3,i64 z),(15,i64 (x1.Parts.length:Int)),(16,i64 i)] [(5,.loop 22 [(3,.ref 1 0),(4,.ref 2 0),(5,.ref 3 0)] [13,14] bL bM false none),(4,.box [.ref 0 0]),(0,.box (Y0.g x1)),(3,.box [bv h]),(2,.box (YP.g x3)),(1,.box (YZ.g c))])) (encE:=(fun|.inl ⟨T,U,V⟩=>(rq [(0,.yld 5),(1,.ref 4 0)] [(5,.loop 22 [(3,.ref 1 0),(4,.ref 2 0),(5,.ref 3 0)] [13,14] bL bM false (some .ret)),(4,.box [.ref 0 0]),(0,.box (Y0.g x1)),(3,.box [bv true]),(2,.box [i64 T,i64 U,i64 V,i64 0,i64 0,i64 0,i64 0]),(1,.box (YZ.g c))])|.inr _=>(xq 0 [(0,.yld 5),(1,.ref 4 0)] [(5,.loop 22 [(3,.ref 1 0),(4,.ref 2 0),(5,.ref 3 0)] [13,14] bL bM false none),(4,.box [.ref 0 0]),(0,.box (Y0.g x1)),(3,.box [bv h]),(2,.box (YP.g x3)),(1,.box (YZ.g c))]))) (fun⟨z,i⟩=>?_) bC (0,0)) fun b4=>?_;refine io ?_ rfl;refine bo rg fun W=>?_;refine bo (Ox d 1 i 0 0 0 0 0 W h x3 c) fun X=>?_;rcases X with _|_;rfl;refine bo rg fun Y=>?_;refine bz lm ?_;refine bo (aL (S:=Int×Int) (enc:=fun⟨A,O⟩=>(Q [(0,.yld 5),(1,.ref 4 0),(3,i64 A),(4,i64 i),(15,i64 (x1.Parts.length:Int)),(16,i64 i),(39,i64 (Y.Staves.length:Int)),(40,i64 O)] [(5,.loop 22 [(3,.ref 1 0),(4,.ref 2 0),(5,.ref 3 0)] [13,14] bL bM false none),(3,.box [bv h]),(2,.box (YP.g x3)),(1,.box (YZ.g c)),(4,.box [.ref 0 0]),(0,.box (Y0.g x1))])) (encE:=(fun|.inl ⟨P,R⟩=>(rq [(0,.yld 5),(1,.ref 4 0),(3,i64 P),(15,i64 (x1.Parts.length:Int)),(16,i64 i)] [(5,.loop 22 [(3,.ref 1 0),(4,.ref 2 0),(5,.ref 3 0)] [13,14] bL bM false (some .ret)),(3,.box [bv true]),(2,.box [i64 2,i64 0,i64 R,i64 0,i64 0,i64 0,i64 0]),(1,.box (YZ.g c)),(4,.box [.ref 0 0]),(0,.box (Y0.g x1))])|.inr x35=>(xq 2 [(0,.yld 5),(1,.ref 4 0),(3,i64 x35),(15,i64 (x1.Parts.length:Int)),(16,i64 i)] [(5,.loop 22 [(3,.ref 1 0),(4,.ref 2 0),(5,.ref 3 0)] [13,14] bL bM false none),(3,.box [bv h]),(2,.box (YP.g x3)),(1,.box (YZ.g c)),(4,.box [.ref 0 0]),(0,.box (Y0.g x1))]))) (fun⟨A,O⟩=>?_) bC (z,0)) fun b0=>?_;refine io ?_ rfl;refine bo rg fun d1=>?_;refine bo rg fun Z=>?_;refine bo (Gu d 2 0 A 0 0 0 0 Z h x3 c) fun a0=>?_;rcases a0 with _|_;rfl;rfl;rcases b0 with⟨P,R⟩|x35;rfl;rfl;rcases b4 with⟨T,U,V⟩|_;rfl;refine bz lm ?_;refine bo (aL (S:=Int) (enc:=fun a=>(Q [(0,.yld 5),(1,.ref 4 0),(67,i64 (x1.Measures.length:Int)),(68,i64 a)] [(5,.loop 22 [(3,.ref 1 0),(4,.ref 2 0),(5,.ref 3 0)] [13,14] bL bM false none),(4,.box [.ref 0 0]),(0,.box (Y0.g x1)),(3,.box [bv h]),(2,.box (YP.g x3)),(1,.box (YZ.g c))])) (encE:=(fun|.inl ⟨t,u,v,w,x⟩=>(rq [(0,.yld 5),(1,.ref 4 0)] [(5,.loop 22 [(3,.ref 1 0),(4,.ref 2 0),(5,.ref 3 0)] [13,14] bL bM false (some .ret)),(4,.box [.ref 0 0]),(0,.box (Y0.g x1)),(3,.box [bv true]),(2,.box [i64 t,i64 0,i64 u,i64 v,i64 w,i64 x,i64 0]),(1,.box (YZ.g c))])|.inr _=>(xq 4 [(0,.yld 5),(1,.ref 4 0)] [(5,.loop 22 [(3,.ref 1 0),(4,.ref 2 0),(5,.ref 3 0)] [13,14] bL bM false none),(4,.box [.ref 0 0]),(0,.box (Y0.g x1)),(3,.box [bv h]),(2,.box (YP.g x3)),(1,.box (YZ.g c))]))) (fun a=>?_) bC 0) fun K=>?_;refine io ?_ rfl;refine bo rg fun B=>?_;refine bo (Gv d 3 0 0 a 0 0 0 B h x3 c) fun C=>?_;rcases C with _|_;rfl;refine bo rg fun f=>?_;refine bz lm ?_;refine bo (aL (S:=Int) (enc:=fun b=>(Q [(0,.yld 5),(1,.ref 4 0),(6,i64 a),(67,i64 (x1.Measures.length:Int)),(68,i64 a),(91,i64 (f.Cells.length:Int)),(92,i64 b)] [(5,.loop 22 [(3,.ref 1 0),(4,.ref 2 0),(5,.ref 3 0)] [13,14] bL bM false none),(3,.box [bv h]),(2,.box (YP.g x3)),(1,.box (YZ.g c)),(4,.box [.ref 0 0]),(0,.box (Y0.g x1))])) (encE:=(fun|.inl ⟨q,r,s⟩=>(rq [(0,.yld 5),(1,.ref 4 0),(67,i64 (x1.Measures.length:Int)),(68,i64 a)] [(5,.loop 22 [(3,.ref 1 0),(4,.ref 2 0),(5,.ref 3 0)] [13,14] bL bM false (some .ret)),(3,.box [bv true]),(2,.box [i64 4,i64 0,i64 q,i64 a,i64 r,i64 s,i64 0]),(1,.box (YZ.g c)),(4,.box [.ref 0 0]),(0,.box (Y0.g x1))])|.inr _=>(xq 6 [(0,.yld 5),(1,.ref 4 0),(67,i64 (x1.Measures.length:Int)),(68,i64 a)] [(5,.loop 22 [(3,.ref 1 0),(4,.ref 2 0),(5,.ref 3 0)] [13,14] bL bM false none),(3,.box [bv h]),(2,.box (YP.g x3)),(1,.box (YZ.g c)),(4,.box [.ref 0 0]),(0,.box (Y0.g x1))]))) (fun b=>?_) bC 0) fun J=>?_;refine io ?_ rfl;refine bo rg fun b5=>?_;refine bo rg fun j=>?_;refine bz lm ?_;refine bo (aL (S:=Int) (enc:=fun e=>(Q [(0,.yld 5),(1,.ref 4 0),(6,i64 a),(7,i64 b),(67,i64 (x1.Measures.length:Int)),(68,i64 a),(91,i64 (f.Cells.length:Int)),(92,i64 b),(107,i64 (j.Voices.length:Int)),(108,i64 e)] [(5,.loop 22 [(3,.ref 1 0),(4,.ref 2 0),(5,.ref 3 0)] [13,14] bL bM false none),(3,.box [bv h]),(2,.box (YP.g x3)),(1,.box (YZ.g c)),(4,.box [.ref 0 0]),(0,.box (Y0.g x1))])) (encE:=(fun|.inl ⟨o,p⟩=>(rq [(0,.yld 5),(1,.ref 4 0),(6,i64 a),(67,i64 (x1.Measures.length:Int)),(68,i64 a),(91,i64 (f.Cells.length:Int)),(92,i64 b)] [(5,.loop 22 [(3,.ref 1 0),(4,.ref 2 0),(5,.ref 3 0)] [13,14] bL bM false (some .ret)),(3,.box [bv true]),(2,.box [i64 4,i64 0,i64 b,i64 a,i64 o,i64 p,i64 0]),(1,.box (YZ.g c)),(4,.box [.ref 0 0]),(0,.box (Y0.g x1))])|.inr _=>(xq 8 [(0,.yld 5),(1,.ref 4 0),(6,i64 a),(67,i64 (x1.Measures.length:Int)),(68,i64 a),(91,i64 (f.Cells.length:Int)),(92,i64 b)] [(5,.loop 22 [(3,.ref 1 0),(4,.ref 2 0),(5,.ref 3 0)] [13,14] bL bM false none),(3,.box [bv h]),(2,.box (YP.g x3)),(1,.box (YZ.g c)),(4,.box [.ref 0 0]),(0,.box (Y0.g x1))]))) (fun e=>?_) bC 0) fun H=>?_;refine io ?_ rfl;refine bo rg fun b6=>?_;refine bo rg fun b7=>?_;refine bo rg fun D=>?_;refine bz lm ?_;refine bo (aL (S:=Int) (enc:=fun l=>(Q [(0,.yld 5),(1,.ref 4 0),(6,i64 a),(7,i64 b),(8,i64 e),(67,i64 (x1.Measures.length:Int)),(68,i64 a),(91,i64 (f.Cells.length:Int)),(92,i64 b),(107,i64 (j.Voices.length:Int)),(108,i64 e),(127,i64 (D.Events.length:Int)),(128,i64 l)] [(5,.loop 22 [(3,.ref 1 0),(4,.ref 2 0),(5,.ref 3 0)] [13,14] bL bM false none),(3,.box [bv h]),(2,.box (YP.g x3)),(1,.box (YZ.g c)),(4,.box [.ref 0 0]),(0,.box (Y0.g x1))])) (encE:=(fun|.inl n=>(rq [(0,.yld 5),(1,.ref 4 0),(6,i64 a),(7,i64 b),(67,i64 (x1.Measures.length:Int)),(68,i64 a),(91,i64 (f.Cells.length:Int)),(92,i64 b),(107,i64 (j.Voices.length:Int)),(108,i64 e)] [(5,.loop 22 [(3,.ref 1 0),(4,.ref 2 0),(5,.ref 3 0)] [13,14] bL bM false (some .ret)),(3,.box [bv true]),(2,.box [i64 4,i64 0,i64 b,i64 a,i64 e,i64 n,i64 0]),(1,.box (YZ.g c)),(4,.box [.ref 0 0]),(0,.box (Y0.g x1))])|.inr _=>(xq 10 [(0,.yld 5),(1,.ref 4 0),(6,i64 a),(7,i64 b),(67,i64 (x1.Measures.length:Int)),(68,i64 a),(91,i64 (f.Cells.length:Int)),(92,i64 b),(107,i64 (j.Voices.length:Int)),(108,i64 e)] [(5,.loop 22 [(3,.ref 1 0),(4,.ref 2 0),(5,.ref 3 0)] [13,14] bL bM false none),(3,.box [bv h]),(2,.box (YP.g x3)),(1,.box (YZ.g c)),(4,.box [.ref 0 0]),(0,.box (Y0.g x1))]))) (fun l=>?_) bC 0) fun G=>?_;refine io ?_ rfl;refine bo rg fun b8=>?_;refine bo rg fun b9=>?_;refine bo rg fun d0=>?_;refine bo rg fun E=>?_;refine bo (Gw d 4 0 b a e l 0 E h x3 c) fun F=>?_;rcases F with _|_;rfl;rfl;rcases G with n|_;rfl;rfl;rcases H with⟨o,p⟩|_;rfl;rfl;rcases J with⟨q,r,s⟩|_;rfl;rfl;rcases K with⟨t,u,v,w,x⟩|_;rfl;refine bz lm ?_;refine bo (aL (S:=Int) (enc:=fun m=>(Q [(0,.yld 5),(1,.ref 4 0),(166,i64 (x1.Spanners.length:Int)),(167,i64 m)] [(5,.loop 22 [(3,.ref 1 0),(4,.ref 2 0),(5,.ref 3 0)] [13,14] bL bM false none),(4,.box [.ref 0 0]),(0,.box (Y0.g x1)),(3,.box [bv h]),(2,.box (YP.g x3)),(1,.box (YZ.g c))])) (encE:=(fun|.inl y=>(rq [] [(5,.loop 22 [(3,.ref 1 0),(4,.ref 2 0),(5,.ref 3 0)] [13,14] bL bM false (some .ret)),(4,.box [.ref 0 0]),(0,.box (Y0.g x1)),(3,.box [bv true]),(2,.box [i64 5,i64 0,i64 0,i64 0,i64 0,i64 0,i64 y]),(1,.box (YZ.g c))])|.inr _=>(xq 12 [] [(5,.loop 22 [(3,.ref 1 0),(4,.ref 2 0),(5,.ref 3 0)] [13,14] bL bM false none),(4,.box [.ref 0 0]),(0,.box (Y0.g x1)),(3,.box [bv h]),(2,.box (YP.g x3)),(1,.box (YZ.g c))]))) (fun m=>?_) bC 0) fun N=>?_;refine io ?_ rfl;refine bo rg fun L=>?_;refine bo (Gx d 5 0 0 0 0 0 m L h x3 c) fun M=>?_;rcases M with _|_;rfl;rfl;rcases N with y|_;rfl;rfl
end Go.P
namespace Go.P
open Go.Sim (Ex dV CK)
open K (I Q rq nq xq ck)
def bW1 (x1:Y0) (a:YZ):aB (YP×Bool):=
 if((a.Site==0)&&((a.Number==0)&&true))!=false then some ((YP.mk 0 0 0 0 0 0 0),false)else(vW x1).bind fun _=>(vX x1 false (YP.mk 0 0 0 0 0 0 0) a).bind fun b=>(match b with|.inl x3=>some (x3,true)|.inr _=>some ((YP.mk 0 0 0 0 0 0 0),false))
theorem nZ1 {k} (d) (x1:Y0) (a:YZ):OD k (d+3) 166 [.agg (Y0.g x1),.agg (YZ.g a)]=(bW1 x1 a).map (fun⟨c,e⟩=>.tup [.agg (YP.g c),bv e]):=by
 refine oe rfl ?_;refine io rfl ?_;refine bo (Uk (d+1) x1) fun _=>?_;refine bo (Ul d x1 false (YP.mk 0 0 0 0 0 0 0) a) fun b=>?_;rcases b with x3|_;rfl;rfl
def bX1 (x1:aA Int):aB (aA Int):=
 (vB (x1.length:Int) (x1.length:Int) 0).bind fun j=>(aU (E:=aA Int) (fun(⟨b,a⟩:Int×(aA Int))=>if decide (b<(x1.length:Int))then(fQ a (bE (b-1))).bind fun c=>(gL a c).bind fun d=>(aW x1 (bE (b-1))).bind fun e=>(fQ a b).bind fun f=>(Oh a f (fun i=>(bE (d+e)))).bind fun g=>some (.inl ((bE (b+1)),g))else some (.inr a)) bC (1,j)).bind fun h=>some h
theorem oA1 {k} (d) (x1:aA Int):OD k (d+1) 179 [.is 1 (I cI x1)]=(bX1 x1).map (fun q=>.is 1 (I cI q)):=by
 refine oe rfl ?_;refine bz lm ?_;refine bo (jR cI _ _ 0) fun p=>?_;refine bo (aL (S:=Int×(aA Int)) (enc:=fun⟨i,a⟩=>(Q [(0,.is 1 (I cI x1)),(3,.own 0),(4,i64 i)] [(0,.lst 3 1 true (I cI a))])) (encE:=(fun(e:aA Int)=>(xq 0 [(3,.own 0)] [(0,.lst 3 1 true (I cI e))]))) (fun⟨i,a⟩=>?_) bC (1,p)) fun e=>?_;refine bz lm ?_;refine io ?_ rfl;refine bo (bU cI a _) fun j=>?_;refine bo (cO (A:=Int) (c:=cI) (g:=fun b=>i64 b) (fun _=>rfl) a _) fun b=>?_;refine bo rg fun h=>?_;refine bo (bU cI a _) fun l=>?_;refine bo (Ba (A:=Int) (c:=cI) (m:=1) (f:=fun n=>(bE (b+h))) (fun _=>⟨rfl,rfl⟩) (jK2 rfl) a _) fun o=>?_;rfl;rfl
def bY1 (x1:YO) (b:Int):aB ((aA Int)×Int):=
 (Ua x1 b).bind fun⟨x3,a⟩=>if a !=0 then some ([],a)else(bX1 x3).bind fun c=>some (c,0)
theorem oB1 {k} (d) (x1:YO) (a:Int):OD k (d+14) 167 [.agg (YO.g x1),i64 a]=(bY1 x1 a).map (fun⟨b,c⟩=>.tup [.is 1 (I cI b),i64 c]):=by
 refine oe rfl ?_;refine bo (eN1 d x1 a) fun⟨x3,e⟩=>?_;refine io rfl ?_;refine bo (oA1 (d+12) x3) fun f=>?_;rfl
def Um (x1:YK) (e:YZ):aB (YQ×Bool):=
 (bW1 x1.s' e).bind fun⟨x3,f⟩=>if(!f)||(x3.Kind !=4)then some ((YQ.mk 0 0 0 0),false)else(aW x1.s'.Measures x3.Measure).bind fun c=>(Zh c).bind fun⟨g,j⟩=>(aW c.Cells x3.Staff).bind fun h=>(aW h.Voices x3.Voice).bind fun i=>(bY1 i g).bind fun⟨a,d⟩=>if decide (x3.Event>=(a.length:Int))then some ((YQ.mk 0 0 0 0),false)else(aW a x3.Event).bind fun b=>some ((YQ.mk x3.Measure b x3.Staff x3.Voice),true)
theorem eR1 {k} (d) (x1:YK) (a:YZ):OD k (d+15) 134 [.ip (YK.g x1),.agg (YZ.g a)]=(Um x1 a).map (fun⟨j,l⟩=>.tup [.agg (YQ.g j),bv l]):=by
 refine oe rfl ?_;refine bo (nZ1 (d+11) x1.s' a) fun⟨x3,m⟩=>?_;refine bz (fR rfl) ?_;refine io rfl ?_;refine bo rg fun f=>?_;refine bo (Ou (d+10) f) fun⟨h,n⟩=>?_;refine bo rg fun o=>?_;refine bo rg fun i=>?_;refine bo (oB1 d i h) fun⟨b,c⟩=>?_;refine bz lm ?_;refine io rfl ?_;refine bo rg fun e=>?_;rfl
def Jj (x1 a:Int):aB Bool:=
 some ((decide (x1>=0))&&(decide (x1<=a)))
theorem Md {k} (d) (x1 a:Int):OD k (d+1) 180 [i64 x1,i64 a]=(Jj x1 a).map bv:=by
 refine oe rfl ?_;refine bz (eZ rfl) ?_;rfl
def Un (x1:YQ):aB Bool:=
 (Jj x1.Measure 1023).bind fun a=>((if a then(Jj x1.At 4398046511104).bind fun x3=>some x3 else some false:aB (Bool))).bind fun b=>((if b then(Jj x1.Staff 127).bind fun c=>some c else some false:aB (Bool))).bind fun d=>((if d then(Jj x1.Voice 1).bind fun e=>some e else some false:aB (Bool))).bind fun f=>some f
theorem eS1 {k} (d) (x1:YQ):OD k (d+2) 168 [.agg (YQ.g x1)]=(Un x1).map bv:=by
 refine oe rfl ?_;refine bo (Md d x1.Measure 1023) fun a=>?_;refine bo (e:=id) ?_ fun b=>?_;refine io ?_ rfl;refine bo (Md d x1.At 4398046511104) fun x3=>?_;rfl;refine bo (e:=id) ?_ fun f=>?_;refine io ?_ rfl;refine bo (Md d x1.Staff 127) fun c=>?_;rfl;refine bo (e:=id) ?_ fun i=>?_;refine io ?_ rfl;refine bo (Md d x1.Voice 1) fun h=>?_;rfl;rfl
def Uo (x1:Int):aB Bool:=
 some ((x1==1)||(x1==7))
theorem eT1 {k} (d) (x1:Int):OD k (d+1) 169 [i64 x1]=(Uo x1).map bv:=by
 refine oe rfl ?_;refine bz (fR rfl) ?_;rfl
def Up (x1:Int):aB Bool:=
 some (x1 !=x1)
theorem eU1 {k} (d) (x1:Int):OD k (d+1) 187 [i64 x1]=(Up x1).map bv:=by
 refine oe rfl ?_;rfl
def Uq (x1 a:Int):aB Int:=
 (Up x1).bind fun x3=>(Up a).bind fun b=>if x3 then if b then some 0 else some (-1)else if b then some 1 else if decide (x1<a)then some (-1)else if decide (x1>a)then some 1 else some 0
theorem eV1 {k} (d) (x1 a:Int):OD k (d+2) 182 [i64 x1,i64 a]=(Uq x1 a).map i64:=by
 refine oe rfl ?_;refine bo (eU1 d x1) fun x3=>?_;refine bo (eU1 d a) fun b=>?_;refine io ?_ ?_;refine io rfl rfl;refine io rfl ?_;refine io rfl ?_;refine io rfl rfl
def bZ1 (x1:aA Int):aB Int:=
 (aU (E:=Int⊕Unit) (fun(x3:Int)=>if decide (x3<(x1.length:Int))then(aW x1 x3).bind fun a=>if a !=0 then some (.inr (.inl a))else some (.inl (bE (x3+1)))else some (.inr (.inr ()))) bC 0).bind fun b=>(match b with|.inl x5=>some x5|.inr _=>some 0)
theorem oC1 {k} (d) (x1:aA Int):OD k (d+1) 181 [.is 1 (I cI x1)]=(bZ1 x1).map i64:=by
 refine oe rfl ?_;refine bz lm ?_;refine bo (aL (S:=Int) (enc:=fun x3=>(Q [(3,i64 0),(6,.is 1 (I cI x1)),(7,i64 (x1.length:Int)),(8,i64 x3)] [])) (encE:=(fun|.inl a=>(rq [(2,i64 a),(3,i64 0)] [])|.inr _=>(xq 0 [(3,i64 0)] []))) (fun x3=>?_) bC 0) fun b=>?_;refine io ?_ rfl;refine bo rg fun c=>?_;refine io rfl rfl;rcases b with a|_;rfl;rfl
def zF (x1 a:YQ):aB Int:=
 (Uq x1.Measure a.Measure).bind fun x3=>(Uq x1.At a.At).bind fun b=>(bZ1 [x3,b]).bind fun c=>some c
theorem yM {k} (d) (x1 a:YQ):OD k (d+3) 170 [.agg (YQ.g x1),.agg (YQ.g a)]=(zF x1 a).map i64:=by
 refine oe rfl ?_;refine bo (eV1 d x1.Measure a.Measure) fun x3=>?_;refine bo (eV1 d x1.At a.At) fun b=>?_;refine bo (oC1 (d+1) [x3,b]) fun c=>?_;rfl
def cA1 (x1:YS):aB Int:=
 if(decide (x1.Kind<1))||(decide (x1.Kind>7))then some 11 else(Un x1.From).bind fun a=>((if !a then some true else(Un x1.To).bind fun x3=>some (!x3):aB (Bool))).bind fun b=>if b then some 2 else((if x1.From.Staff !=x1.To.Staff then some true else(Uo x1.Kind).bind fun c=>some (c&&(x1.From.Voice !=x1.To.Voice)):aB (Bool))).bind fun d=>if d then some 23 else(zF x1.From x1.To).bind fun e=>if decide (e>=0)then some 25 else some 0
theorem oD1 {k} (d) (x1:YS):OD k (d+4) 135 [.agg (YS.g x1)]=(cA1 x1).map i64:=by
 refine oe rfl ?_;refine bz (fR rfl) ?_;refine io rfl ?_;refine bo (eS1 (d+1) x1.From) fun a=>?_;refine bo (e:=id) ?_ fun b=>?_;refine io rfl ?_;refine bo (eS1 (d+1) x1.To) fun x3=>?_;rfl;refine io rfl ?_;refine bo (e:=id) ?_ fun f=>?_;refine io rfl ?_;refine bo (eT1 (d+2) x1.Kind) fun c=>?_;refine bz (eZ rfl) ?_;rfl;refine io rfl ?_;refine bo (yM d x1.From x1.To) fun h=>?_;refine io rfl rfl
def Ur (x1:aA YV) (g:Y0) (x3:Int):aB ((aA Bool)×(aA YS)):=
 (aU (E:=(aA Bool)×(aA YS)) (fun(⟨b,c,d⟩:Int×(aA Bool)×(aA YS))=>if decide (b<(g.Spanners.length:Int))then(aW g.Spanners b).bind fun a=>(Um (YK.mk g x3 x1) a.From).bind fun⟨e,h⟩=>(Um (YK.mk g x3 x1) a.To).bind fun⟨f,i⟩=>(fJ false d [(YS.mk a.Kind e f)]).bind fun j=>((if(!h)||(!i)then some true else(cA1 (YS.mk a.Kind e f)).bind fun k=>some (k !=0):aB (Bool))).bind fun l=>(fJ false c [l]).bind fun m=>some (.inl ((bE (b+1)),m,j))else some (.inr (c,d))) bC (0,[],[])).bind fun⟨n,o⟩=>some (n,o)
theorem eW1 {k} (d) (x1:aA YV) (b:Y0) (x3:Int):eJ (XD k (d+16)) 85 [.ref 1 0] [(2,.lst 111 3 false (I YV.g x1)),(1,.box (ck b x3 (.own 2)))] 3 true=(Ur x1 b x3).map (fun(⟨o,p⟩:(aA Bool)×(aA YS))=>((.tup [.own 3,.own 4],[(4,.lst 4 1 false (I cB o)),(3,.lst 182 9 false (I YS.g p)),(2,.lst 111 3 false (I YV.g x1)),(1,.box (ck b x3 (.own 2)))],5))):=by
 rw[xd (fn:=p85) rfl];refine bz lm ?_;refine bo (aL (S:=Int×(aA Bool)×(aA YS)) (enc:=fun⟨h,c,f⟩=>(Q [(0,.ref 1 0),(4,.own 3),(5,.own 4),(17,.is 7 (I YN.g b.Spanners)),(18,i64 (b.Spanners.length:Int)),(19,i64 h)] [(4,.lst 4 1 false (I cB c)),(3,.lst 182 9 false (I YS.g f)),(2,.lst 111 3 false (I YV.g x1)),(1,.box (ck b x3 (.own 2)))])) (encE:=(fun(⟨l,m⟩:(aA Bool)×(aA YS))=>(xq 0 [(4,.own 3),(5,.own 4)] [(4,.lst 4 1 false (I cB l)),(3,.lst 182 9 false (I YS.g m)),(2,.lst 111 3 false (I YV.g x1)),(1,.box (ck b x3 (.own 2)))]))) (fun⟨h,c,f⟩=>?_) bC (0,[],[])) fun⟨l,m⟩=>?_;refine io ?_ rfl;refine bo rg fun a=>?_;refine bo (eR1 d (YK.mk b x3 x1) a.From) fun⟨i,q⟩=>?_;refine bo (eR1 d (YK.mk b x3 x1) a.To) fun⟨j,r⟩=>?_;refine bo (bH false YS.g f [(YS.mk a.Kind i j)]) fun s=>?_;refine bz (fR rfl) ?_;refine bo (e:=id) ?_ fun n=>?_;refine io rfl ?_;refine bo (oD1 (d+11) (YS.mk a.Kind i j)) fun t=>?_;rfl;refine bo (bH false cB c [n]) fun u=>?_;rfl;rfl
def Us (x1:aA YV) (c:Y0) (x3:Int):aB (aA YV):=
 (Ur x1 c x3).bind fun⟨i,j⟩=>(aU (E:=aA YV) (fun(⟨a,b⟩:Int×(aA YV))=>if decide (a<(c.Spanners.length:Int))then(aW c.Spanners a).bind fun d=>(fQ i a).bind fun e=>(gL i e).bind fun f=>(iL f d.ID b c x3).bind fun g=>some (.inl ((bE (a+1)),g))else some (.inr b)) bC (0,x1)).bind fun h=>some h
theorem oE1 {k} (d) (x1:aA YV) (a:Y0) (x3:Int):eJ (XD k (d+17)) 37 [.ref 1 0] [(2,.lst 111 3 false (I YV.g x1)),(1,.box (ck a x3 (.own 2)))] 3 false=(Us x1 a x3).map (fun(l:aA YV)=>((.tup [],[(2,.lst 111 3 false (I YV.g l)),(1,.box (ck a x3 (.own 2)))],0))):=by
 rw[xd (fn:=p37) rfl];refine bo (eW1 d x1 a x3) fun⟨i,m⟩=>?_;refine bz lm ?_;refine bo (aL (S:=Int×(aA YV)) (enc:=fun⟨f,b⟩=>(Q [(0,.ref 1 0),(3,.own 4),(15,.is 7 (I YN.g a.Spanners)),(16,i64 (a.Spanners.length:Int)),(17,i64 f)] [(4,.lst 4 1 false (I cB i)),(3,.lst 182 9 false (I YS.g m)),(2,.lst 111 3 false (I YV.g b)),(1,.box (ck a x3 (.own 2)))])) (encE:=(fun(h:aA YV)=>(xq 0 [] [(4,.lst 4 1 false (I cB i)),(3,.lst 182 9 false (I YS.g m)),(2,.lst 111 3 false (I YV.g h)),(1,.box (ck a x3 (.own 2)))]))) (fun⟨f,b⟩=>?_) bC (0,x1)) fun h=>?_;refine io ?_ rfl;refine bo rg fun j=>?_;refine bo (bU cB i _) fun n=>?_;refine bo (cO (A:=Bool) (c:=cB) (g:=fun e=>bv e) (fun _=>rfl) i _) fun e=>?_;refine bo (gH (d+15) e j.ID b a x3) fun o=>?_;rfl;rfl
def Oy (x1:Int):aB Int:=
 if(decide (x1<1))||(decide (x1>7))then some 0 else(aW [1,2,2,4,4,6,7] (bE (x1-1))).bind fun a=>some a
theorem Ut {k} (d) (x1:Int):OD k (d+1) 171 [i64 x1]=(Oy x1).map i64:=by
 refine oe rfl ?_;refine bz (fR rfl) ?_;refine io rfl ?_;refine bo (qH .i64 [1,2,2,4,4,6,7] (bE (x1-1)) rfl) fun a=>?_;rfl
def cB1 (x1 a:YS):aB Bool:=
 (Oy x1.Kind).bind fun x3=>((if decide (x3>0)then(Oy x1.Kind).bind fun b=>(Oy a.Kind).bind fun c=>some (b==c)else some false:aB (Bool))).bind fun d=>((if d&&(x1.From.Staff==a.From.Staff)then(Uo x1.Kind).bind fun e=>some ((!e)||(x1.From.Voice==a.From.Voice))else some false:aB (Bool))).bind fun f=>some f
theorem oF1 {k} (d) (x1 a:YS):OD k (d+2) 136 [.agg (YS.g x1),.agg (YS.g a)]=(cB1 x1 a).map bv:=by
 refine oe rfl ?_;refine bo (Ut d x1.Kind) fun x3=>?_;refine bo (e:=id) ?_ fun f=>?_;refine io ?_ rfl;refine bo (Ut d x1.Kind) fun b=>?_;refine bo (Ut d a.Kind) fun c=>?_;rfl;refine bz (eZ rfl) ?_;refine bo (e:=id) ?_ fun i=>?_;refine io ?_ rfl;refine bo (eT1 d x1.Kind) fun h=>?_;refine bz (fR rfl) ?_;rfl;rfl
def cC1 (x1 a:YS):aB Bool:=
 (zF x1.To a.From).bind fun x3=>((if decide (x3<0)then some true else(zF a.To x1.From).bind fun b=>some (decide (b<0)):aB (Bool))).bind fun c=>some c
theorem oG1 {k} (d) (x1 a:YS):OD k (d+4) 140 [.agg (YS.g x1),.agg (YS.g a)]=(cC1 x1 a).map bv:=by
 refine oe rfl ?_;refine bo (yM d x1.To a.From) fun x3=>?_;refine bo (e:=id) ?_ fun c=>?_;refine io rfl ?_;refine bo (yM d a.To x1.From) fun b=>?_;rfl;rfl
def Oz (x1 a:YS):aB Bool:=
 (cC1 x1 a).bind fun x3=>some (!x3)
theorem Uu {k} (d) (x1 a:YS):OD k (d+5) 139 [.agg (YS.g x1),.agg (YS.g a)]=(Oz x1 a).map bv:=by
 refine oe rfl ?_;refine bo (oG1 d x1 a) fun x3=>?_;rfl
def Uv (x1 a:YS):aB Bool:=
 (zF x1.To a.From).bind fun x3=>((if decide (x3<=0)then some true else(zF a.To x1.From).bind fun b=>some (decide (b<=0)):aB (Bool))).bind fun c=>some c
theorem eX1 {k} (d) (x1 a:YS):OD k (d+4) 138 [.agg (YS.g x1),.agg (YS.g a)]=(Uv x1 a).map bv:=by
 refine oe rfl ?_;refine bo (yM d x1.To a.From) fun x3=>?_;refine bo (e:=id) ?_ fun c=>?_;refine io rfl ?_;refine bo (yM d a.To x1.From) fun b=>?_;rfl;rfl
def Pa (x1 a:YS):aB Bool:=
 (Uv x1 a).bind fun x3=>some (!x3)
theorem Uw {k} (d) (x1 a:YS):OD k (d+5) 137 [.agg (YS.g x1),.agg (YS.g a)]=(Pa x1 a).map bv:=by
 refine oe rfl ?_;refine bo (eX1 d x1 a) fun x3=>?_;rfl
def Ux (x1 a:YS):aB Bool:=
 (zF x1.From a.From).bind fun x3=>((if decide (x3>=0)then(zF x1.To a.To).bind fun b=>some (decide (b<=0))else some false:aB (Bool))).bind fun c=>some c
theorem eY1 {k} (d) (x1 a:YS):OD k (d+4) 172 [.agg (YS.g x1),.agg (YS.g a)]=(Ux x1 a).map bv:=by
 refine oe rfl ?_;refine bo (yM d x1.From a.From) fun x3=>?_;refine bo (e:=id) ?_ fun c=>?_;refine io ?_ rfl;refine bo (yM d x1.To a.To) fun b=>?_;rfl;rfl
def cD1 (x1 a:YS):aB Bool:=
 (Uv x1 a).bind fun x3=>((if !x3 then(Ux x1 a).bind fun b=>(Ux a x1).bind fun c=>some ((b==c)!=false)else some false:aB (Bool))).bind fun d=>some d
theorem oH1 {k} (d) (x1 a:YS):OD k (d+5) 141 [.agg (YS.g x1),.agg (YS.g a)]=(cD1 x1 a).map bv:=by
 refine oe rfl ?_;refine bo (eX1 d x1 a) fun x3=>?_;refine bo (e:=id) ?_ fun f=>?_;refine io ?_ rfl;refine bo (eY1 d x1 a) fun b=>?_;refine bo (eY1 d a x1) fun c=>?_;rfl;rfl
def F86 (x1 a:YS):aB Bool:=
 (cB1 x1 a).bind fun x3=>if !x3 then some false else if(bE (x1.Kind-1))==6 then(Oz x1 a).bind fun c=>some c else if(bE (x1.Kind-1))==5 then(Pa x1 a).bind fun d=>some d else if(bE (x1.Kind-1))==4 then(Oz x1 a).bind fun e=>some e else if(bE (x1.Kind-1))==3 then(Oz x1 a).bind fun f=>some f else if(bE (x1.Kind-1))==2 then(Pa x1 a).bind fun g=>some g else if(bE (x1.Kind-1))==1 then(Pa x1 a).bind fun h=>some h else if(bE (x1.Kind-1))==0 then(cD1 x1 a).bind fun b=>some b else none
theorem xZ1 {k} (d) (x1 a:YS):OD k (d+6) 86 [.agg (YS.g x1),.agg (YS.g a)]=(F86 x1 a).map bv:=by
 refine oe rfl ?_;refine bo (oF1 (d+3) x1 a) fun x3=>?_;refine io rfl ?_;refine io ?_ ?_;refine bo (Uu d x1 a) fun c=>?_;rfl;refine io ?_ ?_;refine bo (Uw d x1 a) fun e=>?_;rfl;refine io ?_ ?_;refine bo (Uu d x1 a) fun f=>?_;rfl;refine io ?_ ?_;refine bo (Uu d x1 a) fun h=>?_;rfl;refine io ?_ ?_;refine bo (Uw d x1 a) fun i=>?_;rfl;refine io ?_ ?_;refine bo (Uw d x1 a) fun j=>?_;rfl;refine io ?_ ?_;refine bo (oH1 d x1 a) fun b=>?_;rfl;rfl
def Uy (x1:aA YV) (e:Y0) (x3:Int):aB (aA YV):=
 (Ur x1 e x3).bind fun⟨f,g⟩=>(aU (E:=aA YV) (fun(⟨a,c⟩:Int×(aA YV))=>if decide (a<(e.Spanners.length:Int))then(aW e.Spanners a).bind fun h=>(aU (E:=Bool) (fun(⟨d,b⟩:Bool×Int)=>((if decide (b<a)then(fQ f a).bind fun i=>(gL f i).bind fun j=>some (!j)else some false:aB (Bool))).bind fun k=>if k&&(!d)then(fQ f b).bind fun l=>(gL f l).bind fun m=>((if !m then(fQ g b).bind fun n=>(gL g n).bind fun o=>(fQ g a).bind fun p=>(gL g p).bind fun q=>(F86 o q).bind fun r=>some r else some false:aB (Bool))).bind fun s=>some (.inl (s,(bE (b+1))))else some (.inr d)) bC (false,0)).bind fun t=>(iL t h.ID c e x3).bind fun u=>some (.inl ((bE (a+1)),u))else some (.inr c)) bC (0,x1)).bind fun v=>some v
theorem oI1 {k} (d) (x1:aA YV) (f:Y0) (x3:Int):eJ (XD k (d+17)) 38 [.ref 1 0] [(2,.lst 111 3 false (I YV.g x1)),(1,.box (ck f x3 (.own 2)))] 3 false=(Uy x1 f x3).map (fun(u:aA YV)=>((.tup [],[(2,.lst 111 3 false (I YV.g u)),(1,.box (ck f x3 (.own 2)))],0))):=by
 rw[xd (fn:=p38) rfl];refine bo (eW1 d x1 f x3) fun⟨j,l⟩=>?_;refine bz lm ?_;refine bo (aL (S:=Int×(aA YV)) (enc:=fun⟨h,i⟩=>(Q [(0,.ref 1 0),(2,.own 3),(3,.own 4),(17,.is 7 (I YN.g f.Spanners)),(18,i64 (f.Spanners.length:Int)),(19,i64 h)] [(4,.lst 4 1 false (I cB j)),(3,.lst 182 9 false (I YS.g l)),(2,.lst 111 3 false (I YV.g i)),(1,.box (ck f x3 (.own 2)))])) (encE:=(fun(t:aA YV)=>(xq 0 [] [(4,.lst 4 1 false (I cB j)),(3,.lst 182 9 false (I YS.g l)),(2,.lst 111 3 false (I YV.g t)),(1,.box (ck f x3 (.own 2)))]))) (fun⟨h,i⟩=>?_) bC (0,x1)) fun t=>?_;refine io ?_ rfl;refine bo rg fun n=>?_;refine bo (aL (S:=Bool×Int) (enc:=fun⟨p,q⟩=>(Q [(0,.ref 1 0),(2,.own 3),(3,.own 4),(4,i64 h),(5,.ref 5 0),(6,bv p),(7,i64 q),(17,.is 7 (I YN.g f.Spanners)),(18,i64 (f.Spanners.length:Int)),(19,i64 h)] [(5,.box (YN.g n)),(4,.lst 4 1 false (I cB j)),(3,.lst 182 9 false (I YS.g l)),(2,.lst 111 3 false (I YV.g i)),(1,.box (ck f x3 (.own 2)))])) (encE:=(fun(o:Bool)=>(xq 2 [(0,.ref 1 0),(2,.own 3),(3,.own 4),(5,.ref 5 0),(6,bv o),(17,.is 7 (I YN.g f.Spanners)),(18,i64 (f.Spanners.length:Int)),(19,i64 h)] [(5,.box (YN.g n)),(4,.lst 4 1 false (I cB j)),(3,.lst 182 9 false (I YS.g l)),(2,.lst 111 3 false (I YV.g i)),(1,.box (ck f x3 (.own 2)))]))) (fun⟨p,q⟩=>?_) bC (false,0)) fun o=>?_;refine bo (e:=id) ?_ fun w=>?_;refine io ?_ rfl;refine bo (bU cB j _) fun v=>?_;refine bo (cO (A:=Bool) (c:=cB) (g:=fun r=>bv r) (fun _=>rfl) j _) fun r=>?_;rfl;refine bz (eZ rfl) ?_;refine io ?_ rfl;refine bo (bU cB j _) fun x=>?_;refine bo (cO (A:=Bool) (c:=cB) (g:=fun s=>bv s) (fun _=>rfl) j _) fun s=>?_;refine bo (e:=id) ?_ fun C=>?_;refine io ?_ rfl;refine bo (bU YS.g l _) fun y=>?_;refine bo (kJ (A:=YS) (c:=YS.g) (m:=9) (g:=fun a=>[i64 a.Kind,i64 a.From.Measure,i64 a.From.At,i64 a.From.Staff,i64 a.From.Voice,i64 a.To.Measure,i64 a.To.At,i64 a.To.Staff,i64 a.To.Voice]) (fun _=>⟨rfl,rfl⟩) (jK2 rfl) l _) fun a=>?_;refine bo (bU YS.g l _) fun z=>?_;refine bo (kJ (A:=YS) (c:=YS.g) (m:=9) (g:=fun b=>[i64 b.Kind,i64 b.From.Measure,i64 b.From.At,i64 b.From.Staff,i64 b.From.Voice,i64 b.To.Measure,i64 b.To.At,i64 b.To.Staff,i64 b.To.Voice]) (fun _=>⟨rfl,rfl⟩) (jK2 rfl) l _) fun b=>?_;refine bo (xZ1 (d+10) a b) fun B=>?_;rfl;rfl;refine bo (gH (d+15) o n.ID i f x3) fun D=>?_;rfl;rfl
def F87 (x1:Int) (a:YM):aB Bool:=
 ((if a.RepeatEnd !=0 then(vV a.RepeatEnd 2 8).bind fun x3=>some (!x3)else some false:aB (Bool))).bind fun b=>((if b then some true else(vV a.Endings 0 255).bind fun c=>some (!c):aB (Bool))).bind fun d=>some d
theorem yA1 {k} (d) (x1:Int) (a:YM):OD k (d+2) 87 [i64 x1,.agg (YM.g a)]=(F87 x1 a).map bv:=by
 refine oe rfl ?_;refine bo (e:=id) ?_ fun b=>?_;refine io ?_ rfl;refine bo (oL d a.RepeatEnd 2 8) fun x3=>?_;rfl;refine bo (e:=id) ?_ fun f=>?_;refine io rfl ?_;refine bo (oL d a.Endings 0 255) fun c=>?_;rfl;rfl
def tV (x1:aA YV) (e:Y0) (x3:Int):aB (aA YV):=
 (aU (E:=aA YV) (fun(⟨a,f⟩:Int×(aA YV))=>if decide (a<(e.Measures.length:Int))then(aW e.Measures a).bind fun g=>(F87 a g).bind fun b=>(iL b g.ID f e x3).bind fun c=>some (.inl ((bE (a+1)),c))else some (.inr f)) bC (0,x1)).bind fun d=>some d
theorem cE1 {k} (d) (x1:aA YV) (a:Y0) (x3:Int):eJ (XD k (d+3)) 57 [.ref 1 0,.fn 87 [] []] [(2,.lst 111 3 false (I YV.g x1)),(1,.box (ck a x3 (.own 2)))] 3 false=(tV x1 a x3).map (fun(e:aA YV)=>((.tup [],[(2,.lst 111 3 false (I YV.g e)),(1,.box (ck a x3 (.own 2)))],0))):=by
 rw[xd (fn:=Yv) rfl];refine bz lm ?_;refine bo (aL (S:=Int×(aA YV)) (enc:=fun⟨f,h⟩=>(Q [(0,.ref 1 0),(1,.fn 87 [] []),(10,.is 22 (I YM.g a.Measures)),(11,i64 (a.Measures.length:Int)),(12,i64 f)] [(2,.lst 111 3 false (I YV.g h)),(1,.box (ck a x3 (.own 2)))])) (encE:=(fun(b:aA YV)=>(xq 0 [] [(2,.lst 111 3 false (I YV.g b)),(1,.box (ck a x3 (.own 2)))]))) (fun⟨f,h⟩=>?_) bC (0,x1)) fun b=>?_;refine io ?_ rfl;refine bo rg fun i=>?_;refine bo (yA1 d f i) fun c=>?_;refine bo (gH (d+1) c i.ID h a x3) fun j=>?_;rfl;rfl
def cF1 (x1:Int):aB Int:=
 ((if decide (x1>=4294967296)then(nF .u64 x1 32).bind fun f=>some (f,32)else some (x1,0):aB (Int×Int))).bind fun⟨x3,d⟩=>((if decide (x3>=65536)then(nF .u64 x3 16).bind fun g=>some (g,(bE (d+16)))else some (x3,d):aB (Int×Int))).bind fun⟨c,e⟩=>((if decide (c>=256)then(nF .u64 c 8).bind fun h=>some (h,(bE (e+8)))else some (c,e):aB (Int×Int))).bind fun⟨i,a⟩=>(oA (⟨#[0,1,2,2,3,3,3,3,4,4,4,4,4,4,4,4,5,5,5,5,5,5,5,5,5,5,5,5,5,5,5,5,6,6,6,6,6,6,6,6,6,6,6,6,6,6,6,6,6,6,6,6,6,6,6,6,6,6,6,6,6,6,6,6,7,7,7,7,7,7,7,7,7,7,7,7,7,7,7,7,7,7,7,7,7,7,7,7,7,7,7,7,7,7,7,7,7,7,7,7,7,7,7,7,7,7,7,7,7,7,7,7,7,7,7,7,7,7,7,7,7,7,7,7,7,7,7,7,8,8,8,8,8,8,8,8,8,8,8,8,8,8,8,8,8,8,8,8,8,8,8,8,8,8,8,8,8,8,8,8,8,8,8,8,8,8,8,8,8,8,8,8,8,8,8,8,8,8,8,8,8,8,8,8,8,8,8,8,8,8,8,8,8,8,8,8,8,8,8,8,8,8,8,8,8,8,8,8,8,8,8,8,8,8,8,8,8,8,8,8,8,8,8,8,8,8,8,8,8,8,8,8,8,8,8,8,8,8,8,8,8,8,8,8,8,8,8,8,8,8,8,8,8,8,8,8]⟩:ByteArray) (IntKind.wrap .u8 (i))).bind fun b=>some (bE (a+(bE (b))))
theorem oJ1 {k} (d) (x1:Int):OD k (d+1) 184 [.v (.int .u64 x1)]=(cF1 x1).map i64:=by
 refine oe rfl ?_;refine bo (e:=(fun(⟨x3,b⟩:Int×Int)=>(nq [(0,.v (.int .u64 x3)),(2,i64 b)] []))) ?_ fun⟨x3,b⟩=>?_;refine io ?_ rfl;refine bo oi fun i=>?_;rfl;refine bo (e:=(fun(⟨c,f⟩:Int×Int)=>(nq [(0,.v (.int .u64 c)),(2,i64 f)] []))) ?_ fun⟨c,f⟩=>?_;refine io ?_ rfl;refine bo oi fun j=>?_;rfl;refine bo (e:=(fun(⟨g,a⟩:Int×Int)=>(nq [(0,.v (.int .u64 g)),(2,i64 a)] []))) ?_ fun⟨g,a⟩=>?_;refine io ?_ rfl;refine bo oi fun l=>?_;rfl;refine bo oi fun h=>?_;rfl
def yN (x1:Int):aB Int:=
 (cF1 x1).bind fun a=>some a
theorem Me {k} (d) (x1:Int):OD k (d+2) 173 [.v (.int .u64 x1)]=(yN x1).map i64:=by
 refine oe rfl ?_;refine bo (oJ1 d x1) fun a=>?_;rfl
def Pp (x1:YG):aB Bool:=
 ((if decide (x1.passes>0)then(Ta .i64 1 (bE (x1.passes-1))).bind fun a=>some (x1.ending==a)else some false:aB (Bool))).bind fun x3=>some x3
theorem Pb {k} (d) (x1:YG):OD k (d+1) 89 [.agg (YG.g x1)]=(Pp x1).map bv:=by
 refine oe rfl ?_;refine bo (e:=id) ?_ fun x3=>?_;refine io ?_ rfl;refine bo oi fun a=>?_;rfl;rfl
def Uz (x1:YG) (a:YM):aB (YG×Bool):=
 if a.RepeatStart||(x1.body==0)then some (x1,false)else if a.Endings !=x1.ending then if((x1.ending !=0)&&(!x1.ended))||((cU .i64 a.Endings x1.used)!=0)then some (x1,false)else(yN (IntKind.wrap .u64 (a.Endings))).bind fun x3=>if x1.passes==0 then if((cU .i64 a.Endings 1)==0)||(decide ((bE (x3-1))>6))then some ((YG.mk x1.started x1.body (ior .i64 x1.used a.Endings) a.Endings false x1.passes),false)else if a.RepeatEnd !=0 then(Pp (YG.mk x1.started x1.body (ior .i64 x1.used a.Endings) a.Endings false x1.passes)).bind fun j=>((if j||((x1.passes !=0)&&(a.RepeatEnd !=x1.passes))then some true else(yN (IntKind.wrap .u64 (a.Endings))).bind fun k=>some (decide (k>=a.RepeatEnd)):aB (Bool))).bind fun l=>if l then some ((YG.mk x1.started x1.body (ior .i64 x1.used a.Endings) a.Endings false x1.passes),false)else some ((YG.mk x1.started x1.body (ior .i64 x1.used a.Endings) a.Endings true a.RepeatEnd),true)else some ((YG.mk x1.started x1.body (ior .i64 x1.used a.Endings) a.Endings false x1.passes),true)else((if decide ((bE (x3-1))>=x1.passes)then some true else((if(bE (x3-1))==(bE (x1.passes-1))then(Pp (YG.mk x1.started x1.body (ior .i64 x1.used a.Endings) a.Endings false x1.passes)).bind fun m=>((if !m then some true else(Ta .i64 1 x1.passes).bind fun n=>some ((ior .i64 x1.used a.Endings)!=(bE (n-1))):aB (Bool))).bind fun o=>some o else some false:aB (Bool))).bind fun b=>some b:aB (Bool))).bind fun c=>if c then some ((YG.mk x1.started x1.body (ior .i64 x1.used a.Endings) a.Endings false x1.passes),false)else if a.RepeatEnd !=0 then(Pp (YG.mk x1.started x1.body (ior .i64 x1.used a.Endings) a.Endings false x1.passes)).bind fun d=>((if d||((x1.passes !=0)&&(a.RepeatEnd !=x1.passes))then some true else(yN (IntKind.wrap .u64 (a.Endings))).bind fun e=>some (decide (e>=a.RepeatEnd)):aB (Bool))).bind fun f=>if f then some ((YG.mk x1.started x1.body (ior .i64 x1.used a.Endings) a.Endings false x1.passes),false)else some ((YG.mk x1.started x1.body (ior .i64 x1.used a.Endings) a.Endings true a.RepeatEnd),true)else some ((YG.mk x1.started x1.body (ior .i64 x1.used a.Endings) a.Endings false x1.passes),true)else if x1.ended then some (x1,false)else if a.RepeatEnd !=0 then(Pp x1).bind fun g=>((if g||((x1.passes !=0)&&(a.RepeatEnd !=x1.passes))then some true else(yN (IntKind.wrap .u64 (x1.ending))).bind fun h=>some (decide (h>=a.RepeatEnd)):aB (Bool))).bind fun i=>if i then some (x1,false)else some ((YG.mk x1.started x1.body x1.used x1.ending true a.RepeatEnd),true)else some (x1,true)
theorem oK1 {k} (d) (x1:YG) (a:YM):OD k (d+3) 142 [.agg (YG.g x1),.agg (YM.g a)]=(Uz x1 a).map (fun⟨n,o⟩=>.tup [.agg (YG.g n),bv o]):=by
 refine oe rfl ?_;refine bz (fR rfl) ?_;refine io rfl ?_;refine io ?_ ?_;refine bz (eZ rfl) ?_;refine bz (fR rfl) ?_;refine io rfl ?_;refine bo (Me d (IntKind.wrap .u64 (a.Endings))) fun x3=>?_;refine io ?_ ?_;refine bz (fR rfl) ?_;refine io rfl ?_;refine io ?_ rfl;refine bo (Pb (d+1) (YG.mk x1.started x1.body (ior .i64 x1.used a.Endings) a.Endings false x1.passes)) fun p=>?_;refine bz (fR (bz (eZ rfl) rfl)) ?_;refine bo (e:=id) ?_ fun r=>?_;refine io rfl ?_;refine bo (Me d (IntKind.wrap .u64 (a.Endings))) fun q=>?_;rfl;refine io rfl rfl;refine bo (e:=id) ?_ fun c=>?_;refine io rfl ?_;refine bo (e:=id) ?_ fun b=>?_;refine io ?_ rfl;refine bo (Pb (d+1) (YG.mk x1.started x1.body (ior .i64 x1.used a.Endings) a.Endings false x1.passes)) fun s=>?_;refine bo (e:=id) ?_ fun u=>?_;refine io rfl ?_;refine bo oi fun t=>?_;rfl;rfl;rfl;refine io rfl ?_;refine io ?_ rfl;refine bo (Pb (d+1) (YG.mk x1.started x1.body (ior .i64 x1.used a.Endings) a.Endings false x1.passes)) fun f=>?_;refine bz (fR (bz (eZ rfl) rfl)) ?_;refine bo (e:=id) ?_ fun i=>?_;refine io rfl ?_;refine bo (Me d (IntKind.wrap .u64 (a.Endings))) fun h=>?_;rfl;refine io rfl rfl;refine io rfl ?_;refine io ?_ rfl;refine bo (Pb (d+1) x1) fun j=>?_;refine bz (fR (bz (eZ rfl) rfl)) ?_;refine bo (e:=id) ?_ fun m=>?_;refine io rfl ?_;refine bo (Me d (IntKind.wrap .u64 (x1.ending))) fun l=>?_;rfl;refine io rfl rfl
def Wm (x1:YG) (a:YM):aB (YG×Bool):=
 if a.Endings !=0 then(Uz x1 a).bind fun⟨x3,d⟩=>some (x3,d)else if x1.ending !=0 then(Pp x1).bind fun e=>if !e then some (x1,false)else if a.RepeatStart then if false then some ((YG.mk false 0 0 0 false 0),false)else((if a.RepeatEnd !=0 then some (false,0)else some (true,1):aB (Bool×Int))).bind fun⟨f,g⟩=>some ((YG.mk f g 0 0 false 0),true)else((if a.RepeatEnd !=0 then some 0 else some 1:aB (Int))).bind fun h=>some ((YG.mk false h 0 0 false 0),true)else if a.RepeatStart then if x1.started then some (x1,false)else((if a.RepeatEnd !=0 then some (false,0)else some (true,1):aB (Bool×Int))).bind fun⟨i,b⟩=>some ((YG.mk i b 0 0 false 0),true)else((if a.RepeatEnd !=0 then some (YG.mk false 0 0 0 false 0)else some (YG.mk x1.started (bE (x1.body+1)) x1.used x1.ending x1.ended x1.passes):aB (YG))).bind fun c=>some (c,true)
theorem yB1 {k} (d) (x1:YG) (a:YM):OD k (d+4) 88 [.agg (YG.g x1),.agg (YM.g a)]=(Wm x1 a).map (fun⟨l,m⟩=>.tup [.agg (YG.g l),bv m]):=by
 refine oe rfl ?_;refine io ?_ ?_;refine bo (oK1 d x1 a) fun⟨x3,n⟩=>?_;rfl;refine io ?_ ?_;refine bo (Pb (d+2) x1) fun o=>?_;refine io rfl ?_;refine io ?_ ?_;refine io rfl ?_;refine bo (e:=(fun(⟨f,h⟩:Bool×Int)=>(nq [(2,.ref 0 0),(4,.ref 2 0)] [(2,.box [bv false,i64 0,i64 0,i64 0,bv false,i64 0]),(1,.box (YM.g a)),(0,.box [bv f,i64 h,i64 0,i64 0,bv false,i64 0])]))) ?_ fun⟨f,h⟩=>?_;refine io rfl rfl;rfl;refine bo (e:=(fun(i:Int)=>(nq [(2,.ref 0 0),(4,.ref 2 0)] [(2,.box [bv false,i64 0,i64 0,i64 0,bv false,i64 0]),(1,.box (YM.g a)),(0,.box [bv false,i64 i,i64 0,i64 0,bv false,i64 0])]))) ?_ fun i=>?_;refine io rfl rfl;rfl;refine io ?_ ?_;refine io rfl ?_;refine bo (e:=(fun(⟨j,b⟩:Bool×Int)=>(nq [(2,.ref 0 0),(4,.ref 2 0)] [(2,.box [bv false,i64 0,i64 0,i64 0,bv false,i64 0]),(1,.box (YM.g a)),(0,.box [bv j,i64 b,i64 0,i64 0,bv false,i64 0])]))) ?_ fun⟨j,b⟩=>?_;refine io rfl rfl;rfl;refine bo (e:=(fun(c:YG)=>(nq [(2,.ref 0 0),(4,.ref 2 0)] [(2,.box [bv false,i64 0,i64 0,i64 0,bv false,i64 0]),(1,.box (YM.g a)),(0,.box (YG.g c))]))) ?_ fun c=>?_;refine io rfl rfl;rfl
def Jk (x1:aA YV) (a:Y0) (x3:Int):aB (aA YV):=
 (tV x1 a x3).bind fun e=>if decide ((e.length:Int)>(x1.length:Int))then some e else(aU (E:=(YG×(aA YV))⊕YG) (fun(⟨n,b⟩:Int×YG)=>if decide (n<(a.Measures.length:Int))then(aW a.Measures n).bind fun c=>(Wm b c).bind fun⟨d,f⟩=>if !f then(iL true c.ID e a x3).bind fun g=>some (.inr (.inl (d,g)))else some (.inl ((bE (n+1)),d))else some (.inr (.inr b))) bC (0,(YG.mk false 0 0 0 false 0))).bind fun h=>(match h with|.inl ⟨x15,x16⟩=>some x16|.inr x17=>((if x17.started&&(x17.ending==0)then some true else((if x17.ending !=0 then(Pp x17).bind fun i=>some (!i)else some false:aB (Bool))).bind fun j=>some j:aB (Bool))).bind fun k=>(aW a.Measures (bE ((a.Measures.length:Int)-1))).bind fun l=>(iL k l.ID e a x3).bind fun m=>some m)
theorem oL1 {k} (d) (x1:aA YV) (a:Y0) (x3:Int):eJ (XD k (d+5)) 39 [.ref 1 0] [(2,.lst 111 3 false (I YV.g x1)),(1,.box (ck a x3 (.own 2)))] 3 false=(Jk x1 a x3).map (fun(n:aA YV)=>((.tup [],[(2,.lst 111 3 false (I YV.g n)),(1,.box (ck a x3 (.own 2)))],0))):=by
 rw[xd (fn:=p39) rfl];refine bz (cV YV.g x1) ?_;refine bo (cE1 (d+1) x1 a x3) fun i=>?_;refine bz (cV YV.g i) ?_;refine io rfl ?_;refine bz lm ?_;refine bo (aL (S:=Int×YG) (enc:=fun⟨o,b⟩=>(Q [(0,.ref 1 0),(3,.ref 3 0),(26,.is 22 (I YM.g a.Measures)),(27,i64 (a.Measures.length:Int)),(28,i64 o)] [(3,.box (YG.g b)),(2,.lst 111 3 false (I YV.g i)),(1,.box (ck a x3 (.own 2)))])) (encE:=(fun|.inl ⟨f,h⟩=>(rq [(3,.ref 3 0)] [(3,.box (YG.g f)),(2,.lst 111 3 false (I YV.g h)),(1,.box (ck a x3 (.own 2)))])|.inr x17=>(xq 0 [(0,.ref 1 0),(3,.ref 3 0)] [(3,.box (YG.g x17)),(2,.lst 111 3 false (I YV.g i)),(1,.box (ck a x3 (.own 2)))]))) (fun⟨o,b⟩=>?_) bC (0,(YG.mk false 0 0 0 false 0))) fun j=>?_;refine io ?_ rfl;refine bo rg fun c=>?_;refine bo (yB1 d b c) fun⟨p,q⟩=>?_;refine io ?_ rfl;refine bo (gH (d+3) true c.ID i a x3) fun r=>?_;rfl;rcases j with⟨f,h⟩|x17;rfl;refine bz (eZ rfl) ?_;refine bo (e:=id) ?_ fun l=>?_;refine io rfl ?_;refine bo (e:=id) ?_ fun t=>?_;refine io ?_ rfl;refine bo (Pb (d+3) x17) fun s=>?_;rfl;rfl;refine bz lm ?_;refine bo rg fun m=>?_;refine bo (gH (d+3) l m.ID i a x3) fun u=>?_;rfl
def F91 (x1 a:YM):aB Bool:=
 some (((a.Jump !=0)&&(x1.Jump !=0))||((cU .i64 a.Labels x1.Labels)!=0))
theorem yC1 {k} (d) (x1 a:YM):OD k (d+1) 91 [.agg (YM.g x1),.ip (YM.g a)]=(F91 x1 a).map bv:=by
 refine oe rfl ?_;refine bz (eZ rfl) ?_;refine bz (fR rfl) ?_;rfl
def F98 (x1:aA YM) (b:YM):aB Int:=
 (aU (E:=Int⊕Unit) (fun(a:Int)=>if decide (a<(x1.length:Int))then(aW x1 a).bind fun c=>(F91 c b).bind fun d=>if d then some (.inr (.inl a))else some (.inl (bE (a+1)))else some (.inr (.inr ()))) bC 0).bind fun e=>(match e with|.inl x8=>some x8|.inr _=>some (-1))
theorem yD1 {k} (d) (x1:aA YM) (a:YM):OD k (d+2) 98 [.is 22 (I YM.g x1),.fn 91 [] [.ip (YM.g a)]]=(F98 x1 a).map i64:=by
 refine oe rfl ?_;refine bz lm ?_;refine bo (aL (S:=Int) (enc:=fun b=>(Q [(0,.is 22 (I YM.g x1)),(1,.fn 91 [] [.ip (YM.g a)]),(7,i64 (x1.length:Int)),(8,i64 b)] [])) (encE:=(fun|.inl c=>(rq [(4,i64 c)] [])|.inr _=>(xq 0 [] []))) (fun b=>?_) bC 0) fun f=>?_;refine io ?_ rfl;refine bo rg fun e=>?_;refine bo (yC1 d e a) fun h=>?_;refine io rfl rfl;rcases f with c|_;rfl;rfl
def F92 (x1:aA YM) (a:YM):aB Bool:=
 (F98 x1 a).bind fun x3=>some (decide (x3>=0))
theorem yE1 {k} (d) (x1:aA YM) (a:YM):OD k (d+3) 92 [.is 22 (I YM.g x1),.fn 91 [] [.ip (YM.g a)]]=(F92 x1 a).map bv:=by
 refine oe rfl ?_;refine bo (yD1 d x1 a) fun x3=>?_;rfl
def Va (x1:YM) (a:Int):aB Bool:=
 some ((cU .i64 x1.Labels a)!=0)
theorem oP1 {k} (d) (x1:YM) (a:Int):OD k (d+1) 174 [.agg (YM.g x1),.ip [i64 a]]=(Va x1 a).map bv:=by
 refine oe rfl ?_;rfl
def Bc (x1:aA YM) (b:Int):aB Int:=
 (aU (E:=Int⊕Unit) (fun(a:Int)=>if decide (a<(x1.length:Int))then(aW x1 a).bind fun c=>(Va c b).bind fun d=>if d then some (.inr (.inl a))else some (.inl (bE (a+1)))else some (.inr (.inr ()))) bC 0).bind fun e=>(match e with|.inl x8=>some x8|.inr _=>some (-1))
theorem gZ1 {k} (d) (x1:aA YM) (a:Int):OD k (d+2) 98 [.is 22 (I YM.g x1),.fn 174 [] [.ip [i64 a]]]=(Bc x1 a).map i64:=by
 refine oe rfl ?_;refine bz lm ?_;refine bo (aL (S:=Int) (enc:=fun b=>(Q [(0,.is 22 (I YM.g x1)),(1,.fn 174 [] [.ip [i64 a]]),(7,i64 (x1.length:Int)),(8,i64 b)] [])) (encE:=(fun|.inl c=>(rq [(4,i64 c)] [])|.inr _=>(xq 0 [] []))) (fun b=>?_) bC 0) fun f=>?_;refine io ?_ rfl;refine bo rg fun e=>?_;refine bo (oP1 d e a) fun h=>?_;refine io rfl rfl;rcases f with c|_;rfl;rfl
def Jl (x1:YK) (a:Int):aB Int:=
 (Bc x1.s'.Measures a).bind fun x3=>some x3
theorem Vb {k} (d) (x1:YK) (a:Int):OD k (d+3) 144 [.ip (YK.g x1),i64 a]=(Jl x1 a).map i64:=by
 refine oe rfl ?_;refine bo (gZ1 d x1.s'.Measures a) fun x3=>?_;rfl
def Jn (x1:Int) (a:YK) (x3:Int):aB Bool:=
 (Jl a x1).bind fun b=>(vV b 0 x3).bind fun c=>some c
theorem Vc {k} (d) (x1:Int) (a:YK) (x3:Int):OD k (d+4) 143 [i64 x1,.ip [.ip (YK.g a)],.ip [i64 x3]]=(Jn x1 a x3).map bv:=by
 refine oe rfl ?_;refine bo (Vb d a x1) fun b=>?_;refine bo (oL (d+2) b 0 x3) fun c=>?_;rfl
def F93 (x1:YK) (a x3:Int):aB Bool:=
 ((if decide (a>=4)then(Jn 1 x1 x3).bind fun e=>some (!e)else some false:aB (Bool))).bind fun f=>if f then some false else((if a==2 then some (a==2)else some (a==5):aB (Bool))).bind fun g=>if g then(Jn 4 x1 x3).bind fun h=>some h else((if a==3 then some (a==3)else some (a==6):aB (Bool))).bind fun i=>if i then(Jn 8 x1 x3).bind fun j=>((if j then(Jl x1 2).bind fun b=>(Jl x1 8).bind fun c=>some (decide (b>c))else some false:aB (Bool))).bind fun d=>some d else some true
theorem yF1 {k} (d) (x1:YK) (a x3:Int):OD k (d+5) 93 [.ip (YK.g x1),i64 a,i64 x3]=(F93 x1 a x3).map bv:=by
 refine oe rfl ?_;refine bo (e:=id) ?_ fun l=>?_;refine io ?_ rfl;refine bo (Vc d 1 x1 x3) fun j=>?_;rfl;refine io rfl ?_;refine bo (e:=(fun(b:Bool)=>(nq [(3,.ref 0 0),(7,.fn 143 [] [.ref 0 0,.ref 1 0]),(16,i64 a),(17,bv b)] [(1,.box [i64 x3]),(0,.box [.ip (YK.g x1)])]))) ?_ fun b=>?_;refine io rfl rfl;refine io ?_ ?_;refine bo (Vc d 4 x1 x3) fun m=>?_;rfl;refine bo (e:=(fun(c:Bool)=>(nq [(3,.ref 0 0),(7,.fn 143 [] [.ref 0 0,.ref 1 0]),(22,bv c)] [(1,.box [i64 x3]),(0,.box [.ip (YK.g x1)])]))) ?_ fun c=>?_;refine io rfl rfl;refine io ?_ rfl;refine bo (Vc d 8 x1 x3) fun n=>?_;refine bo (e:=id) ?_ fun i=>?_;refine io ?_ rfl;refine bo (Vb (d+1) x1 2) fun f=>?_;refine bo (Vb (d+1) x1 8) fun h=>?_;rfl;rfl
def F90 (x1:Int) (a:YM) (x3:YK):aB Bool:=
 (vV a.Jump 0 6).bind fun c=>((if !c then some true else(vV a.Labels 0 15).bind fun d=>some (!d):aB (Bool))).bind fun e=>if e||(((a.Jump !=0)||(a.Labels !=0))&&((a.RepeatEnd !=0)||(a.Endings !=0)))then some true else(mS x3.s'.Measures 0 x1).bind fun f=>(F92 f a).bind fun g=>((if g then some true else(F93 x3 a.Jump x1).bind fun h=>some (!h):aB (Bool))).bind fun b=>some b
theorem yG1 {k} (d) (x1:Int) (a:YM) (x3:YK):OD k (d+6) 90 [i64 x1,.agg (YM.g a),.ip [.ip (YK.g x3)]]=(F90 x1 a x3).map bv:=by
 refine oe rfl ?_;refine bo (oL (d+4) a.Jump 0 6) fun f=>?_;refine bo (e:=id) ?_ fun i=>?_;refine io rfl ?_;refine bo (oL (d+4) a.Labels 0 15) fun h=>?_;rfl;refine bz (fR (bz (fR rfl) (bz (eZ (bz (fR rfl) rfl)) rfl))) ?_;refine io rfl ?_;refine bo (sA _ _ _ _) fun c=>?_;refine bo (yE1 (d+2) c a) fun j=>?_;refine bo (e:=id) ?_ fun b=>?_;refine io rfl ?_;refine bo (yF1 d x3 a.Jump x1) fun l=>?_;rfl;rfl
def yO (x1:aA YV) (a:Y0) (x3:Int):aB (aA YV):=
 (aU (E:=aA YV) (fun(⟨b,f⟩:Int×(aA YV))=>if decide (b<(a.Measures.length:Int))then(aW a.Measures b).bind fun g=>(F90 b g (YK.mk a x3 f)).bind fun c=>(iL c g.ID f a x3).bind fun d=>some (.inl ((bE (b+1)),d))else some (.inr f)) bC (0,x1)).bind fun e=>some e
theorem cG1 {k} (d) (x1:aA YV) (a:Y0) (x3:Int):eJ (XD k (d+7)) 57 [.ref 1 0,.fn 90 [] [.ref 3 0]] [(3,.box [.ref 1 0]),(2,.lst 111 3 false (I YV.g x1)),(1,.box (ck a x3 (.own 2)))] 4 false=(yO x1 a x3).map (fun(f:aA YV)=>((.tup [],[(3,.box [.ref 1 0]),(2,.lst 111 3 false (I YV.g f)),(1,.box (ck a x3 (.own 2)))],0))):=by
 rw[xd (fn:=Yv) rfl];refine bz lm ?_;refine bo (aL (S:=Int×(aA YV)) (enc:=fun⟨h,c⟩=>(Q [(0,.ref 1 0),(1,.fn 90 [] [.ref 3 0]),(10,.is 22 (I YM.g a.Measures)),(11,i64 (a.Measures.length:Int)),(12,i64 h)] [(3,.box [.ref 1 0]),(2,.lst 111 3 false (I YV.g c)),(1,.box (ck a x3 (.own 2)))])) (encE:=(fun(b:aA YV)=>(xq 0 [] [(3,.box [.ref 1 0]),(2,.lst 111 3 false (I YV.g b)),(1,.box (ck a x3 (.own 2)))]))) (fun⟨h,c⟩=>?_) bC (0,x1)) fun b=>?_;refine io ?_ rfl;refine bo rg fun i=>?_;refine bo (yG1 d h i (YK.mk a x3 c)) fun e=>?_;refine bo (gH (d+5) e i.ID c a x3) fun j=>?_;rfl;rfl
def Jo (x1:aA YV) (a:Y0) (x3:Int):aB (aA YV):=
 (yO x1 a x3).bind fun b=>some b
theorem oR1 {k} (d) (x1:aA YV) (a:Y0) (x3:Int):eJ (XD k (d+8)) 40 [.ref 1 0] [(2,.lst 111 3 false (I YV.g x1)),(1,.box (ck a x3 (.own 2)))] 3 false=(Jo x1 a x3).map (fun(b:aA YV)=>((.tup [],[(2,.lst 111 3 false (I YV.g b)),(1,.box (ck a x3 (.own 2)))],0))):=by
 rw[xd (fn:=p40) rfl];refine bo (cG1 d x1 a x3) fun c=>?_;rfl
def F94 (x1:Int) (c:YM):aB Bool:=
 (Zh c).bind fun⟨x3,q⟩=>((if c.Swing !=0 then(vV c.Swing 50 75).bind fun m=>some (!m)else some false:aB (Bool))).bind fun n=>((if n then some true else(vV c.Break 0 3).bind fun o=>some (!o):aB (Bool))).bind fun p=>(aU (E:=Bool) (fun(⟨d,a⟩:Bool×Int)=>if decide (a<(c.Tempi.length:Int))then(aW c.Tempi a).bind fun b=>((if d then some true else(vV b.At 0 (bE (x3-1))).bind fun e=>some (!e):aB (Bool))).bind fun f=>((if f then some true else(vV b.Micros 1 60000000).bind fun g=>some (!g):aB (Bool))).bind fun h=>((if h then some true else((if decide (a>0)then(aW c.Tempi (bE (a-1))).bind fun i=>some (decide (b.At<=i.At))else some false:aB (Bool))).bind fun j=>some j:aB (Bool))).bind fun k=>some (.inl (k,(bE (a+1))))else some (.inr d)) bC (p,0)).bind fun l=>some l
theorem yH1 {k} (d) (x1:Int) (a:YM):OD k (d+5) 94 [i64 x1,.agg (YM.g a)]=(F94 x1 a).map bv:=by
 refine oe rfl ?_;refine bo (Ou d a) fun⟨x3,r⟩=>?_;refine bo (e:=id) ?_ fun t=>?_;refine io ?_ rfl;refine bo (oL (d+3) a.Swing 50 75) fun s=>?_;rfl;refine bo (e:=id) ?_ fun q=>?_;refine io rfl ?_;refine bo (oL (d+3) a.Break 0 3) fun u=>?_;rfl;refine bz lm ?_;refine bo (aL (S:=Bool×Int) (enc:=fun⟨b,c⟩=>(Q [(3,.ref 0 0),(5,i64 x3),(7,bv b),(31,.is 3 (I YT.g a.Tempi)),(32,i64 (a.Tempi.length:Int)),(33,i64 c)] [(0,.box (YM.g a))])) (encE:=(fun(h:Bool)=>(xq 0 [(7,bv h)] [(0,.box (YM.g a))]))) (fun⟨b,c⟩=>?_) bC (q,0)) fun h=>?_;refine io ?_ rfl;refine bo rg fun f=>?_;refine bo (e:=id) ?_ fun j=>?_;refine io rfl ?_;refine bo (oL (d+3) f.At 0 (bE (x3-1))) fun i=>?_;rfl;refine bo (e:=id) ?_ fun m=>?_;refine io rfl ?_;refine bo (oL (d+3) f.Micros 1 60000000) fun l=>?_;rfl;refine bo (e:=id) ?_ fun p=>?_;refine io rfl ?_;refine bo (e:=id) ?_ fun o=>?_;refine io ?_ rfl;refine bo rg fun n=>?_;rfl;rfl;rfl;rfl
def Dt (x1:aA YV) (e:Y0) (x3:Int):aB (aA YV):=
 (aU (E:=aA YV) (fun(⟨a,f⟩:Int×(aA YV))=>if decide (a<(e.Measures.length:Int))then(aW e.Measures a).bind fun g=>(F94 a g).bind fun b=>(iL b g.ID f e x3).bind fun c=>some (.inl ((bE (a+1)),c))else some (.inr f)) bC (0,x1)).bind fun d=>some d
theorem cH1 {k} (d) (x1:aA YV) (a:Y0) (x3:Int):eJ (XD k (d+6)) 57 [.ref 1 0,.fn 94 [] []] [(2,.lst 111 3 false (I YV.g x1)),(1,.box (ck a x3 (.own 2)))] 3 false=(Dt x1 a x3).map (fun(e:aA YV)=>((.tup [],[(2,.lst 111 3 false (I YV.g e)),(1,.box (ck a x3 (.own 2)))],0))):=by
 rw[xd (fn:=Yv) rfl];refine bz lm ?_;refine bo (aL (S:=Int×(aA YV)) (enc:=fun⟨f,h⟩=>(Q [(0,.ref 1 0),(1,.fn 94 [] []),(10,.is 22 (I YM.g a.Measures)),(11,i64 (a.Measures.length:Int)),(12,i64 f)] [(2,.lst 111 3 false (I YV.g h)),(1,.box (ck a x3 (.own 2)))])) (encE:=(fun(b:aA YV)=>(xq 0 [] [(2,.lst 111 3 false (I YV.g b)),(1,.box (ck a x3 (.own 2)))]))) (fun⟨f,h⟩=>?_) bC (0,x1)) fun b=>?_;refine io ?_ rfl;refine bo rg fun i=>?_;refine bo (yH1 d f i) fun c=>?_;refine bo (gH (d+4) c i.ID h a x3) fun j=>?_;rfl;rfl
def Vd (x1:aA YV) (a:Y0) (x3:Int):aB (aA YV):=
 (Dt x1 a x3).bind fun b=>some b
theorem oS1 {k} (d) (x1:aA YV) (a:Y0) (x3:Int):eJ (XD k (d+7)) 41 [.ref 1 0] [(2,.lst 111 3 false (I YV.g x1)),(1,.box (ck a x3 (.own 2)))] 3 false=(Vd x1 a x3).map (fun(b:aA YV)=>((.tup [],[(2,.lst 111 3 false (I YV.g b)),(1,.box (ck a x3 (.own 2)))],0))):=by
 rw[xd (fn:=p41) rfl];refine bo (cH1 d x1 a x3) fun c=>?_;rfl
def F95 (x1:YP) (d:YE) (x3:YK):aB Bool:=
 (F80 x3.s' x1).bind fun⟨c,e⟩=>((if !e then some true else(F79 d).bind fun f=>some (!f):aB (Bool))).bind fun g=>if g||(c.Measure==x1.Measure)then some false else(aW x3.s'.Measures x1.Measure).bind fun a=>(aW x3.s'.Measures c.Measure).bind fun b=>some ((((((a.RepeatEnd !=0)||(a.Jump !=0))||((cU .i64 a.Labels 12)!=0))||(a.Endings !=b.Endings))||b.RepeatStart)||((cU .i64 b.Labels 3)!=0))
theorem yI1 {k} (d) (x1:YP) (a:YE) (x3:YK):OD k (d+5) 95 [.agg (YP.g x1),.agg (YE.g a),.ip [.ip (YK.g x3)]]=(F95 x1 a x3).map bv:=by
 refine oe rfl ?_;refine bo (nS1 (d+1) x3.s' x1) fun⟨b,c⟩=>?_;refine bo (e:=id) ?_ fun h=>?_;refine io rfl ?_;refine bo (nQ1 d a) fun f=>?_;rfl;refine bz (fR rfl) ?_;refine io rfl ?_;refine bo rg fun i=>?_;refine bo rg fun j=>?_;refine bz (fR rfl) ?_;refine bz (fR rfl) ?_;refine bz (fR rfl) ?_;refine bz (fR rfl) ?_;refine bz (fR rfl) ?_;rfl
def Du (x1:aA YV) (s:Y0) (x3:Int):aB (aA YV):=
 (aU (E:=aA YV) (fun(⟨c,m⟩:Int×(aA YV))=>if decide (c<(s.Measures.length:Int))then(aW s.Measures c).bind fun n=>(aU (E:=aA YV) (fun(⟨d,o⟩:Int×(aA YV))=>if decide (d<(n.Cells.length:Int))then(aW n.Cells d).bind fun p=>(aU (E:=aA YV) (fun(⟨e,q⟩:Int×(aA YV))=>if decide (e<(p.Voices.length:Int))then(aW p.Voices e).bind fun r=>(aU (E:=aA YV) (fun(⟨a,b⟩:Int×(aA YV))=>if decide (a<(r.Events.length:Int))then(aW r.Events a).bind fun f=>(F95 (YP.mk 4 0 d c e a 0) f (YK.mk s x3 b)).bind fun g=>(iL g f.ID b s x3).bind fun h=>some (.inl ((bE (a+1)),h))else some (.inr b)) bC (0,q)).bind fun i=>some (.inl ((bE (e+1)),i))else some (.inr q)) bC (0,o)).bind fun j=>some (.inl ((bE (d+1)),j))else some (.inr o)) bC (0,m)).bind fun k=>some (.inl ((bE (c+1)),k))else some (.inr m)) bC (0,x1)).bind fun l=>some l
theorem cI1 {k} (d) (x1:aA YV) (c:Y0) (x3:Int):eJ (XD k (d+6)) 67 [.ref 1 0,.fn 95 [] [.ref 3 0]] [(3,.box [.ref 1 0]),(2,.lst 111 3 false (I YV.g x1)),(1,.box (ck c x3 (.own 2)))] 4 false=(Du x1 c x3).map (fun(v:aA YV)=>((.tup [],[(3,.box [.ref 1 0]),(2,.lst 111 3 false (I YV.g v)),(1,.box (ck c x3 (.own 2)))],0))):=by
 rw[xd (fn:=p67) rfl];refine bz lm ?_;refine bo (aL (S:=Int×(aA YV)) (enc:=fun⟨b,r⟩=>(Q [(0,.ref 1 0),(1,.fn 95 [] [.ref 3 0]),(16,.is 22 (I YM.g c.Measures)),(17,i64 (c.Measures.length:Int)),(18,i64 b)] [(3,.box [.ref 1 0]),(2,.lst 111 3 false (I YV.g r)),(1,.box (ck c x3 (.own 2)))])) (encE:=(fun(q:aA YV)=>(xq 0 [] [(3,.box [.ref 1 0]),(2,.lst 111 3 false (I YV.g q)),(1,.box (ck c x3 (.own 2)))]))) (fun⟨b,r⟩=>?_) bC (0,x1)) fun q=>?_;refine io ?_ rfl;refine bo rg fun a=>?_;refine bz lm ?_;refine bo (aL (S:=Int×(aA YV)) (enc:=fun⟨e,s⟩=>(Q [(0,.ref 1 0),(1,.fn 95 [] [.ref 3 0]),(4,i64 b),(16,.is 22 (I YM.g c.Measures)),(17,i64 (c.Measures.length:Int)),(18,i64 b),(24,.is 2 (I YW.g a.Cells)),(25,i64 (a.Cells.length:Int)),(26,i64 e)] [(4,.box (YM.g a)),(3,.box [.ref 1 0]),(2,.lst 111 3 false (I YV.g s)),(1,.box (ck c x3 (.own 2)))])) (encE:=(fun(p:aA YV)=>(xq 2 [(0,.ref 1 0),(1,.fn 95 [] [.ref 3 0]),(16,.is 22 (I YM.g c.Measures)),(17,i64 (c.Measures.length:Int)),(18,i64 b)] [(4,.box (YM.g a)),(3,.box [.ref 1 0]),(2,.lst 111 3 false (I YV.g p)),(1,.box (ck c x3 (.own 2)))]))) (fun⟨e,s⟩=>?_) bC (0,r)) fun p=>?_;refine io ?_ rfl;refine bo rg fun f=>?_;refine bz lm ?_;refine bo (aL (S:=Int×(aA YV)) (enc:=fun⟨i,t⟩=>(Q [(0,.ref 1 0),(1,.fn 95 [] [.ref 3 0]),(4,i64 b),(6,i64 e),(16,.is 22 (I YM.g c.Measures)),(17,i64 (c.Measures.length:Int)),(18,i64 b),(24,.is 2 (I YW.g a.Cells)),(25,i64 (a.Cells.length:Int)),(26,i64 e),(32,.is 2 (I YO.g f.Voices)),(33,i64 (f.Voices.length:Int)),(34,i64 i)] [(5,.box (YW.g f)),(4,.box (YM.g a)),(3,.box [.ref 1 0]),(2,.lst 111 3 false (I YV.g t)),(1,.box (ck c x3 (.own 2)))])) (encE:=(fun(o:aA YV)=>(xq 4 [(0,.ref 1 0),(1,.fn 95 [] [.ref 3 0]),(4,i64 b),(16,.is 22 (I YM.g c.Measures)),(17,i64 (c.Measures.length:Int)),(18,i64 b),(24,.is 2 (I YW.g a.Cells)),(25,i64 (a.Cells.length:Int)),(26,i64 e)] [(5,.box (YW.g f)),(4,.box (YM.g a)),(3,.box [.ref 1 0]),(2,.lst 111 3 false (I YV.g o)),(1,.box (ck c x3 (.own 2)))]))) (fun⟨i,t⟩=>?_) bC (0,s)) fun o=>?_;refine io ?_ rfl;refine bo rg fun l=>?_;refine bz lm ?_;refine bo (aL (S:=Int×(aA YV)) (enc:=fun⟨j,h⟩=>(Q [(0,.ref 1 0),(1,.fn 95 [] [.ref 3 0]),(4,i64 b),(6,i64 e),(8,i64 i),(16,.is 22 (I YM.g c.Measures)),(17,i64 (c.Measures.length:Int)),(18,i64 b),(24,.is 2 (I YW.g a.Cells)),(25,i64 (a.Cells.length:Int)),(26,i64 e),(32,.is 2 (I YO.g f.Voices)),(33,i64 (f.Voices.length:Int)),(34,i64 i),(40,.is 13 (I YE.g l.Events)),(41,i64 (l.Events.length:Int)),(42,i64 j)] [(6,.box (YO.g l)),(5,.box (YW.g f)),(4,.box (YM.g a)),(3,.box [.ref 1 0]),(2,.lst 111 3 false (I YV.g h)),(1,.box (ck c x3 (.own 2)))])) (encE:=(fun(n:aA YV)=>(xq 6 [(0,.ref 1 0),(1,.fn 95 [] [.ref 3 0]),(4,i64 b),(6,i64 e),(16,.is 22 (I YM.g c.Measures)),(17,i64 (c.Measures.length:Int)),(18,i64 b),(24,.is 2 (I YW.g a.Cells)),(25,i64 (a.Cells.length:Int)),(26,i64 e),(32,.is 2 (I YO.g f.Voices)),(33,i64 (f.Voices.length:Int)),(34,i64 i)] [(6,.box (YO.g l)),(5,.box (YW.g f)),(4,.box (YM.g a)),(3,.box [.ref 1 0]),(2,.lst 111 3 false (I YV.g n)),(1,.box (ck c x3 (.own 2)))]))) (fun⟨j,h⟩=>?_) bC (0,t)) fun n=>?_;refine io ?_ rfl;refine bo rg fun m=>?_;refine bo (yI1 d (YP.mk 4 0 e b i j 0) m (YK.mk c x3 h)) fun u=>?_;refine bo (gH (d+4) u m.ID h c x3) fun w=>?_;rfl;rfl;rfl;rfl;rfl
def Ve (x1:aA YV) (a:Y0) (x3:Int):aB (aA YV):=
 (Du x1 a x3).bind fun b=>some b
theorem oT1 {k} (d) (x1:aA YV) (a:Y0) (x3:Int):eJ (XD k (d+7)) 42 [.ref 1 0] [(2,.lst 111 3 false (I YV.g x1)),(1,.box (ck a x3 (.own 2)))] 3 false=(Ve x1 a x3).map (fun(b:aA YV)=>((.tup [],[(2,.lst 111 3 false (I YV.g b)),(1,.box (ck a x3 (.own 2)))],0))):=by
 rw[xd (fn:=p42) rfl];refine bo (cI1 d x1 a x3) fun c=>?_;rfl
def F18 (x1:Y0):aB (aA YV):=
 ((if decide ((([]:aA YV).length:Int)>0)then((if false then some true else((if false then(fQ ([]:aA YV) 0).bind fun x2=>(gL ([]:aA YV) x2).bind fun x3=>some (decide (x3.Rule<10))else some false:aB (Bool))).bind fun x4=>some x4:aB (Bool))).bind fun x5=>some x5 else some false:aB (Bool))).bind fun x6=>if x6 then some []else(Jh [] x1 1).bind fun t=>((if decide ((t.length:Int)>0)then((if true then some true else((if false then(fQ t 0).bind fun x8=>(gL t x8).bind fun x9=>some (decide (x9.Rule<10))else some false:aB (Bool))).bind fun u=>some u:aB (Bool))).bind fun v=>some v else some false:aB (Bool))).bind fun w=>if w then some t else(Tm t x1 2).bind fun a=>((if decide ((a.length:Int)>0)then((if false then some true else((if false then(fQ a 0).bind fun x=>(gL a x).bind fun y=>some (decide (y.Rule<10))else some false:aB (Bool))).bind fun z=>some z:aB (Bool))).bind fun A=>some A else some false:aB (Bool))).bind fun B=>if B then some a else(Tn a x1 3).bind fun b=>((if decide ((b.length:Int)>0)then((if false then some true else((if false then(fQ b 0).bind fun C=>(gL b C).bind fun D=>some (decide (D.Rule<10))else some false:aB (Bool))).bind fun E=>some E:aB (Bool))).bind fun F=>some F else some false:aB (Bool))).bind fun G=>if G then some b else(Tp b x1 4).bind fun c=>((if decide ((c.length:Int)>0)then((if false then some true else((if false then(fQ c 0).bind fun H=>(gL c H).bind fun J=>some (decide (J.Rule<10))else some false:aB (Bool))).bind fun K=>some K:aB (Bool))).bind fun L=>some L else some false:aB (Bool))).bind fun M=>if M then some c else(Tq c x1 5).bind fun d=>((if decide ((d.length:Int)>0)then((if false then some true else((if false then(fQ d 0).bind fun N=>(gL d N).bind fun O=>some (decide (O.Rule<10))else some false:aB (Bool))).bind fun P=>some P:aB (Bool))).bind fun R=>some R else some false:aB (Bool))).bind fun S=>if S then some d else(Uc d x1 6).bind fun e=>((if decide ((e.length:Int)>0)then((if false then some true else((if false then(fQ e 0).bind fun T=>(gL e T).bind fun U=>some (decide (U.Rule<10))else some false:aB (Bool))).bind fun V=>some V:aB (Bool))).bind fun W=>some W else some false:aB (Bool))).bind fun X=>if X then some e else(Ud e x1 7).bind fun f=>((if decide ((f.length:Int)>0)then((if false then some true else((if false then(fQ f 0).bind fun Y=>(gL f Y).bind fun Z=>some (decide (Z.Rule<10))else some false:aB (Bool))).bind fun a0=>some a0:aB (Bool))).bind fun b0=>some b0 else some false:aB (Bool))).bind fun b4=>if b4 then some f else(Ue f x1 8).bind fun g=>((if decide ((g.length:Int)>0)then((if false then some true else((if false then(fQ g 0).bind fun b5=>(gL g b5).bind fun b6=>some (decide (b6.Rule<10))else some false:aB (Bool))).bind fun b7=>some b7:aB (Bool))).bind fun b8=>some b8 else some false:aB (Bool))).bind fun b9=>if b9 then some g else(Uf g x1 9).bind fun h=>((if decide ((h.length:Int)>0)then((if false then some true else((if true then(fQ h 0).bind fun d0=>(gL h d0).bind fun d1=>some (decide (d1.Rule<10))else some false:aB (Bool))).bind fun d2=>some d2:aB (Bool))).bind fun d3=>some d3 else some false:aB (Bool))).bind fun d4=>if d4 then some h else(Ui h x1 10).bind fun i=>((if decide ((i.length:Int)>0)then((if false then some true else((if true then(fQ i 0).bind fun d5=>(gL i d5).bind fun d6=>some (decide (d6.Rule<10))else some false:aB (Bool))).bind fun d7=>some d7:aB (Bool))).bind fun d8=>some d8 else some false:aB (Bool))).bind fun d9=>if d9 then some i else(Uj i x1 11).bind fun j=>((if decide ((j.length:Int)>0)then((if false then some true else((if true then(fQ j 0).bind fun e0=>(gL j e0).bind fun e1=>some (decide (e1.Rule<10))else some false:aB (Bool))).bind fun e3=>some e3:aB (Bool))).bind fun e4=>some e4 else some false:aB (Bool))).bind fun e5=>if e5 then some j else(Us j x1 12).bind fun k=>((if decide ((k.length:Int)>0)then((if false then some true else((if true then(fQ k 0).bind fun e6=>(gL k e6).bind fun e7=>some (decide (e7.Rule<10))else some false:aB (Bool))).bind fun e8=>some e8:aB (Bool))).bind fun e9=>some e9 else some false:aB (Bool))).bind fun f0=>if f0 then some k else(Uy k x1 13).bind fun l=>((if decide ((l.length:Int)>0)then((if false then some true else((if true then(fQ l 0).bind fun f1=>(gL l f1).bind fun f2=>some (decide (f2.Rule<10))else some false:aB (Bool))).bind fun f3=>some f3:aB (Bool))).bind fun f5=>some f5 else some false:aB (Bool))).bind fun f6=>if f6 then some l else(Jk l x1 14).bind fun m=>((if decide ((m.length:Int)>0)then((if false then some true else((if true then(fQ m 0).bind fun f7=>(gL m f7).bind fun f8=>some (decide (f8.Rule<10))else some false:aB (Bool))).bind fun f9=>some f9:aB (Bool))).bind fun g1=>some g1 else some false:aB (Bool))).bind fun g3=>if g3 then some m else(Jo m x1 15).bind fun n=>((if decide ((n.length:Int)>0)then((if false then some true else((if true then(fQ n 0).bind fun g4=>(gL n g4).bind fun g5=>some (decide (g5.Rule<10))else some false:aB (Bool))).bind fun g6=>some g6:aB (Bool))).bind fun g7=>some g7 else some false:aB (Bool))).bind fun g8=>if g8 then some n else(Vd n x1 16).bind fun o=>((if decide ((o.length:Int)>0)then((if false then some true else((if true then(fQ o 0).bind fun g9=>(gL o g9).bind fun h0=>some (decide (h0.Rule<10))else some false:aB (Bool))).bind fun p=>some p:aB (Bool))).bind fun q=>some q else some false:aB (Bool))).bind fun r=>if r then some o else(Ve o x1 17).bind fun s=>some s
theorem yJ1 {k} (d) (x1:Y0):OD k (d+25) 18 [.agg (Y0.g x1)]=(F18 x1).map (fun y0=>.is 3 (I YV.g y0)):=by
 refine oe rfl ?_;refine bz (cV YV.g ([]:aA YV)) ?_;refine bo (e:=id) ?_ fun x6=>?_;refine io ?_ rfl;refine bo (e:=id) ?_ fun x5=>?_;refine io rfl ?_;refine bo (e:=id) ?_ fun x4=>?_;refine io ?_ rfl;refine bo (bU YV.g ([]:aA YV) _) fun x2=>?_;refine bo (cO (A:=YV) (c:=YV.g) (g:=fun x3=>i64 x3.Rule) (fun _=>rfl) ([]:aA YV) _) fun x3=>?_;rfl;rfl;rfl;refine io rfl ?_;refine bo (kU1 (d+19) [] x1 1) fun L=>?_;refine bz (cV YV.g L) ?_;refine bo (e:=id) ?_ fun U=>?_;refine io ?_ rfl;refine bo (e:=id) ?_ fun T=>?_;refine io rfl ?_;refine bo (e:=id) ?_ fun S=>?_;refine io ?_ rfl;refine bo (bU YV.g L _) fun x8=>?_;refine bo (cO (A:=YV) (c:=YV.g) (g:=fun R=>i64 R.Rule) (fun _=>rfl) L _) fun R=>?_;rfl;rfl;rfl;refine io rfl ?_;refine bo (kX1 (d+20) L x1 2) fun a=>?_;refine bz (cV YV.g a) ?_;refine bo (e:=id) ?_ fun Y=>?_;refine io ?_ rfl;refine bo (e:=id) ?_ fun X=>?_;refine io rfl ?_;refine bo (e:=id) ?_ fun W=>?_;refine io ?_ rfl;refine bo (bU YV.g a _) fun V=>?_;refine bo (cO (A:=YV) (c:=YV.g) (g:=fun u=>i64 u.Rule) (fun _=>rfl) a _) fun u=>?_;rfl;rfl;rfl;refine io rfl ?_;refine bo (lB1 (d+21) a x1 3) fun b=>?_;refine bz (cV YV.g b) ?_;refine bo (e:=id) ?_ fun b4=>?_;refine io ?_ rfl;refine bo (e:=id) ?_ fun b0=>?_;refine io rfl ?_;refine bo (e:=id) ?_ fun a0=>?_;refine io ?_ rfl;refine bo (bU YV.g b _) fun Z=>?_;refine bo (cO (A:=YV) (c:=YV.g) (g:=fun v=>i64 v.Rule) (fun _=>rfl) b _) fun v=>?_;rfl;rfl;rfl;refine io rfl ?_;refine bo (lL1 (d+17) b x1 4) fun f=>?_;refine bz (cV YV.g f) ?_;refine bo (e:=id) ?_ fun b8=>?_;refine io ?_ rfl;refine bo (e:=id) ?_ fun b7=>?_;refine io rfl ?_;refine bo (e:=id) ?_ fun b6=>?_;refine io ?_ rfl;refine bo (bU YV.g f _) fun b5=>?_;refine bo (cO (A:=YV) (c:=YV.g) (g:=fun w=>i64 w.Rule) (fun _=>rfl) f _) fun w=>?_;rfl;rfl;rfl;refine io rfl ?_;refine bo (lN1 (d+17) f x1 5) fun h=>?_;refine bz (cV YV.g h) ?_;refine bo (e:=id) ?_ fun d2=>?_;refine io ?_ rfl;refine bo (e:=id) ?_ fun d1=>?_;refine io rfl ?_;refine bo (e:=id) ?_ fun d0=>?_;refine io ?_ rfl;refine bo (bU YV.g h _) fun b9=>?_;refine bo (cO (A:=YV) (c:=YV.g) (g:=fun x=>i64 x.Rule) (fun _=>rfl) h _) fun x=>?_;rfl;rfl;rfl;refine io rfl ?_;refine bo (nF1 d h x1 6) fun i=>?_;refine bz (cV YV.g i) ?_;refine bo (e:=id) ?_ fun d6=>?_;refine io ?_ rfl;refine bo (e:=id) ?_ fun d5=>?_;refine io rfl ?_;refine bo (e:=id) ?_ fun d4=>?_;refine io ?_ rfl;refine bo (bU YV.g i _) fun d3=>?_;refine bo (cO (A:=YV) (c:=YV.g) (g:=fun y=>i64 y.Rule) (fun _=>rfl) i _) fun y=>?_;rfl;rfl;rfl;refine io rfl ?_;refine bo (nG1 d i x1 7) fun j=>?_;refine bz (cV YV.g j) ?_;refine bo (e:=id) ?_ fun e0=>?_;refine io ?_ rfl;refine bo (e:=id) ?_ fun d9=>?_;refine io rfl ?_;refine bo (e:=id) ?_ fun d8=>?_;refine io ?_ rfl;refine bo (bU YV.g j _) fun d7=>?_;refine bo (cO (A:=YV) (c:=YV.g) (g:=fun z=>i64 z.Rule) (fun _=>rfl) j _) fun z=>?_;rfl;rfl;rfl;refine io rfl ?_;refine bo (nI1 (d+13) j x1 8) fun l=>?_;refine bz (cV YV.g l) ?_;refine bo (e:=id) ?_ fun e5=>?_;refine io ?_ rfl;refine bo (e:=id) ?_ fun e4=>?_;refine io rfl ?_;refine bo (e:=id) ?_ fun e3=>?_;refine io ?_ rfl;refine bo (bU YV.g l _) fun e1=>?_;refine bo (cO (A:=YV) (c:=YV.g) (g:=fun B=>i64 B.Rule) (fun _=>rfl) l _) fun B=>?_;rfl;rfl;rfl;refine io rfl ?_;refine bo (nN1 (d+13) l x1 9) fun m=>?_;refine bz (cV YV.g m) ?_;refine bo (e:=id) ?_ fun e9=>?_;refine io ?_ rfl;refine bo (e:=id) ?_ fun e8=>?_;refine io rfl ?_;refine bo (e:=id) ?_ fun e7=>?_;refine io ?_ rfl;refine bo (bU YV.g m _) fun e6=>?_;refine bo (cO (A:=YV) (c:=YV.g) (g:=fun C=>i64 C.Rule) (fun _=>rfl) m _) fun C=>?_;rfl;rfl;rfl;refine io rfl ?_;refine bo (nV1 (d+17) m x1 10) fun n=>?_;refine bz (cV YV.g n) ?_;refine bo (e:=id) ?_ fun f3=>?_;refine io ?_ rfl;refine bo (e:=id) ?_ fun f2=>?_;refine io rfl ?_;refine bo (e:=id) ?_ fun f1=>?_;refine io ?_ rfl;refine bo (bU YV.g n _) fun f0=>?_;refine bo (cO (A:=YV) (c:=YV.g) (g:=fun D=>i64 D.Rule) (fun _=>rfl) n _) fun D=>?_;rfl;rfl;rfl;refine io rfl ?_;refine bo (nY1 (d+21) n x1 11) fun o=>?_;refine bz (cV YV.g o) ?_;refine bo (e:=id) ?_ fun f8=>?_;refine io ?_ rfl;refine bo (e:=id) ?_ fun f7=>?_;refine io rfl ?_;refine bo (e:=id) ?_ fun f6=>?_;refine io ?_ rfl;refine bo (bU YV.g o _) fun f5=>?_;refine bo (cO (A:=YV) (c:=YV.g) (g:=fun E=>i64 E.Rule) (fun _=>rfl) o _) fun E=>?_;rfl;rfl;rfl;refine io rfl ?_;refine bo (oE1 (d+7) o x1 12) fun p=>?_;refine bz (cV YV.g p) ?_;refine bo (e:=id) ?_ fun g4=>?_;refine io ?_ rfl;refine bo (e:=id) ?_ fun g3=>?_;refine io rfl ?_;refine bo (e:=id) ?_ fun g1=>?_;refine io ?_ rfl;refine bo (bU YV.g p _) fun f9=>?_;refine bo (cO (A:=YV) (c:=YV.g) (g:=fun F=>i64 F.Rule) (fun _=>rfl) p _) fun F=>?_;rfl;rfl;rfl;refine io rfl ?_;refine bo (oI1 (d+7) p x1 13) fun q=>?_;refine bz (cV YV.g q) ?_;refine bo (e:=id) ?_ fun g8=>?_;refine io ?_ rfl;refine bo (e:=id) ?_ fun g7=>?_;refine io rfl ?_;refine bo (e:=id) ?_ fun g6=>?_;refine io ?_ rfl;refine bo (bU YV.g q _) fun g5=>?_;refine bo (cO (A:=YV) (c:=YV.g) (g:=fun G=>i64 G.Rule) (fun _=>rfl) q _) fun G=>?_;rfl;rfl;rfl;refine io rfl ?_;refine bo (oL1 (d+19) q x1 14) fun r=>?_;refine bz (cV YV.g r) ?_;refine bo (e:=id) ?_ fun h3=>?_;refine io ?_ rfl;refine bo (e:=id) ?_ fun h2=>?_;refine io rfl ?_;refine bo (e:=id) ?_ fun h0=>?_;refine io ?_ rfl;refine bo (bU YV.g r _) fun g9=>?_;refine bo (cO (A:=YV) (c:=YV.g) (g:=fun H=>i64 H.Rule) (fun _=>rfl) r _) fun H=>?_;rfl;rfl;rfl;refine io rfl ?_;refine bo (oR1 (d+16) r x1 15) fun s=>?_;refine bz (cV YV.g s) ?_;refine bo (e:=id) ?_ fun h7=>?_;refine io ?_ rfl;refine bo (e:=id) ?_ fun h6=>?_;refine io rfl ?_;refine bo (e:=id) ?_ fun h5=>?_;refine io ?_ rfl;refine bo (bU YV.g s _) fun h4=>?_;refine bo (cO (A:=YV) (c:=YV.g) (g:=fun J=>i64 J.Rule) (fun _=>rfl) s _) fun J=>?_;rfl;rfl;rfl;refine io rfl ?_;refine bo (oS1 (d+17) s x1 16) fun t=>?_;refine bz (cV YV.g t) ?_;refine bo (e:=id) ?_ fun O=>?_;refine io ?_ rfl;refine bo (e:=id) ?_ fun N=>?_;refine io rfl ?_;refine bo (e:=id) ?_ fun M=>?_;refine io ?_ rfl;refine bo (bU YV.g t _) fun h8=>?_;refine bo (cO (A:=YV) (c:=YV.g) (g:=fun K=>i64 K.Rule) (fun _=>rfl) t _) fun K=>?_;rfl;rfl;rfl;refine io rfl ?_;refine bo (oT1 (d+17) t x1 17) fun P=>?_;rfl
end Go.P
