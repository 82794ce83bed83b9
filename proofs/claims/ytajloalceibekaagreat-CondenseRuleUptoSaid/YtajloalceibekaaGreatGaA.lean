import Derived.Test.YtajloalceibekaaGreatLpB
import Derived.KernelRfl
import Derived.Test.YtajloalceibekaaGreatChecked
/- A text of the proof. -/
set_option linter.all false
set_option maxRecDepth 100000
set_option maxHeartbeats 2000000
namespace Go.P
open Go.Sim (Ex OpK CK)
structure Zz where
 Site:Int
 Number:Int
 deriving DecidableEq,Inhabited
def Zz.g (x:Zz):List PV:=[i64 x.Site,i64 x.Number]
structure Zl where
 Steps:Int
 Semitones:Int
 deriving DecidableEq,Inhabited
def Zl.g (x:Zl):List PV:=[i64 x.Steps,i64 x.Semitones]
structure Zf where
 ID:Zz
 Clef:Int
 deriving DecidableEq,Inhabited
def Zf.g (x:Zf):List PV:=[i64 x.ID.Site,i64 x.ID.Number,i64 x.Clef]
structure Zj where
 ID:Zz
 Name:ByteArray
 Transpose:Zl
 Staves:List Zf
 deriving Inhabited
def Zj.g (x:Zj):List PV:=[i64 x.ID.Site,i64 x.ID.Number,.v (.string x.Name),i64 x.Transpose.Steps,i64 x.Transpose.Semitones,.is 3 (List.map Zf.g x.Staves)]
structure Z6 where
 c0:Int
 c1:Int
 c2:Int
 c3:Int
 c4:Int
 c5:Int
 deriving DecidableEq,Inhabited
def Z6.g (x:Z6):List PV:=[i64 x.c0,i64 x.c1,i64 x.c2,i64 x.c3,i64 x.c4,i64 x.c5]
structure Zx where
 Count:Int
 Unit:Int
 Groups:Z6
 deriving DecidableEq,Inhabited
def Zx.g (x:Zx):List PV:=[i64 x.Count,i64 x.Unit,i64 x.Groups.c0,i64 x.Groups.c1,i64 x.Groups.c2,i64 x.Groups.c3,i64 x.Groups.c4,i64 x.Groups.c5]
structure Zt where
 At:Int
 Micros:Int
 Ramp:Bool
 deriving DecidableEq,Inhabited
def Zt.g (x:Zt):List PV:=[i64 x.At,i64 x.Micros,bv x.Ramp]
structure Zc where
 At:Int
 Clef:Int
 deriving DecidableEq,Inhabited
def Zc.g (x:Zc):List PV:=[i64 x.At,i64 x.Clef]
structure Za where
 Log:Int
 Dots:Int
 deriving DecidableEq,Inhabited
def Za.g (x:Za):List PV:=[i64 x.Log,i64 x.Dots]
structure Zh where
 Step:Int
 Alter:Int
 Octave:Int
 deriving DecidableEq,Inhabited
def Zh.g (x:Zh):List PV:=[i64 x.Step,i64 x.Alter,i64 x.Octave]
structure Zb where
 Pitch:Zh
 Tied:Bool
 Show:Int
 deriving DecidableEq,Inhabited
def Zb.g (x:Zb):List PV:=[i64 x.Pitch.Step,i64 x.Pitch.Alter,i64 x.Pitch.Octave,bv x.Tied,i64 x.Show]
structure Zd where
 Pitch:Zh
 Log:Int
 Slash:Bool
 deriving DecidableEq,Inhabited
def Zd.g (x:Zd):List PV:=[i64 x.Pitch.Step,i64 x.Pitch.Alter,i64 x.Pitch.Octave,i64 x.Log,bv x.Slash]
structure Zy where
 Text:ByteArray
 Link:Int
 deriving DecidableEq,Inhabited
def Zy.g (x:Zy):List PV:=[.v (.string x.Text),i64 x.Link]
structure Ze where
 ID:Zz
 Kind:Int
 Value:Za
 Heads:List Zb
 Graces:List Zd
 Articulations:Int
 Ornament:Int
 Dynamic:Int
 Lyrics:List Zy
 Stem:Int
 Beam:Int
 deriving Inhabited
def Ze.g (x:Ze):List PV:=[i64 x.ID.Site,i64 x.ID.Number,i64 x.Kind,i64 x.Value.Log,i64 x.Value.Dots,.is 5 (List.map Zb.g x.Heads),.is 5 (List.map Zd.g x.Graces),i64 x.Articulations,i64 x.Ornament,i64 x.Dynamic,.is 2 (List.map Zy.g x.Lyrics),i64 x.Stem,i64 x.Beam]
structure Zu where
 First:Int
 Count:Int
 Actual:Int
 Normal:Int
 deriving DecidableEq,Inhabited
def Zu.g (x:Zu):List PV:=[i64 x.First,i64 x.Count,i64 x.Actual,i64 x.Normal]
structure Zo where
 Events:List Ze
 Tuplets:List Zu
 deriving Inhabited
def Zo.g (x:Zo):List PV:=[.is 13 (List.map Ze.g x.Events),.is 4 (List.map Zu.g x.Tuplets)]
structure Zw where
 Clefs:List Zc
 Voices:List Zo
 deriving Inhabited
def Zw.g (x:Zw):List PV:=[.is 2 (List.map Zc.g x.Clefs),.is 2 (List.map Zo.g x.Voices)]
structure Zm where
 ID:Zz
 Metre:Zx
 Length:Int
 Fifths:Int
 RepeatStart:Bool
 RepeatEnd:Int
 Endings:Int
 Jump:Int
 Labels:Int
 Swing:Int
 Break:Int
 Rehearsal:ByteArray
 Tempi:List Zt
 Cells:List Zw
 deriving Inhabited
def Zm.g (x:Zm):List PV:=[i64 x.ID.Site,i64 x.ID.Number,i64 x.Metre.Count,i64 x.Metre.Unit,i64 x.Metre.Groups.c0,i64 x.Metre.Groups.c1,i64 x.Metre.Groups.c2,i64 x.Metre.Groups.c3,i64 x.Metre.Groups.c4,i64 x.Metre.Groups.c5,i64 x.Length,i64 x.Fifths,bv x.RepeatStart,i64 x.RepeatEnd,i64 x.Endings,i64 x.Jump,i64 x.Labels,i64 x.Swing,i64 x.Break,.v (.string x.Rehearsal),.is 3 (List.map Zt.g x.Tempi),.is 2 (List.map Zw.g x.Cells)]
structure Zn where
 ID:Zz
 Kind:Int
 From:Zz
 To:Zz
 deriving DecidableEq,Inhabited
def Zn.g (x:Zn):List PV:=[i64 x.ID.Site,i64 x.ID.Number,i64 x.Kind,i64 x.From.Site,i64 x.From.Number,i64 x.To.Site,i64 x.To.Number]
structure Z0 where
 Title:ByteArray
 Written:Bool
 Parts:List Zj
 Measures:List Zm
 Spanners:List Zn
 Last:List Zz
 deriving Inhabited
def Z0.g (x:Z0):List PV:=[.v (.string x.Title),bv x.Written,.is 6 (List.map Zj.g x.Parts),.is 22 (List.map Zm.g x.Measures),.is 7 (List.map Zn.g x.Spanners),.is 2 (List.map Zz.g x.Last)]
structure Zv where
 Rule:Int
 Object:Zz
 deriving DecidableEq,Inhabited
def Zv.g (x:Zv):List PV:=[i64 x.Rule,i64 x.Object.Site,i64 x.Object.Number]
structure Zi where
 name:ByteArray
 letter:Int
 line:Int
 octaves:Int
 middle:Int
 sharps:Int
 flats:Int
 deriving DecidableEq,Inhabited
def Zi.g (x:Zi):List PV:=[.v (.string x.name),.v (.int .u8 x.letter),i64 x.line,i64 x.octaves,i64 x.middle,i64 x.sharps,i64 x.flats]
structure Z9 where
 c0:Zi
 c1:Zi
 c2:Zi
 c3:Zi
 c4:Zi
 c5:Zi
 c6:Zi
 c7:Zi
 c8:Zi
 deriving DecidableEq,Inhabited
def Z9.g (x:Z9):List PV:=[.v (.string x.c0.name),.v (.int .u8 x.c0.letter),i64 x.c0.line,i64 x.c0.octaves,i64 x.c0.middle,i64 x.c0.sharps,i64 x.c0.flats,.v (.string x.c1.name),.v (.int .u8 x.c1.letter),i64 x.c1.line,i64 x.c1.octaves,i64 x.c1.middle,i64 x.c1.sharps,i64 x.c1.flats,.v (.string x.c2.name),.v (.int .u8 x.c2.letter),i64 x.c2.line,i64 x.c2.octaves,i64 x.c2.middle,i64 x.c2.sharps,i64 x.c2.flats,.v (.string x.c3.name),.v (.int .u8 x.c3.letter),i64 x.c3.line,i64 x.c3.octaves,i64 x.c3.middle,i64 x.c3.sharps,i64 x.c3.flats,.v (.string x.c4.name),.v (.int .u8 x.c4.letter),i64 x.c4.line,i64 x.c4.octaves,i64 x.c4.middle,i64 x.c4.sharps,i64 x.c4.flats,.v (.string x.c5.name),.v (.int .u8 x.c5.letter),i64 x.c5.line,i64 x.c5.octaves,i64 x.c5.middle,i64 x.c5.sharps,i64 x.c5.flats,.v (.string x.c6.name),.v (.int .u8 x.c6.letter),i64 x.c6.line,i64 x.c6.octaves,i64 x.c6.middle,i64 x.c6.sharps,i64 x.c6.flats,.v (.string x.c7.name),.v (.int .u8 x.c7.letter),i64 x.c7.line,i64 x.c7.octaves,i64 x.c7.middle,i64 x.c7.sharps,i64 x.c7.flats,.v (.string x.c8.name),.v (.int .u8 x.c8.letter),i64 x.c8.line,i64 x.c8.octaves,i64 x.c8.middle,i64 x.c8.sharps,i64 x.c8.flats]
structure Zk where
 s':Z0
 rule:Int
 list:List Zv
 deriving Inhabited
def Zk.g (x:Zk):List PV:=[.v (.string x.s'.Title),bv x.s'.Written,.is 6 (List.map Zj.g x.s'.Parts),.is 22 (List.map Zm.g x.s'.Measures),.is 7 (List.map Zn.g x.s'.Spanners),.is 2 (List.map Zz.g x.s'.Last),i64 x.rule,.is 3 (List.map Zv.g x.list)]
structure uD where
 c0:Int
 c1:Int
 c2:Int
 c3:Int
 c4:Int
 c5:Int
 c6:Int
 deriving DecidableEq,Inhabited
def uD.g (x:uD):List PV:=[i64 x.c0,i64 x.c1,i64 x.c2,i64 x.c3,i64 x.c4,i64 x.c5,i64 x.c6]
structure Zp where
 Kind:Int
 Part:Int
 Staff:Int
 Measure:Int
 Voice:Int
 Event:Int
 Spanner:Int
 deriving DecidableEq,Inhabited
def Zp.g (x:Zp):List PV:=[i64 x.Kind,i64 x.Part,i64 x.Staff,i64 x.Measure,i64 x.Voice,i64 x.Event,i64 x.Spanner]
structure Zq where
 Measure:Int
 At:Int
 Staff:Int
 Voice:Int
 deriving DecidableEq,Inhabited
def Zq.g (x:Zq):List PV:=[i64 x.Measure,i64 x.At,i64 x.Staff,i64 x.Voice]
structure Zs where
 Kind:Int
 From:Zq
 To:Zq
 deriving DecidableEq,Inhabited
def Zs.g (x:Zs):List PV:=[i64 x.Kind,i64 x.From.Measure,i64 x.From.At,i64 x.From.Staff,i64 x.From.Voice,i64 x.To.Measure,i64 x.To.At,i64 x.To.Staff,i64 x.To.Voice]
structure Zg where
 started:Bool
 body:Int
 used:Int
 ending:Int
 ended:Bool
 passes:Int
 deriving DecidableEq,Inhabited
def Zg.g (x:Zg):List PV:=[bv x.started,i64 x.body,i64 x.used,i64 x.ending,bv x.ended,i64 x.passes]
structure uE where
 c0:Int
 c1:Int
 deriving DecidableEq,Inhabited
def uE.g (x:uE):List PV:=[i64 x.c0,i64 x.c1]
structure dE where
 s':Z0
 staves:uE
 deriving Inhabited
def dE.g (x:dE):List PV:=[.v (.string x.s'.Title),bv x.s'.Written,.is 6 (List.map Zj.g x.s'.Parts),.is 22 (List.map Zm.g x.s'.Measures),.is 7 (List.map Zn.g x.s'.Spanners),.is 2 (List.map Zz.g x.s'.Last),i64 x.staves.c0,i64 x.staves.c1]
structure bX where
 c0:ByteArray
 c1:ByteArray
 deriving DecidableEq,Inhabited
def bX.g (x:bX):List PV:=[.v (.string x.c0),.v (.string x.c1)]
theorem cT1:cO1 (eA Zz.g) true [.i,.i]:=⟨fun _=>rfl,fun a b=>by
 cases a;cases b
 simp only[pQ,eA,Zz.g,i64,gL,nP,Zz.mk.injEq,oB1,mX1,and_self,nU1]
 repeat' (first|rfl|split)
 all_goals simp_all⟩
theorem dS:cO1 (eA Zp.g) true [.i,.i,.i,.i,.i,.i,.i]:=⟨fun _=>rfl,fun a b=>by
 cases a;cases b
 simp only[pQ,eA,Zp.g,i64,gL,nP,Zp.mk.injEq,oB1,mX1,and_self,nU1]
 repeat' (first|rfl|split)
 all_goals simp_all⟩
end Go.P
namespace Go.P.K
open Go.Sim (Ex OpK CK)
abbrev I {A B:Type} (f:A->B) (l:List A):List B:=l.map f
abbrev Q (e:Env) (h:Heap):PSt:=⟨e,h⟩
abbrev rq (e:Env) (h:Heap):Ex×PSt:=(.ret,⟨e,h⟩)
abbrev ck (s:Z0) (r:Int) (l:PV):List PV:=[.v (.string s.Title),bv s.Written,.is 6 (List.map Zj.g s.Parts),.is 22 (List.map Zm.g s.Measures),.is 7 (List.map Zn.g s.Spanners),.is 2 (List.map Zz.g s.Last),i64 r,l]
abbrev nq (e:Env) (h:Heap):Ex×PSt:=(.normal,⟨e,h⟩)
abbrev xq (n:Nat) (e:Env) (h:Heap):Ex×PSt:=(.exit n,⟨e,h⟩)
end Go.P.K
namespace Go.P.K
open Go.Sim (Ex OpK CK)
abbrev t (n:Nat):PX:=.t n
abbrev c (n:Int):PX:=.c (.v (.int .i64 n))
abbrev cn:PX:=.c (.v (.slice none 0 0))
abbrev ct:PX:=.c (.v (.bool true))
abbrev cf:PX:=.c (.v (.bool false))
abbrev J (n:Int):Value:=.int .i64 n
abbrev ZS:Value:=.string ⟨#[]⟩
abbrev ZB:Value:=.bool false
abbrev ZN:Value:=.slice none 0 0
abbrev o (d:Nat) (k:OpK) (xs:List PX) (l:List Nat) (r:POs):POs:=.op d k xs l r
abbrev m (d x:Nat) (r:POs):POs:=.op d .mov [.t x] [] r
abbrev M (d x:Nat) (r:POs):POs:=.op d .mov [.t x] [x] r
abbrev L (d x:Nat) (r:POs):POs:=.op d .loadS [.t x] [x] r
abbrev a (d k x:Nat) (r:POs):POs:=.op d (.fad k) [.t x] [] r
abbrev A (d k x:Nat) (r:POs):POs:=.op d (.fad k) [.t x] [x] r
abbrev b (d:Nat) (k:BinOp) (xs:List PX) (l:List Nat) (r:POs):POs:=.op d (.bin k) xs l r
abbrev f (d g:Nat) (xs:List PX) (l:List Nat) (r:POs):POs:=.op d (.callF g) xs l r
abbrev e (d k x:Nat) (l:List Nat) (r:POs):POs:=.op d (.ext k) [.t x] l r
abbrev O (d:Nat) (k:OpK) (x:Nat) (r:POs):POs:=.op d k [.t x] [x] r
abbrev B (d:Nat) (k:BinOp) (x:Nat) (n:Int) (r:POs):POs:=.op d (.bin k) [.t x,c n] [x] r
abbrev C (d:Nat) (k:BinOp) (x y:Nat) (r:POs):POs:=.op d (.bin k) [.t x,.t y] [x,y] r
abbrev U (d:Nat) (k:OpK) (l:List Nat) (r:POs):POs:=.op d k (l.map .t) l r
abbrev x (d g:Nat) (w:Bool) (s:POs) (y:PX) (l:List Nat) (r:POs):POs:=.ifx d g w s y l r
abbrev R (s:POs) (q:PC):PC:=.seq (.reg s) q
abbrev z0:List Value:=[ZS,ZB,ZN,ZN,ZN,ZN]
abbrev z1:List Value:=[(J 0),(J 0),ZS,(J 0),(J 0),ZN]
abbrev z2:List Value:=[(J 0),(J 0),(J 0)]
abbrev z3:List Value:=[(J 0),(J 0),(J 0),(J 0),(J 0),(J 0),(J 0),(J 0),(J 0),(J 0),(J 0),(J 0),ZB,(J 0),(J 0),(J 0),(J 0),(J 0),(J 0),ZS,ZN,ZN]
abbrev z4:List Value:=[(J 0),(J 0),(J 0),(J 0),(J 0),(J 0),(J 0)]
abbrev z5:List Value:=[(J 0),(J 0)]
abbrev z6:List Value:=[ZS,ZB,ZN,ZN,ZN,ZN,(J 0),(J 0)]
abbrev z7:List Value:=[ZS,ZB,ZN,ZN,ZN,ZN,(J 0),ZN]
abbrev z8:List Value:=[(J 0),(J 0),ZB]
abbrev z9:List Value:=[(.map none)]
abbrev z10:List Value:=[ZB,(J 0),(J 0),(J 0),ZB,(J 0)]
abbrev z11:List Value:=[(J 0),(J 0),(J 0),(J 0),(J 0),ZN,ZN,(J 0),(J 0),(J 0),ZN,(J 0),(J 0)]
abbrev z12:List Value:=[(J 0),(J 0),(J 0),(J 0)]
abbrev z13:List Value:=[ZS,(.int .u8 0),(J 0),(J 0),(J 0),(J 0),(J 0)]
abbrev z14:List Value:=[(J 0),(J 0),(J 0),ZB,(J 0)]
abbrev z15:List Value:=[(J 0),(J 0),(J 0),(J 0),(J 0),(J 0),(J 0),(J 0),(J 0)]
abbrev z16:List Value:=[.nilFunc,.nilFunc,.nilFunc,.nilFunc,.nilFunc,.nilFunc,.nilFunc]
abbrev z17:List Value:=[(J 0),(J 0),(J 0),(J 0),ZB]
abbrev z18:List Value:=[ZS,(.int .u8 0),(J 0),(J 0),(J 0),(J 0),(J 0),ZS,(.int .u8 0),(J 0),(J 0),(J 0),(J 0),(J 0),ZS,(.int .u8 0),(J 0),(J 0),(J 0),(J 0),(J 0),ZS,(.int .u8 0),(J 0),(J 0),(J 0),(J 0),(J 0),ZS,(.int .u8 0),(J 0),(J 0),(J 0),(J 0),(J 0),ZS,(.int .u8 0),(J 0),(J 0),(J 0),(J 0),(J 0),ZS,(.int .u8 0),(J 0),(J 0),(J 0),(J 0),(J 0),ZS,(.int .u8 0),(J 0),(J 0),(J 0),(J 0),(J 0),ZS,(.int .u8 0),(J 0),(J 0),(J 0),(J 0),(J 0)]
abbrev z19:List Value:=[(J 0),(J 0),(J 0),(J 0),(J 0),(J 0)]
end Go.P.K
namespace Go.P
open Go.Sim (Ex OpK CK)
def icAt:List Nat->Go.Sim.IC->Go.Sim.IC
 |[],c=>c
 |i::p,c=>match c with
  |.seq a b=>icAt p (bif Nat.beq i 0 then a else b)
  |.cond _ a b=>icAt p (bif Nat.beq i 0 then a else b)
  |.block _ a=>icAt p a
  |.loop a=>icAt p a
  |c=>c
noncomputable def ddf (f:Nat) (p:List Nat):Go.Sim.IC:=match Go.Proofs.Tryz.prog.funcs[f]? with
 |some fn=>match fn.body with
  |some c=>match Go.Sim.comp Go.Proofs.Tryz.prog c with
   |some ic=>icAt p ic
   |none=>.skip
  |none=>.skip
 |none=>.skip
noncomputable section
open K
def p4:PFn:=⟨74,[.tmp 4],R (O 2 (.box 31 6) 0<|o 4 .mov [cf] [4]<|.nil)<|R (o 12 (.loadA 6) [t 2] [4]<|O 13 (.callF 8) 12<|.sto (.store 6) [t 2,t 13] [13]<|.nil)<|.seq (R (o 14 (.loadA 6) [t 2] []<|O 15 (.callF 9) 14<|O 16 (.len 0) 15<|B 17 .eql 16 0<|.nil)<|.cond (t 17) (R (U 18 (.callF 5) []<|M 4 18<|.nil)<|.ret) (.skip))<|R (o 20 (.loadA 6) [t 2] []<|f 21 10 [t 20,c 0,c 1] [20]<|M 19 21<|e 22 0 19 []<|O 23 (.ext 1) 19<|M 5 22<|M 6 23<|.nil)<|R (o 25 (.loadA 6) [t 2] []<|f 26 11 [t 25,c 0,c 1] [25]<|M 24 26<|e 27 0 24 []<|e 28 1 24 []<|O 29 (.ext 2) 24<|U 7 (.alloc 31 z0) []<|.sto (.store 6) [t 7,t 27] [27]<|M 8 28<|M 9 29<|.nil)<|R (o 31 (.loadA 6) [t 2] []<|m 32 1<|U 33 (.build [ZS,ZS] []) []<|M 34 1<|f 35 12 [t 31,t 32,cn,t 33,c 1,t 34] [31,32,33,34]<|M 30 35<|e 36 0 30 []<|O 37 (.ext 1) 30<|U 10 (.alloc 31 z0) []<|.sto (.store 6) [t 10,t 36] [36]<|M 11 37<|.nil)<|R (U 38 (.callF 5) []<|M 39 38<|x 43 39 true (O 40 (.loadA 6) 2<|f 41 13 [t 40,c 0,c 1] [40]<|B 42 .eql 41 24<|.nil) (t 42) [2,39]<|M 44 43<|x 51 44 true (M 45 5<|O 46 (.len 0) 45<|M 47 8<|O 48 (.len 0) 47<|C 49 .add 46 48<|B 50 .eql 49 0<|.nil) (t 50) [5,8,44]<|M 52 51<|x 55 52 true (M 53 6<|B 54 .eql 53 24<|.nil) (t 54) [6,52]<|M 56 55<|x 59 56 true (M 57 9<|B 58 .eql 57 24<|.nil) (t 58) [9,56]<|M 60 59<|x 63 60 true (M 61 11<|B 62 .eql 61 24<|.nil) (t 62) [11,60]<|M 64 63<|x 68 64 true (O 65 (.loadA 6) 7<|U 66 (.build z0 []) []<|U 67 (.callF 14) [65,66]<|.nil) (t 67) [7,64]<|M 69 68<|x 73 69 true (O 70 (.loadA 6) 10<|U 71 (.build z0 []) []<|U 72 (.callF 14) [70,71]<|.nil) (t 72) [10,69]<|M 4 73<|.nil)<|.ret,true⟩
def p8:PFn:=⟨102,[.cellA 2 6],R (O 1 (.box 31 6) 0<|U 2 (.alloc 31 z0) []<|.nil)<|.seq (.regD 3 (a 7 0 1<|L 8 7<|a 9 0 1<|L 10 9<|O 11 (.len 1) 10<|o 12 .mn [t 11,c 30] [11]<|U 13 (.slcStr false true) [8,12]<|a 14 1 1<|L 15 14<|U 16 (.build z0 [(0,1),(1,1)]) [13,15]<|U 3 (.alloc 31 z0) []<|.sto (.store 6) [t 3,t 16] [16]<|.ownc 3 2 53 4294967302 false<|.ownc 3 3 60 22 false<|.ownc 3 4 100 7 false<|.ownc 3 5 48 2 false<|.nil) [0,1,0,4,12,28,63,0,128,511,0,2047])<|.seq (R (o 4 .mov [c 0] []<|.nil)<|.block 0 (.loop [1,2,3,4] [1,2,3] (.seq (R (m 17 4<|a 18 2 1<|L 19 18<|O 20 (.len 0) 19<|C 21 .lss 17 20<|M 22 21<|x 25 22 true (m 23 4<|B 24 .lss 23 3<|.nil) (t 24) [22]<|.nil)<|.cond (t 25) (.skip) (.exit 0))<|.seq (.block 1 (R (a 28 2 1<|L 29 28<|m 30 4<|U 31 (.iad 6) [29,30]<|O 32 (.loadA 6) 31<|U 5 (.alloc 53 z1) []<|.sto (.store 6) [t 5,t 32] [32]<|.nil)<|.seq (.regX 3 (a 33 2 5<|o 34 .loadS [t 33] []<|a 35 2 5<|o 36 .loadS [t 35] []<|O 37 (.len 1) 36<|o 38 .mn [t 37,c 30] [37]<|U 39 (.slcStr false true) [34,38]<|U 40 (.buildSl 89 3 0 z2 []) []<|a 41 5 5<|o 42 .loadS [t 41] []<|a 43 5 5<|o 44 .loadS [t 43] []<|O 45 (.len 0) 44<|o 46 .mn [t 45,c 2] [45]<|o 47 (.slc 3 false true false) [t 42,t 46] [46]<|U 48 (.append 89 3 24 z2 false) [40,47]<|a 49 2 5<|.sto (.store 1) [t 49,t 39] [39,49]<|a 50 5 5<|.sto (.store 1) [t 50,t 48] [50]<|.nil) [0,1,0,4,12,28,63,0,0,256,0,1024,3072,7168,16128,32640,3967,131071,262143,524287] [(7,9,48,41),(7,11,48,43),(7,14,42,42),(1,15,33,48),(3,15,35,48)])<|.reg<|a 51 2 3<|L 52 51<|O 53 (.loadA 6) 5<|.fz 53 (some 5)<|O 54 (.buildSl 53 6 1 z1 [0]) 53<|U 55 (.append 53 6 72 z1 false) [52,54]<|a 56 2 3<|.sto (.store 1) [t 56,t 55] [55,56]<|.nil))<|.reg<|M 26 4<|B 27 .add 26 1<|M 4 27<|.nil)))<|.seq (R (o 6 .mov [c 0] []<|.nil)<|.block 2 (.loop [1,2,3,6] [1,2,3] (.seq (R (m 57 6<|a 58 3 1<|L 59 58<|O 60 (.len 0) 59<|C 61 .lss 57 60<|M 62 61<|x 65 62 true (m 63 6<|B 64 .lss 63 4<|.nil) (t 64) [62]<|.nil)<|.cond (t 65) (.skip) (.exit 2))<|.seq (.block 3 (.regD 3 (a 68 3 3<|L 69 68<|a 70 3 1<|L 71 70<|m 72 6<|U 73 (.iad 22) [71,72]<|O 74 (.loadA 22) 73<|O 75 (.callF 17) 74<|O 76 (.buildSl 60 22 1 z3 [0]) 75<|U 77 (.append 60 22 216 z3 false) [69,76]<|a 78 3 3<|.sto (.store 1) [t 78,t 77] [77,78]<|.nil) [0,1,0,4,0,28,60,124,252,511,1023,2047]))<|.reg<|M 66 6<|B 67 .add 66 1<|M 6 67<|.nil)))<|.seq (.regD 3 (a 79 4 3<|L 80 79<|a 81 4 1<|L 82 81<|a 83 4 1<|L 84 83<|O 85 (.len 0) 84<|o 86 .mn [t 85,c 8] [85]<|U 87 (.slc 7 false true false) [82,86]<|U 88 (.append 100 7 56 z4 false) [80,87]<|a 89 4 3<|.sto (.store 1) [t 89,t 88] [88,89]<|.nil) [0,1,0,4,0,16,48,112,252,511,1023,2047])<|.seq (.regD 3 (a 90 5 3<|L 91 90<|a 92 5 1<|L 93 92<|A 94 5 1<|L 95 94<|O 96 (.len 0) 95<|o 97 .mn [t 96,c 3] [96]<|U 98 (.slc 2 false true false) [93,97]<|U 99 (.append 48 2 16 z5 false) [91,98]<|a 100 5 3<|.sto (.store 1) [t 100,t 99] [99,100]<|.nil) [0,1,0,4,0,16,48,112,252,511,1023,2047])<|R (O 101 (.loadA 6) 3<|.sto (.store 6) [t 2,t 101] [101]<|.nil)<|.ret,true⟩
def p9:PFn:=⟨11,[.tmp 2],R (O 1 (.box 31 6) 0<|o 2 .mov [cn] [2]<|.nil)<|R (o 4 (.loadA 6) [t 1] [1,2]<|O 5 (.callF 18) 4<|M 3 5<|.nil)<|R (m 6 3<|M 7 3<|O 8 (.len 0) 7<|o 9 .mn [t 8,c 200] [8]<|U 10 (.slc 3 false true false) [6,9]<|M 2 10<|.nil)<|.ret,true⟩
def p10:PFn:=⟨22,[.tmp 6,.tmp 7],R (O 3 (.box 31 6) 0<|o 6 .mov [cn] [6]<|o 7 .mov [c 0] [6,7]<|.nil)<|R (o 11 (.loadA 6) [t 3] [3,7]<|M 12 1<|M 13 2<|U 14 (.callF 19) [11,12,13]<|M 10 14<|e 15 0 10 []<|O 16 (.ext 1) 10<|U 8 (.alloc 70 z6) []<|.sto (.store 8) [t 8,t 15] [8,15]<|M 9 16<|.nil)<|.seq (R (m 17 9<|B 18 .neq 17 0<|.nil)<|.cond (t 18) (R (M 19 9<|o 6 .mov [cn] []<|.lax 6 [some 1]<|M 7 19<|.nil)<|.ret) (.skip))<|.dead (ddf 10 [1,1,1]),true⟩
def p11:PFn:=⟨113,[.cellA 6 6,.tmp 7,.tmp 8],R (O 3 (.box 31 6) 0<|U 6 (.alloc 31 z0) []<|o 7 .mov [cn] [7]<|o 8 .mov [c 0] [7,8]<|.nil)<|R (o 17 (.loadA 6) [t 3] [3,8]<|M 18 1<|M 19 2<|U 20 (.callF 19) [17,18,19]<|M 16 20<|e 21 0 16 []<|O 22 (.ext 1) 16<|U 9 (.alloc 70 z6) []<|.sto (.store 8) [t 9,t 21] [9,21]<|M 8 22<|.nil)<|.seq (R (m 23 8<|B 24 .neq 23 0<|.nil)<|.cond (t 24) (R (U 25 (.build z0 []) []<|M 26 8<|.sto (.store 6) [t 6,t 25] [25]<|.laxc 6 2 6<|.laxc 6 3 22<|.laxc 6 4 7<|.laxc 6 5 2<|o 7 .mov [cn] []<|.lax 7 [some 1]<|M 8 26<|.nil)<|.ret) (.skip))<|.dead (ddf 11 [1,1,1]),true⟩
def p12:PFn:=⟨162,[.cellA 12 6,.tmp 13],R (O 6 (.box 31 6) 0<|O 9 (.box 42 2) 3<|U 12 (.alloc 31 z0) []<|o 13 .mov [c 0] [13]<|.nil)<|R (o 27 (.loadA 6) [t 6] [6,13]<|M 28 1<|M 29 2<|O 30 (.loadA 2) 9<|M 31 4<|M 32 5<|U 33 (.callF 27) [27,28,29,30,31,32]<|M 26 33<|e 34 0 26 []<|O 35 (.ext 1) 26<|o 14 .mov [t 34] [14,34]<|o 15 .mov [t 35] [14,35]<|.nil)<|.seq (R (m 36 15<|B 37 .neq 36 0<|.nil)<|.cond (t 37) (R (U 38 (.build z0 []) []<|M 39 15<|.sto (.store 6) [t 12,t 38] [38]<|.laxc 12 2 6<|.laxc 12 3 22<|.laxc 12 4 7<|.laxc 12 5 2<|M 13 39<|.nil)<|.ret) (.skip))<|.dead (ddf 12 [1,1,1]),true⟩
def p13:PFn:=⟨17,[.tmp 6],R (O 3 (.box 31 6) 0<|o 6 .mov [c 0] [6]<|.nil)<|R (o 10 (.loadA 6) [t 3] [3,6]<|M 11 1<|M 12 2<|U 13 (.callF 19) [10,11,12]<|M 9 13<|e 14 0 9 []<|O 15 (.ext 1) 9<|U 7 (.alloc 70 z6) []<|.sto (.store 8) [t 7,t 14] [7,14]<|M 8 15<|.nil)<|R (M 16 8<|M 6 16<|.nil)<|.ret,true⟩
def p14:PFn:=⟨47,[.tmp 4],R (O 2 (.box 31 6) 0<|O 3 (.box 31 6) 1<|o 4 .mov [cf] [4]<|.nil)<|R (o 5 .mov [.c (.fn 36 [] [])] [4]<|.nil)<|R (a 6 0 2<|L 7 6<|a 8 0 3<|L 9 8<|C 10 .eql 7 9<|M 11 10<|x 17 11 true (a 12 1 2<|L 13 12<|a 14 1 3<|L 15 14<|U 16 (.eqB false) [13,15]<|.nil) (t 16) [11]<|M 18 17<|x 25 18 true (a 19 2 2<|L 20 19<|a 21 2 3<|L 22 21<|M 23 5<|U 24 (.callF 38) [20,22,23]<|.nil) (t 24) [5,18]<|M 26 25<|x 32 26 true (a 27 3 2<|L 28 27<|a 29 3 3<|L 30 29<|f 31 39 [t 28,t 30,.c (.fn 40 [] [])] [28,30]<|.nil) (t 31) [26]<|M 33 32<|x 39 33 true (a 34 4 2<|L 35 34<|a 36 4 3<|L 37 36<|U 38 (.callF 41) [35,37]<|.nil) (t 38) [33]<|M 40 39<|x 46 40 true (A 41 5 2<|L 42 41<|A 43 5 3<|L 44 43<|U 45 (.callF 42) [42,44]<|.nil) (t 45) [2,3,40]<|M 4 46<|.nil)<|.ret,true⟩
def p17:PFn:=⟨5,[.cellA 2 22],R (O 1 (.box 60 22) 0<|U 2 (.alloc 60 z3) []<|.nil)<|R (O 3 (.loadA 22) 1<|O 4 (.callF 46) 3<|.sto (.store 22) [t 2,t 4] [4]<|.nil)<|.ret,true⟩
def p18:PFn:=⟨94,[.tmp 2],R (O 1 (.box 31 6) 0<|o 2 .mov [cn] [2]<|.nil)<|R (o 7 (.loadA 6) [t 1] [1,2]<|O 8 (.build z7 [(0,6)]) 7<|O 9 (.box 126 8) 8<|.ownc 9 7 129 3 false<|M 3 9<|.nil)<|R (m 10 3<|O 11 (.mkfn (.func 47) 1) 10<|m 12 3<|O 13 (.mkfn (.func 48) 1) 12<|m 14 3<|O 15 (.mkfn (.func 49) 1) 14<|m 16 3<|O 17 (.mkfn (.func 50) 1) 16<|m 18 3<|O 19 (.mkfn (.func 51) 1) 18<|m 20 3<|O 21 (.mkfn (.func 52) 1) 20<|m 22 3<|O 23 (.mkfn (.func 53) 1) 22<|m 24 3<|O 25 (.mkfn (.func 54) 1) 24<|m 26 3<|O 27 (.mkfn (.func 55) 1) 26<|m 28 3<|O 29 (.mkfn (.func 56) 1) 28<|m 30 3<|O 31 (.mkfn (.func 57) 1) 30<|m 32 3<|O 33 (.mkfn (.func 58) 1) 32<|m 34 3<|O 35 (.mkfn (.func 59) 1) 34<|m 36 3<|O 37 (.mkfn (.func 60) 1) 36<|m 38 3<|O 39 (.mkfn (.func 61) 1) 38<|m 40 3<|O 41 (.mkfn (.func 62) 1) 40<|m 42 3<|O 43 (.mkfn (.func 63) 1) 42<|.mkfl 44 1 [.nilFunc] [t 11,t 13,t 15,t 17,t 19,t 21,t 23,t 25,t 27,t 29,t 31,t 33,t 35,t 37,t 39,t 41,t 43] [11,13,15,17,19,21,23,25,27,29,31,33,35,37,39,41,43]<|M 4 44<|.nil)<|.seq (R (M 45 4<|o 46 (.len 0) [t 45] []<|o 47 .mov [c 0] []<|.nil)<|.block 0 (.loopU 18 [3,45,46,47] (R (b 48 .lss [t 47,t 46] []<|.nil)<|.seq (.condL (t 48) (.skip) (.exit 0))<|.seq (.block 1 (R (m 49 47<|o 50 (.iad 1) [t 45,t 47] []<|L 51 50<|M 5 49<|M 6 51<|.nil)<|R (m 52 3<|M 53 5<|B 54 .add 53 1<|O 55 .nilc 52<|A 56 6 55<|.sto (.store 1) [t 56,t 54] [54,56]<|.nil)<|.seq (R (m 57 3<|O 58 .nilc 57<|A 59 7 58<|L 60 59<|O 61 (.len 0) 60<|B 62 .gtr 61 0<|M 63 62<|x 86 63 true (m 64 3<|O 65 .nilc 64<|A 66 6 65<|L 67 66<|B 68 .eql 67 2<|M 69 68<|x 85 69 false (m 70 3<|O 71 .nilc 70<|A 72 6 71<|L 73 72<|B 74 .geq 73 10<|M 75 74<|x 84 75 true (m 76 3<|O 77 .nilc 76<|A 78 7 77<|L 79 78<|o 80 (.iad 3) [t 79,c 0] [79]<|A 81 0 80<|L 82 81<|B 83 .lss 82 10<|.nil) (t 83) [75]<|.nil) (t 84) [69]<|.nil) (t 85) [63]<|.nil)<|.cond (t 86) (.exit 0) (.skip))<|.reg<|M 87 6<|o 88 .callV [t 87] [87,88]<|.nil))<|.reg<|b 89 .add [t 47,c 1] [47,88]<|M 47 89<|.nil)))<|R (M 90 3<|O 91 .nilc 90<|A 92 7 91<|L 93 92<|M 2 93<|.nil)<|.ret,true⟩
def p19:PFn:=⟨145,[.cellA 6 8,.tmp 7],R (O 3 (.box 31 6) 0<|U 6 (.alloc 70 z6) []<|o 7 .mov [c 0] [7]<|.nil)<|R (o 19 (.fad 2) [t 3] [7]<|L 20 19<|O 21 (.len 0) 20<|o 8 .mov [t 21] [8,21]<|.nil)<|.seq (.block 0 (R (o 23 (.loadA 6) [t 3] [3,8]<|O 24 (.callF 26) 23<|O 25 (.un .not) 24<|M 22 25<|.nil)<|.cond (t 22) (R (U 26 (.build z6 []) []<|.sto (.store 8) [t 6,t 26] [26]<|.laxc 6 2 6<|.laxc 6 3 22<|.laxc 6 4 7<|.laxc 6 5 2<|o 7 .mov [c 24] []<|.nil)<|.ret) (.dead (ddf 19 [1,1,0,0,1,1]))))<|.dead (ddf 19 [1,1,1]),true⟩
def p26:PFn:=⟨7,[.tmp 2],R (O 1 (.box 31 6) 0<|o 2 .mov [cf] [2]<|.nil)<|R (o 3 (.loadA 6) [t 1] [1,2]<|O 4 (.callF 18) 3<|O 5 (.len 0) 4<|B 6 .eql 5 0<|M 2 6<|.nil)<|.ret,true⟩
def p27:PFn:=⟨120,[.tmp 12,.tmp 13],R (O 6 (.box 31 6) 0<|o 9 (.box 42 2) [t 3] [3,9]<|o 12 .mov [c 0] [9,12]<|o 13 .mov [c 0] [12,13]<|.nil)<|.seq (.block 0 (R (o 19 (.loadA 6) [t 6] [6,13]<|O 20 (.callF 26) 19<|O 21 (.un .not) 20<|M 18 21<|.nil)<|.cond (t 18) (R (o 12 .mov [c 0] []<|o 13 .mov [c 24] []<|.nil)<|.ret) (.dead (ddf 27 [1,0,0,1,1]))))<|.dead (ddf 27 [1,1]),true⟩
def q34_13a:PC:=R (U 6 (.alloc 102 z4) []<|.sto (.store 7) [t 6,t 13] [13]<|.nil)<|.reg<|M 7 14<|.nil
def q34_13b:PC:=.block 1 (.seq (.regD 3 (M 15 7<|O 16 .nilc 15<|O 17 (.loadA 2) 16<|O 18 (.loadA 2) 3<|U 19 (.eqA false [.i,.i]) [17,18]<|.nil) [0,1,3,0,15])<|.cond (t 19) (R (O 20 (.loadA 7) 6<|.sto (.store 7) [t 4,t 20] [4,20]<|.sto (.store 1) [t 5,ct] [5]<|.nil)<|.ret) (.skip))
def p34:PFn:=⟨22,[.cellA 4 7,.cellS 5],R (O 2 (.box 31 6) 0<|O 3 (.box 48 2) 1<|U 4 (.alloc 102 z4) []<|U 5 (.alloc 4 [ZB]) []<|.nil)<|.seq (R (o 8 (.loadA 2) [t 3] []<|U 9 (.build z5 []) []<|U 10 (.eqA false [.i,.i]) [8,9]<|.nil)<|.cond (t 10) (R (U 11 (.build z4 []) []<|.sto (.store 7) [t 4,t 11] [11]<|.sto (.store 1) [t 5,cf] []<|.nil)<|.ret) (.skip))<|.seq (R (O 12 (.callF 80) 2<|.nil)<|.block 0 (.rangeF 22 [3,4,5] (t 12) [13,14] q34_13a q34_13b))<|R (U 21 (.build z4 []) []<|.sto (.store 7) [t 4,t 21] [21]<|.sto (.store 1) [t 5,cf] []<|.nil)<|.ret,true⟩
def p38:PFn:=⟨32,[.tmp 6],R (o 6 .mov [cf] [6]<|.nil)<|.seq (R (o 10 .mov [t 0] [6]<|O 11 (.len 0) 10<|M 12 1<|O 13 (.len 0) 12<|C 14 .neq 11 13<|.nil)<|.cond (t 14) (R (o 6 .mov [cf] []<|.nil)<|.ret) (.skip))<|.seq (R (M 15 0<|O 16 (.len 0) 15<|o 17 .mov [c 0] []<|.nil)<|.block 0 (.loop [16,17] [6] (R (b 18 .lss [t 17,t 16] [16,17]<|.nil)<|.seq (.cond (t 18) (.skip) (.exit 0))<|.seq (.block 1 (.seq (.dead (ddf 38 [1,1,0,1,0,0,1,1,0,0,0]))<|R (M 22 1<|M 23 7<|U 24 (.iad 6) [22,23]<|O 25 (.loadA 6) 24<|U 9 (.alloc 53 z1) []<|.sto (.store 6) [t 9,t 25] [25]<|.nil)<|R (M 26 2<|O 27 (.loadA 6) 8<|O 28 (.loadA 6) 9<|U 29 .callV [26,27,28]<|O 30 (.un .not) 29<|.nil)<|.cond (t 30) (R (o 6 .mov [cf] []<|.nil)<|.ret) (.skip)))<|.reg<|B 31 .add 17 1<|M 17 31<|.nil)))<|R (o 6 .mov [ct] []<|.nil)<|.ret,true⟩
def p39:PFn:=⟨32,[.tmp 6],R (o 6 .mov [cf] [6]<|.nil)<|.seq (R (o 10 .mov [t 0] [6]<|O 11 (.len 0) 10<|M 12 1<|O 13 (.len 0) 12<|C 14 .neq 11 13<|.nil)<|.cond (t 14) (R (o 6 .mov [cf] []<|.nil)<|.ret) (.skip))<|.seq (R (M 15 0<|O 16 (.len 0) 15<|o 17 .mov [c 0] []<|.nil)<|.block 0 (.loop [16,17] [6] (R (b 18 .lss [t 17,t 16] [16,17]<|.nil)<|.seq (.cond (t 18) (.skip) (.exit 0))<|.seq (.block 1 (.seq (.dead (ddf 39 [1,1,0,1,0,0,1,1,0,0,0]))<|R (M 22 1<|M 23 7<|U 24 (.iad 22) [22,23]<|O 25 (.loadA 22) 24<|U 9 (.alloc 60 z3) []<|.sto (.store 22) [t 9,t 25] [25]<|.nil)<|R (M 26 2<|O 27 (.loadA 22) 8<|O 28 (.loadA 22) 9<|U 29 .callV [26,27,28]<|O 30 (.un .not) 29<|.nil)<|.cond (t 30) (R (o 6 .mov [cf] []<|.nil)<|.ret) (.skip)))<|.reg<|B 31 .add 17 1<|M 17 31<|.nil)))<|R (o 6 .mov [ct] []<|.nil)<|.ret,true⟩
def p41:PFn:=⟨26,[.tmp 4],R (o 4 .mov [cf] [4]<|.nil)<|.seq (R (o 6 .mov [t 0] [4]<|O 7 (.len 0) 6<|M 8 1<|O 9 (.len 0) 8<|C 10 .neq 7 9<|.nil)<|.cond (t 10) (R (o 4 .mov [cf] []<|.nil)<|.ret) (.skip))<|.seq (R (M 11 0<|O 12 (.len 0) 11<|o 13 .mov [c 0] []<|.nil)<|.block 0 (.loop [12,13] [4] (R (b 14 .lss [t 13,t 12] [12,13]<|.nil)<|.seq (.cond (t 14) (.skip) (.exit 0))<|.seq (.block 1 (.seq (.dead (ddf 41 [1,1,0,1,0,0,1,1,0,0,0]))<|.seq (.regD 3 (M 16 0<|m 17 5<|U 18 (.iad 7) [16,17]<|O 19 (.loadA 7) 18<|M 20 1<|M 21 5<|U 22 (.iad 7) [20,21]<|O 23 (.loadA 7) 22<|U 24 (.eqA true [.i,.i,.i,.i,.i,.i,.i]) [19,23]<|.nil) [0,0,3,7,0,0,48,112,255])<|.cond (t 24) (R (o 4 .mov [cf] []<|.nil)<|.ret) (.skip)))<|.reg<|B 25 .add 13 1<|M 13 25<|.nil)))<|R (o 4 .mov [ct] []<|.nil)<|.ret,true⟩
def p42:PFn:=⟨26,[.tmp 4],R (o 4 .mov [cf] [4]<|.nil)<|.seq (R (o 6 .mov [t 0] [4]<|O 7 (.len 0) 6<|M 8 1<|O 9 (.len 0) 8<|C 10 .neq 7 9<|.nil)<|.cond (t 10) (R (o 4 .mov [cf] []<|.nil)<|.ret) (.skip))<|.seq (R (M 11 0<|O 12 (.len 0) 11<|o 13 .mov [c 0] []<|.nil)<|.block 0 (.loop [12,13] [4] (R (b 14 .lss [t 13,t 12] [12,13]<|.nil)<|.seq (.cond (t 14) (.skip) (.exit 0))<|.seq (.block 1 (.seq (.dead (ddf 42 [1,1,0,1,0,0,1,1,0,0,0]))<|.seq (.regD 3 (M 16 0<|m 17 5<|U 18 (.iad 2) [16,17]<|O 19 (.loadA 2) 18<|M 20 1<|M 21 5<|U 22 (.iad 2) [20,21]<|O 23 (.loadA 2) 22<|U 24 (.eqA true [.i,.i]) [19,23]<|.nil) [0,0,3,7,0,0,48,112,255])<|.cond (t 24) (R (o 4 .mov [cf] []<|.nil)<|.ret) (.skip)))<|.reg<|B 25 .add 13 1<|M 13 25<|.nil)))<|R (o 4 .mov [ct] []<|.nil)<|.ret,true⟩
def p46:PFn:=⟨90,[.cellA 2 22],R (O 1 (.box 60 22) 0<|U 2 (.alloc 60 z3) []<|.nil)<|R (a 7 21 1<|L 8 7<|M 3 8<|.nil)<|R (a 9 21 1<|.sto (.store 1) [t 9,cn] []<|.ownc 9 21 64 4294967298 false<|.nil)<|.seq (R (o 4 .mov [c 0] []<|.nil)<|.block 0 (.loop [1,2,3,4] [1,2] (.seq (R (m 10 4<|m 11 3<|O 12 (.len 0) 11<|C 13 .lss 10 12<|M 14 13<|x 17 14 true (m 15 4<|B 16 .lss 15 4<|.nil) (t 16) [14]<|.nil)<|.cond (t 17) (.skip) (.exit 0))<|.seq (.block 1 (R (U 5 (.alloc 64 [ZN,ZN]) []<|.ownc 5 0 96 2 false<|.ownc 5 1 77 2 false<|.nil)<|.seq (.regD 3 (a 20 0 5<|L 21 20<|m 22 3<|m 23 4<|U 24 (.iad 2) [22,23]<|A 25 0 24<|L 26 25<|m 27 3<|m 28 4<|U 29 (.iad 2) [27,28]<|A 30 0 29<|L 31 30<|O 32 (.len 0) 31<|o 33 .mn [t 32,c 8] [32]<|U 34 (.slc 2 false true false) [26,33]<|U 35 (.append 96 2 16 z5 false) [21,34]<|a 36 0 5<|.sto (.store 1) [t 36,t 35] [35,36]<|.nil) [0,1,0,0,12,28,60,0,0,384,896,1920,3968,8064,16380,32767,65535,131071])<|.seq (R (o 6 .mov [c 0] []<|.nil)<|.block 2 (.loop [1,2,3,4,5,6] [1,2,3,4,5] (.seq (R (m 37 6<|m 38 3<|m 39 4<|U 40 (.iad 2) [38,39]<|A 41 1 40<|L 42 41<|O 43 (.len 0) 42<|C 44 .lss 37 43<|M 45 44<|x 48 45 true (m 46 6<|B 47 .lss 46 3<|.nil) (t 47) [45]<|.nil)<|.cond (t 48) (.skip) (.exit 2))<|.seq (.block 3 (.regD 3 (a 51 1 5<|L 52 51<|m 53 3<|m 54 4<|U 55 (.iad 2) [53,54]<|A 56 1 55<|L 57 56<|m 58 6<|U 59 (.iad 2) [57,58]<|O 60 (.loadA 2) 59<|O 61 (.callF 102) 60<|O 62 (.buildSl 77 2 1 [ZN,ZN] [0]) 61<|U 63 (.append 77 2 48 [ZN,ZN] false) [52,62]<|a 64 1 5<|.sto (.store 1) [t 64,t 63] [63,64]<|.nil) [0,1,0,0,12,28,60,0,252,508,1020,2044,4095,8191,16383]))<|.reg<|M 49 6<|B 50 .add 49 1<|M 6 50<|.nil)))<|.reg<|a 65 21 1<|L 66 65<|O 67 (.loadA 2) 5<|.fz 67 (some 0)<|.fz 67 (some 1)<|O 68 (.buildSl 64 2 1 [ZN,ZN] [0]) 67<|U 69 (.append 64 2 48 [ZN,ZN] false) [66,68]<|a 70 21 1<|.sto (.store 1) [t 70,t 69] [69,70]<|.nil))<|.reg<|M 18 4<|B 19 .add 18 1<|M 4 19<|.nil)))<|R (U 71 (.buildSl 167 3 0 z8 []) []<|a 72 20 1<|L 73 72<|a 74 20 1<|L 75 74<|O 76 (.len 0) 75<|o 77 .mn [t 76,c 8] [76]<|U 78 (.slc 3 false true false) [73,77]<|U 79 (.append 167 3 24 z8 false) [71,78]<|a 80 20 1<|.sto (.store 1) [t 80,t 79] [79,80]<|.nil)<|R (a 81 19 1<|L 82 81<|a 83 19 1<|L 84 83<|O 85 (.len 1) 84<|o 86 .mn [t 85,c 30] [85]<|U 87 (.slcStr false true) [82,86]<|a 88 19 1<|.sto (.store 1) [t 88,t 87] [87,88]<|.nil)<|R (O 89 (.loadA 22) 1<|.sto (.store 22) [t 2,t 89] [89]<|.nil)<|.ret,true⟩
def p47:PFn:=⟨159,[],.seq (R (m 11 0<|O 12 .nilc 11<|A 13 0 12<|A 14 2 13<|L 15 14<|o 16 (.len 0) [t 15] []<|o 17 .mov [c 0] []<|.nil)<|.block 0 (.loop [0,15,16,17] [0] (R (b 18 .lss [t 17,t 16] []<|.nil)<|.seq (.cond (t 18) (.skip) (.exit 0))<|.seq (.block 1 (R (o 19 (.iad 6) [t 15,t 17] []<|O 20 (.loadA 6) 19<|U 3 (.alloc 53 z1) []<|.sto (.store 6) [t 3,t 20] [20]<|.nil)<|.regD 3 (m 21 0<|a 22 2 3<|L 23 22<|O 24 (.callF 104) 23<|O 25 (.un .not) 24<|M 26 25<|x 32 26 false (a 27 5 3<|L 28 27<|O 29 (.len 0) 28<|f 30 105 [t 29,c 1,c 4] [29]<|O 31 (.un .not) 30<|.nil) (t 31) [26]<|M 33 32<|x 38 33 false (a 34 3 3<|O 35 (.loadA 2) 34<|O 36 (.callF 106) 35<|B 37 .neq 36 0<|.nil) (t 37) [33]<|A 39 0 3<|O 40 (.loadA 2) 39<|f 41 103 [t 21,t 38,t 40] [21,38,40,41]<|.nil) [0,0,2,6,14,30,62,126,254,510,1022,2046,4094,8190,16382,32766,65534,131070,0,262144,1048575]))<|.reg<|b 42 .add [t 17,c 1] [17,41]<|M 17 42<|.nil)))<|.seq (R (m 43 0<|O 44 .nilc 43<|A 45 0 44<|A 46 3 45<|L 47 46<|o 48 (.len 0) [t 47] []<|o 49 .mov [c 0] []<|.nil)<|.block 2 (.loop [0,47,48,49] [0] (R (b 50 .lss [t 49,t 48] []<|.nil)<|.seq (.cond (t 50) (.skip) (.exit 2))<|.seq (.block 3 (R (o 51 (.iad 22) [t 47,t 49] []<|O 52 (.loadA 22) 51<|U 5 (.alloc 60 z3) []<|.sto (.store 22) [t 5,t 52] [52]<|.nil)<|R (a 53 19 5<|L 54 53<|O 55 (.callF 104) 54<|O 56 (.un .not) 55<|M 57 56<|x 62 57 false (a 58 20 5<|L 59 58<|O 60 (.len 0) 59<|B 61 .gtr 60 64<|.nil) (t 61) [57]<|M 6 62<|.nil)<|.seq (R (a 63 21 5<|L 64 63<|o 65 (.len 0) [t 64] []<|o 66 .mov [c 0] []<|.nil)<|.block 4 (.loop [0,5,6,47,48,49,64,65,66] [0,5,6,47,48,49] (R (b 67 .lss [t 66,t 65] []<|.nil)<|.seq (.cond (t 67) (.skip) (.exit 4))<|.seq (.block 5 (R (o 68 (.iad 2) [t 64,t 66] []<|O 69 (.loadA 2) 68<|U 8 (.alloc 64 [ZN,ZN]) []<|.sto (.store 2) [t 8,t 69] [69]<|.nil)<|R (M 70 6<|M 71 70<|x 76 71 false (a 72 0 8<|L 73 72<|O 74 (.len 0) 73<|B 75 .gtr 74 64<|.nil) (t 75) [71]<|M 77 76<|x 82 77 false (a 78 1 8<|L 79 78<|O 80 (.len 0) 79<|B 81 .gtr 80 2<|.nil) (t 81) [77]<|M 6 82<|.nil)<|R (A 83 1 8<|L 84 83<|o 85 (.len 0) [t 84] []<|o 86 .mov [c 0] []<|.nil)<|.block 6 (.loop [0,5,6,47,48,49,64,65,66,84,85,86] [0,5,6,47,48,49,64,65,66] (R (b 87 .lss [t 86,t 85] []<|.nil)<|.seq (.cond (t 87) (.skip) (.exit 6))<|.seq (.block 7 (R (o 88 (.iad 2) [t 84,t 86] []<|O 89 (.loadA 2) 88<|U 10 (.alloc 77 [ZN,ZN]) []<|.sto (.store 2) [t 10,t 89] [89]<|.nil)<|.reg<|M 90 6<|M 91 90<|x 96 91 false (a 92 0 10<|L 93 92<|O 94 (.len 0) 93<|B 95 .gtr 94 128<|.nil) (t 95) [91]<|M 97 96<|x 102 97 false (A 98 1 10<|L 99 98<|O 100 (.len 0) 99<|B 101 .gtr 100 16<|.nil) (t 101) [10,97]<|M 6 102<|.nil))<|.reg<|B 103 .add 86 1<|M 86 103<|.nil))))<|.reg<|B 104 .add 66 1<|M 66 104<|.nil)))<|.reg<|m 105 0<|M 106 6<|A 107 0 5<|O 108 (.loadA 2) 107<|f 109 103 [t 105,t 106,t 108] [105,106,108,109]<|.nil))<|.reg<|b 110 .add [t 49,c 1] [49,109]<|M 49 110<|.nil)))<|.reg<|m 111 0<|m 112 0<|O 113 .nilc 112<|A 114 0 113<|A 115 0 114<|L 116 115<|O 117 (.callF 104) 116<|O 118 (.un .not) 117<|M 119 118<|x 128 119 false (m 120 0<|O 121 .nilc 120<|A 122 0 121<|A 123 2 122<|L 124 123<|O 125 (.len 0) 124<|f 126 105 [t 125,c 1,c 32] [125]<|O 127 (.un .not) 126<|.nil) (t 127) [119]<|M 129 128<|x 138 129 false (m 130 0<|O 131 .nilc 130<|A 132 0 131<|A 133 3 132<|L 134 133<|O 135 (.len 0) 134<|f 136 105 [t 135,c 1,c 1024] [135]<|O 137 (.un .not) 136<|.nil) (t 137) [129]<|M 139 138<|x 147 139 false (m 140 0<|O 141 .nilc 140<|A 142 0 141<|A 143 4 142<|L 144 143<|O 145 (.len 0) 144<|B 146 .gtr 145 4096<|.nil) (t 146) [139]<|M 148 147<|x 156 148 false (M 149 0<|O 150 .nilc 149<|A 151 0 150<|A 152 5 151<|L 153 152<|O 154 (.len 0) 153<|B 155 .gtr 154 100<|.nil) (t 155) [0,148]<|U 157 (.build z5 []) []<|f 158 103 [t 111,t 156,t 157] [111,156,157,158]<|.nil,true⟩
def p48:PFn:=⟨86,[],R (U 8 .mkmap []<|M 2 8<|.nil)<|.seq (R (m 9 0<|O 10 .nilc 9<|A 11 0 10<|O 12 (.loadA 6) 11<|O 13 (.callF 107) 12<|o 14 (.len 0) [t 13] []<|o 15 .mov [c 0] []<|.nil)<|.block 0 (.loop [0,2,13,14,15] [0] (R (b 16 .lss [t 15,t 14] []<|.nil)<|.seq (.cond (t 16) (.skip) (.exit 0))<|.seq (.block 1 (R (o 17 (.iad 2) [t 13,t 15] []<|O 18 (.loadA 2) 17<|U 4 (.alloc 48 z5) []<|.sto (.store 2) [t 4,t 18] [18]<|.nil)<|.seq (.regD 3 (m 19 0<|o 20 (.loadA 2) [t 4] []<|O 21 (.callF 108) 20<|O 22 (.un .not) 21<|M 23 22<|x 27 23 false (m 24 2<|o 25 (.loadA 2) [t 4] []<|U 26 (.lookup true [.i,.i] (.v (.bool false)) false) [24,25]<|.nil) (t 26) [23]<|M 28 27<|x 39 28 false (a 29 1 4<|L 30 29<|m 31 0<|O 32 .nilc 31<|A 33 0 32<|O 34 (.loadA 6) 33<|a 35 0 4<|L 36 35<|U 37 (.callF 82) [34,36]<|C 38 .gtr 30 37<|.nil) (t 38) [28]<|o 40 (.loadA 2) [t 4] []<|f 41 103 [t 19,t 39,t 40] [19,39,40,41]<|.nil) [0,0,2,6,14,30,30,126,254,510,1022,2046,1022,5118,13310,29694,1022,66558,259070,524286,1048574,0,4194303])<|.reg<|o 42 .mov [t 2] [41]<|O 43 (.loadA 2) 4<|.sto (.mapup true [.i,.i]) [t 42,t 43,ct] [42,43]<|.nil))<|.reg<|B 44 .add 15 1<|M 15 44<|.nil)))<|R (o 5 .mov [cf] []<|.nil)<|.seq (R (m 45 0<|O 46 .nilc 45<|A 47 0 46<|A 48 5 47<|L 49 48<|o 50 (.len 0) [t 49] []<|o 51 .mov [c 0] []<|.nil)<|.block 2 (.loop [0,5,49,50,51] [0,5] (R (b 52 .lss [t 51,t 50] []<|.nil)<|.seq (.cond (t 52) (.skip) (.exit 2))<|.seq (.block 3 (R (m 53 51<|o 54 (.iad 2) [t 49,t 51] []<|O 55 (.loadA 2) 54<|U 7 (.alloc 48 z5) []<|M 6 53<|.sto (.store 2) [t 7,t 55] [55]<|.nil)<|.regD 3 (M 56 5<|M 57 56<|x 61 57 false (o 58 (.loadA 2) [t 7] []<|O 59 (.callF 108) 58<|O 60 (.un .not) 59<|.nil) (t 60) [57]<|M 62 61<|x 80 62 false (m 63 6<|B 64 .gtr 63 0<|M 65 64<|x 79 65 true (A 66 0 7<|L 67 66<|m 68 0<|O 69 .nilc 68<|A 70 0 69<|A 71 5 70<|L 72 71<|M 73 6<|B 74 .sub 73 1<|U 75 (.iad 2) [72,74]<|A 76 0 75<|L 77 76<|C 78 .leq 67 77<|.nil) (t 78) [6,7,65]<|.nil) (t 79) [6,7,62]<|M 5 80<|.nil) [0,1,3,7,15,31,63,127,255,511,1023,2047,1023,5119,13311,29695,62463,1023,132095,521215,1045503,2094079,4194303,8388607,16777215,33554431]))<|.reg<|B 81 .add 51 1<|M 51 81<|.nil)))<|.reg<|M 82 0<|M 83 5<|U 84 (.build z5 []) []<|f 85 103 [t 82,t 83,t 84] [82,83,84,85]<|.nil,true⟩
def p49:PFn:=⟨11,[],R (m 3 0<|O 4 .nilc 3<|A 5 0 4<|O 6 (.loadA 6) 5<|O 7 (.callF 75) 6<|U 2 (.alloc 3 [(J 0)]) []<|.sto (.store 1) [t 2,t 7] [7]<|.nil)<|.reg<|M 8 0<|O 9 (.mkfn (.func 110) 0) 2<|f 10 109 [t 8,t 9] [8,9,10]<|.nil,true⟩
def p50:PFn:=⟨35,[],.seq (R (m 6 0<|O 7 .nilc 6<|A 8 0 7<|A 9 2 8<|L 10 9<|o 11 (.len 0) [t 10] []<|o 12 .mov [c 0] []<|.nil)<|.block 0 (.loop [0,10,11,12] [0] (R (b 13 .lss [t 12,t 11] []<|.nil)<|.seq (.cond (t 13) (.skip) (.exit 0))<|.seq (.block 1 (R (o 14 (.iad 6) [t 10,t 12] []<|O 15 (.loadA 6) 14<|U 3 (.alloc 53 z1) []<|.sto (.store 6) [t 3,t 15] [15]<|.nil)<|R (A 16 5 3<|L 17 16<|o 18 (.len 0) [t 17] []<|o 19 .mov [c 0] []<|.nil)<|.block 2 (.loop [0,10,11,12,17,18,19] [0,10,11,12] (R (b 20 .lss [t 19,t 18] []<|.nil)<|.seq (.cond (t 20) (.skip) (.exit 2))<|.seq (.block 3 (R (o 21 (.iad 3) [t 17,t 19] []<|O 22 (.loadA 3) 21<|U 5 (.alloc 89 z2) []<|.sto (.store 3) [t 5,t 22] [22]<|.nil)<|.regD 3 (m 23 0<|a 24 2 5<|L 25 24<|O 26 (.callF 111) 25<|B 27 .neq 26 0<|A 28 0 5<|O 29 (.loadA 2) 28<|f 30 103 [t 23,t 27,t 29] [23,27,29,30]<|.nil) [0,0,2,6,14,0,32,127]))<|.reg<|b 31 .add [t 19,c 1] [19,30]<|M 19 31<|.nil))))<|.reg<|B 32 .add 12 1<|M 12 32<|.nil)))<|.reg<|M 33 0<|f 34 109 [t 33,.c (.fn 112 [] [])] [33,34]<|.nil,true⟩
def p51:PFn:=⟨5,[],R (O 1 (.box 124 1) 0<|.nil)<|.reg<|o 2 .loadS [t 1] []<|O 3 (.mkfn (.func 114) 0) 1<|f 4 109 [t 2,t 3] [2,3,4]<|.nil,true⟩
def p52:PFn:=⟨4,[],.reg<|M 2 0<|f 3 116 [t 2,.c (.fn 117 [] [])] [2,3]<|.nil,true⟩
def p53:PFn:=⟨4,[],.reg<|M 2 0<|f 3 116 [t 2,.c (.fn 118 [] [])] [2,3]<|.nil,true⟩
def p54:PFn:=⟨4,[],.reg<|M 2 0<|f 3 119 [t 2,.c (.fn 120 [] [])] [2,3]<|.nil,true⟩
def p55:PFn:=⟨5,[],R (O 1 (.box 124 1) 0<|.nil)<|.reg<|o 2 .loadS [t 1] []<|O 3 (.mkfn (.func 122) 0) 1<|f 4 119 [t 2,t 3] [2,3,4]<|.nil,true⟩
def p56:PFn:=⟨5,[],R (O 1 (.box 124 1) 0<|.nil)<|.reg<|o 2 .loadS [t 1] []<|O 3 (.mkfn (.func 130) 0) 1<|f 4 119 [t 2,t 3] [2,3,4]<|.nil,true⟩
def p57:PFn:=⟨35,[],R (U 7 .mkmap []<|U 2 (.alloc 205 z9) []<|.sto (.store 1) [t 2,t 7] [7]<|.nil)<|R (m 8 0<|O 9 .nilc 8<|A 10 0 9<|O 11 (.loadA 6) 10<|O 12 (.callF 75) 11<|M 3 12<|.nil)<|.seq (R (M 13 3<|o 14 .mov [c 0] []<|.nil)<|.block 0 (.loop [0,2,13,14] [0,2] (R (b 15 .lss [t 14,t 13] []<|.nil)<|.seq (.cond (t 15) (.skip) (.exit 0))<|.seq (.block 1 (R (m 16 14<|M 4 16<|.nil)<|R (o 17 .mov [c 0] []<|.nil)<|.block 2 (.loop [0,2,4,13,14,17] [0,2,13,14] (R (b 18 .lss [t 17,c 2] []<|.nil)<|.seq (.cond (t 18) (.skip) (.exit 2))<|.seq (.block 3 (R (m 19 17<|M 5 19<|.nil)<|R (o 20 .mov [c 0] []<|.nil)<|.block 4 (.loop [0,2,4,5,13,14,17,20] [0,2,4,13,14,17] (R (b 21 .lss [t 20,c 4] []<|.nil)<|.seq (.cond (t 21) (.skip) (.exit 4))<|.seq (.block 5 (R (m 22 20<|M 6 22<|.nil)<|.reg<|m 23 0<|m 24 4<|m 25 5<|M 26 6<|o 27 .loadS [t 2] []<|f 28 135 [t 23,t 24,t 25,t 26,t 27] [23,24,25,26,27,28]<|.nil))<|.reg<|b 29 .add [t 20,c 1] [20,28]<|M 20 29<|.nil))))<|.reg<|B 30 .add 17 1<|M 17 30<|.nil))))<|.reg<|B 31 .add 14 1<|M 14 31<|.nil)))<|.reg<|M 32 0<|O 33 (.mkfn (.func 136) 0) 2<|f 34 119 [t 32,t 33] [32,33,34]<|.nil,true⟩
def p58:PFn:=⟨31,[],R (m 7 0<|O 8 (.callF 137) 7<|M 6 8<|e 9 0 6 []<|O 10 (.ext 1) 6<|o 2 .mov [t 9] [2,9]<|o 3 .mov [t 10] [2,10]<|.nil)<|R (m 11 0<|O 12 .nilc 11<|A 13 0 12<|A 14 4 13<|L 15 14<|o 16 (.len 0) [t 15] []<|o 17 .mov [c 0] []<|.nil)<|.block 0 (.loop [0,3,15,16,17] [] (R (b 18 .lss [t 17,t 16] []<|.nil)<|.seq (.cond (t 18) (.skip) (.exit 0))<|.seq (.block 1 (R (m 19 17<|o 20 (.iad 7) [t 15,t 17] []<|O 21 (.loadA 7) 20<|U 5 (.alloc 100 z4) []<|M 4 19<|.sto (.store 7) [t 5,t 21] [21]<|.nil)<|.regD 3 (m 22 0<|m 23 3<|M 24 4<|U 25 (.iad 1) [23,24]<|L 26 25<|A 27 0 5<|O 28 (.loadA 2) 27<|f 29 103 [t 22,t 26,t 28] [22,26,28,29]<|.nil) [0,0,0,6,14,0,32,127]))<|.reg<|b 30 .add [t 17,c 1] [17,29]<|M 17 30<|.nil)),true⟩
def p59:PFn:=⟨62,[],R (m 9 0<|O 10 (.callF 137) 9<|M 8 10<|e 11 0 8 []<|O 12 (.ext 1) 8<|M 2 11<|M 3 12<|.nil)<|R (m 13 0<|O 14 .nilc 13<|A 15 0 14<|A 16 4 15<|L 17 16<|o 18 (.len 0) [t 17] []<|o 19 .mov [c 0] []<|.nil)<|.block 0 (.loop [0,2,3,17,18,19] [] (R (b 20 .lss [t 19,t 18] []<|.nil)<|.seq (.cond (t 20) (.skip) (.exit 0))<|.seq (.block 1 (R (m 21 19<|o 22 (.iad 7) [t 17,t 19] []<|O 23 (.loadA 7) 22<|U 5 (.alloc 100 z4) []<|M 4 21<|.sto (.store 7) [t 5,t 23] [23]<|.nil)<|R (o 6 .mov [cf] []<|.nil)<|.seq (R (o 7 .mov [c 0] []<|.nil)<|.block 2 (.loop [0,2,3,4,5,6,7,17,18,19] [0,2,3,5,6,17,18,19] (.seq (R (m 24 7<|m 25 4<|C 26 .lss 24 25<|M 27 26<|x 33 27 true (m 28 3<|m 29 4<|U 30 (.iad 1) [28,29]<|L 31 30<|O 32 (.un .not) 31<|.nil) (t 32) [27]<|M 34 33<|x 37 34 true (m 35 6<|O 36 (.un .not) 35<|.nil) (t 36) [34]<|.nil)<|.cond (t 37) (.skip) (.exit 2))<|.seq (.block 3 (.regD 3 (m 40 3<|m 41 7<|U 42 (.iad 1) [40,41]<|L 43 42<|O 44 (.un .not) 43<|M 45 44<|x 55 45 true (m 46 2<|m 47 7<|U 48 (.iad 9) [46,47]<|O 49 (.loadA 9) 48<|m 50 2<|m 51 4<|U 52 (.iad 9) [50,51]<|O 53 (.loadA 9) 52<|U 54 (.callF 138) [49,53]<|.nil) (t 54) [45]<|M 6 55<|.nil) [0,0,3,7,15,31,63,63,255,511,63,63,3135,7231,16383,32767,65535]))<|.reg<|M 38 7<|B 39 .add 38 1<|M 7 39<|.nil)))<|.reg<|m 56 0<|M 57 6<|A 58 0 5<|O 59 (.loadA 2) 58<|f 60 103 [t 56,t 57,t 59] [56,57,59,60]<|.nil))<|.reg<|b 61 .add [t 19,c 1] [19,60]<|M 19 61<|.nil)),true⟩
def p60:PFn:=⟨80,[],R (m 8 0<|O 9 .nilc 8<|A 10 7 9<|L 11 10<|O 12 (.len 0) 11<|M 2 12<|.nil)<|R (m 13 0<|f 14 109 [t 13,.c (.fn 139 [] [])] [13,14]<|.nil)<|.seq (R (o 15 .mov [t 0] [14]<|O 16 .nilc 15<|A 17 7 16<|L 18 17<|O 19 (.len 0) 18<|M 20 2<|C 21 .gtr 19 20<|.nil)<|.cond (t 21) (.ret) (.skip))<|R (U 3 (.alloc 217 z10) []<|.nil)<|R (o 4 .mov [ct] [4]<|.nil)<|.seq (R (o 22 .mov [t 0] [4]<|O 23 .nilc 22<|A 24 0 23<|A 25 3 24<|L 26 25<|o 27 (.len 0) [t 26] []<|o 28 .mov [c 0] []<|.nil)<|.block 0 (.loop [0,3,26,27,28] [0,3] (R (b 29 .lss [t 28,t 27] []<|.nil)<|.seq (.cond (t 29) (.skip) (.exit 0))<|.seq (.block 1 (R (o 30 (.iad 22) [t 26,t 28] []<|O 31 (.loadA 22) 30<|U 6 (.alloc 60 z3) []<|.sto (.store 22) [t 6,t 31] [31]<|.nil)<|R (o 33 (.loadA 6) [t 3] []<|o 34 (.loadA 22) [t 6] []<|U 35 (.callF 140) [33,34]<|M 32 35<|e 36 0 32 []<|O 37 (.ext 1) 32<|.sto (.store 6) [t 3,t 36] [36]<|M 4 37<|.nil)<|R (M 38 4<|O 39 (.un .not) 38<|.nil)<|.cond (t 39) (R (M 40 0<|A 41 0 6<|O 42 (.loadA 2) 41<|f 43 103 [t 40,ct,t 42] [40,42,43]<|.nil)<|.ret) (.skip)))<|.reg<|b 44 .add [t 28,c 1] [28,43]<|M 28 44<|.nil)))<|R (a 45 0 3<|L 46 45<|M 47 46<|x 51 47 true (a 48 3 3<|L 49 48<|B 50 .eql 49 0<|.nil) (t 50) [47]<|M 52 51<|x 61 52 false (a 53 3 3<|L 54 53<|B 55 .neq 54 0<|M 56 55<|x 60 56 true (O 57 (.loadA 6) 3<|O 58 (.callF 141) 57<|O 59 (.un .not) 58<|.nil) (t 59) [3,56]<|.nil) (t 60) [3,52]<|M 7 61<|.nil)<|.regD 3 (m 62 0<|M 63 7<|m 64 0<|O 65 .nilc 64<|A 66 0 65<|A 67 3 66<|L 68 67<|M 69 0<|O 70 .nilc 69<|A 71 0 70<|A 72 3 71<|L 73 72<|O 74 (.len 0) 73<|B 75 .sub 74 1<|U 76 (.iad 22) [68,75]<|A 77 0 76<|O 78 (.loadA 2) 77<|f 79 103 [t 62,t 63,t 78] [62,63,78,79]<|.nil) [0,0,0,4,12,28,60,0,128,384,896,1920,3968,8064,16380,32764,65532,131071],true⟩
def p61:PFn:=⟨5,[],R (O 1 (.box 124 1) 0<|.nil)<|.reg<|o 2 .loadS [t 1] []<|O 3 (.mkfn (.func 142) 0) 1<|f 4 109 [t 2,t 3] [2,3,4]<|.nil,true⟩
def p62:PFn:=⟨4,[],.reg<|M 2 0<|f 3 109 [t 2,.c (.fn 146 [] [])] [2,3]<|.nil,true⟩
def p63:PFn:=⟨5,[],R (O 1 (.box 124 1) 0<|.nil)<|.reg<|o 2 .loadS [t 1] []<|O 3 (.mkfn (.func 147) 0) 1<|f 4 119 [t 2,t 3] [2,3,4]<|.nil,true⟩
def p73:PFn:=⟨16,[.cellA 2 13],R (O 1 (.box 121 13) 0<|U 2 (.alloc 121 z11) []<|.nil)<|.seq (.regD 3 (a 3 5 1<|L 4 3<|O 5 (.callF 155) 4<|a 6 6 1<|L 7 6<|O 8 (.callF 156) 7<|a 9 10 1<|L 10 9<|O 11 (.callF 157) 10<|a 12 5 1<|.sto (.store 1) [t 12,t 5] [5,12]<|a 13 6 1<|.sto (.store 1) [t 13,t 8] [8,13]<|a 14 10 1<|.sto (.store 1) [t 14,t 11] [11,14]<|.nil) [0,1,3,0,8,31,0,64,255,223,1023,2047,4095,8191,16383])<|R (O 15 (.loadA 13) 1<|.sto (.store 13) [t 2,t 15] [15]<|.nil)<|.ret,true⟩
def p75:PFn:=⟨20,[.tmp 2],R (O 1 (.box 31 6) 0<|o 2 .mov [c 0] [2]<|.nil)<|R (o 3 .mov [c 0] [2]<|.nil)<|.seq (R (A 6 2 1<|L 7 6<|o 8 (.len 0) [t 7] []<|o 9 .mov [c 0] []<|.nil)<|.block 0 (.loop [3,7,8,9] [3] (R (b 10 .lss [t 9,t 8] []<|.nil)<|.seq (.cond (t 10) (.skip) (.exit 0))<|.seq (.block 1 (R (o 11 (.iad 6) [t 7,t 9] []<|O 12 (.loadA 6) 11<|U 5 (.alloc 53 z1) []<|.sto (.store 6) [t 5,t 12] [12]<|.nil)<|.reg<|M 13 3<|A 14 5 5<|L 15 14<|O 16 (.len 0) 15<|C 17 .add 13 16<|M 3 17<|.nil))<|.reg<|B 18 .add 9 1<|M 9 18<|.nil)))<|R (M 19 3<|M 2 19<|.nil)<|.ret,true⟩
def p80:PFn:=⟨4,[.tmp 2],R (O 1 (.box 140 1) 0<|o 2 .mov [.c (.v .nilFunc)] [2]<|.nil)<|R (o 3 (.mkfn (.func 159) 0) [t 1] [1,2]<|M 2 3<|.nil)<|.ret,true⟩
def p82:PFn:=⟨21,[.tmp 4],R (O 2 (.box 31 6) 0<|o 4 .mov [c 0] [4]<|.nil)<|.seq (R (o 7 (.fad 5) [t 2] [2,4]<|L 8 7<|o 9 (.len 0) [t 8] []<|o 10 .mov [c 0] []<|.nil)<|.block 0 (.loop [1,8,9,10] [4] (R (b 11 .lss [t 10,t 9] []<|.nil)<|.seq (.cond (t 11) (.skip) (.exit 0))<|.seq (.block 1 (R (o 12 (.iad 2) [t 8,t 10] []<|O 13 (.loadA 2) 12<|U 6 (.alloc 48 z5) []<|.sto (.store 2) [t 6,t 13] [13]<|.nil)<|R (a 14 0 6<|L 15 14<|m 16 1<|C 17 .eql 15 16<|.nil)<|.cond (t 17) (R (A 18 1 6<|L 19 18<|M 4 19<|.nil)<|.ret) (.skip)))<|.reg<|B 20 .add 10 1<|M 10 20<|.nil)))<|R (o 4 .mov [c 0] []<|.nil)<|.ret,true⟩
def p102:PFn:=⟨39,[.cellA 2 2],R (O 1 (.box 77 2) 0<|U 2 (.alloc 77 [ZN,ZN]) []<|.nil)<|R (U 3 (.alloc 77 [ZN,ZN]) []<|.ownc 3 0 121 13 false<|.ownc 3 1 226 4 false<|.nil)<|.seq (R (o 4 .mov [c 0] []<|.nil)<|.block 0 (.loop [1,2,3,4] [1,2,3] (.seq (R (m 5 4<|a 6 0 1<|L 7 6<|O 8 (.len 0) 7<|C 9 .lss 5 8<|M 10 9<|x 13 10 true (m 11 4<|B 12 .lss 11 12<|.nil) (t 12) [10]<|.nil)<|.cond (t 13) (.skip) (.exit 0))<|.seq (.block 1 (.regD 3 (a 16 0 3<|L 17 16<|a 18 0 1<|L 19 18<|m 20 4<|U 21 (.iad 13) [19,20]<|O 22 (.loadA 13) 21<|O 23 (.callF 171) 22<|O 24 (.buildSl 121 13 1 z11 [0]) 23<|U 25 (.append 121 13 152 z11 false) [17,24]<|a 26 0 3<|.sto (.store 1) [t 26,t 25] [25,26]<|.nil) [0,1,0,4,0,28,60,124,252,511,1023,2047]))<|.reg<|M 14 4<|B 15 .add 14 1<|M 4 15<|.nil)))<|.seq (.regD 3 (a 27 1 3<|L 28 27<|a 29 1 1<|L 30 29<|A 31 1 1<|L 32 31<|O 33 (.len 0) 32<|o 34 .mn [t 33,c 6] [33]<|U 35 (.slc 4 false true false) [30,34]<|U 36 (.append 226 4 32 z12 false) [28,35]<|a 37 1 3<|.sto (.store 1) [t 37,t 36] [36,37]<|.nil) [0,1,0,4,0,16,48,112,252,511,1023,2047])<|R (O 38 (.loadA 2) 3<|.sto (.store 2) [t 2,t 38] [38]<|.nil)<|.ret,true⟩
def p103:PFn:=⟨22,[],R (O 5 (.box 48 2) 2<|.nil)<|R (M 6 1<|.nil)<|.condJ [] (t 6) (.regD 3 (m 7 0<|m 8 0<|O 9 .nilc 8<|A 10 7 9<|L 11 10<|M 12 0<|O 13 .nilc 12<|A 14 6 13<|L 15 14<|O 16 (.loadA 2) 5<|U 17 (.build z2 [(0,1),(1,2)]) [15,16]<|O 18 (.buildSl 129 3 1 z2 [0]) 17<|U 19 (.append 129 3 24 z2 false) [11,18]<|O 20 .nilc 7<|A 21 7 20<|.sto (.store 1) [t 21,t 19] [19,21]<|.nil) [0,0,2,6,14,0,32,96,224,0,992,2016,4094,8191,16383,32767]) (.skip),true⟩
def p104:PFn:=⟨14,[.tmp 2],R (o 2 .mov [cf] [2]<|.nil)<|R (o 3 .mov [.c (.fn 172 [] [])] [2]<|.nil)<|R (m 4 0<|O 5 (.len 1) 4<|B 6 .leq 5 256<|M 7 6<|x 13 7 true (M 8 0<|O 9 (.s2b 5) 8<|M 10 3<|U 11 (.callF 173) [9,10]<|O 12 (.un .not) 11<|.nil) (t 12) [0,3,7]<|M 2 13<|.nil)<|.ret,true⟩
def p105:PFn:=⟨15,[.tmp 6],R (o 6 .mov [cf] [6]<|.nil)<|R (o 7 .mov [t 0] [6]<|M 8 1<|C 9 .geq 7 8<|M 10 9<|x 14 10 true (M 11 0<|M 12 2<|C 13 .leq 11 12<|.nil) (t 13) [0,2,10]<|M 6 14<|.nil)<|.ret,true⟩
def p106:PFn:=⟨21,[.tmp 2],R (O 1 (.box 50 2) 0<|o 2 .mov [c 0] [2]<|.nil)<|.seq (R (o 3 (.fad 0) [t 1] [2]<|L 4 3<|B 5 .lss 4 (-77)<|M 6 5<|x 10 6 false (a 7 0 1<|L 8 7<|B 9 .gtr 8 77<|.nil) (t 9) [6]<|M 11 10<|x 15 11 false (a 12 1 1<|L 13 12<|B 14 .lss 13 (-140)<|.nil) (t 14) [11]<|M 16 15<|x 20 16 false (A 17 1 1<|L 18 17<|B 19 .gtr 18 140<|.nil) (t 19) [1,16]<|.nil)<|.cond (t 20) (R (o 2 .mov [c 2] []<|.nil)<|.ret) (.skip))<|R (o 2 .mov [c 0] []<|.nil)<|.ret,true⟩
def q107_5a:PC:=.reg<|M 5 8<|.nil
def q107_5b:PC:=.block 1 (.regD 3 (o 9 .loadS [t 3] []<|M 10 5<|O 11 .nilc 10<|O 12 (.loadA 2) 11<|O 13 (.buildSl 48 2 1 z5 [0]) 12<|U 14 (.append 48 2 16 z5 false) [9,13]<|.sto (.store 1) [t 3,t 14] [3,14]<|.nil) [0,0,2,6,14,31,63])
def p107:PFn:=⟨16,[.tmp 2],R (O 1 (.box 31 6) 0<|o 2 .mov [cn] [2]<|.nil)<|R (o 3 (.alloc 29 [ZN]) [] [2]<|.ownc 3 0 48 2 false<|.nil)<|.seq (R (O 6 (.callF 80) 1<|.nil)<|.block 0 (.rangeF 16 [3] (t 6) [7,8] q107_5a q107_5b))<|R (L 15 3<|M 2 15<|.nil)<|.ret,true⟩
def p108:PFn:=⟨11,[.tmp 2],R (O 1 (.box 48 2) 0<|o 2 .mov [cf] [2]<|.nil)<|R (o 3 (.fad 0) [t 1] [2]<|L 4 3<|f 5 105 [t 4,c 0,c 99] [4]<|M 6 5<|x 10 6 true (A 7 1 1<|L 8 7<|f 9 105 [t 8,c 1,c 1073741824] [8]<|.nil) (t 9) [1,6]<|M 2 10<|.nil)<|.ret,true⟩
def p109:PFn:=⟨26,[],R (m 6 0<|O 7 .nilc 6<|A 8 0 7<|A 9 3 8<|L 10 9<|o 11 (.len 0) [t 10] []<|o 12 .mov [c 0] []<|.nil)<|.block 0 (.loop [0,1,10,11,12] [] (R (b 13 .lss [t 12,t 11] []<|.nil)<|.seq (.cond (t 13) (.skip) (.exit 0))<|.seq (.block 1 (R (m 14 12<|o 15 (.iad 22) [t 10,t 12] []<|O 16 (.loadA 22) 15<|U 5 (.alloc 60 z3) []<|M 4 14<|.sto (.store 22) [t 5,t 16] [16]<|.nil)<|.regD 3 (m 17 0<|m 18 1<|M 19 4<|o 20 (.loadA 22) [t 5] []<|U 21 .callV [18,19,20]<|A 22 0 5<|O 23 (.loadA 2) 22<|f 24 103 [t 17,t 21,t 23] [17,21,23,24]<|.nil) [0,0,0,0,14,0,32,127]))<|.reg<|b 25 .add [t 12,c 1] [12,24]<|M 12 25<|.nil)),true⟩
def p110:PFn:=⟨73,[.tmp 5],R (O 4 (.box 60 22) 1<|o 5 .mov [cf] [5]<|.nil)<|R (o 12 (.fad 21) [t 4] [5]<|L 13 12<|O 14 (.len 0) 13<|L 15 2<|C 16 .neq 14 15<|M 6 16<|.nil)<|.seq (R (A 17 21 4<|L 18 17<|o 19 (.len 0) [t 18] []<|o 20 .mov [c 0] []<|.nil)<|.block 0 (.loop [6,18,19,20] [6] (R (b 21 .lss [t 20,t 19] []<|.nil)<|.seq (.cond (t 21) (.skip) (.exit 0))<|.seq (.block 1 (R (o 22 (.iad 2) [t 18,t 20] []<|O 23 (.loadA 2) 22<|U 8 (.alloc 64 [ZN,ZN]) []<|.sto (.store 2) [t 8,t 23] [23]<|.nil)<|R (A 24 1 8<|L 25 24<|M 9 25<|.nil)<|R (M 26 6<|M 27 26<|x 31 27 false (m 28 9<|O 29 (.len 0) 28<|B 30 .eql 29 0<|.nil) (t 30) [27]<|M 32 31<|x 39 32 false (m 33 9<|o 34 (.iad 2) [t 33,c 0] [33]<|A 35 0 34<|L 36 35<|O 37 (.len 0) 36<|B 38 .eql 37 0<|.nil) (t 38) [32]<|M 40 39<|x 50 40 false (m 41 9<|m 42 9<|O 43 (.len 0) 42<|B 44 .sub 43 1<|U 45 (.iad 2) [41,44]<|A 46 0 45<|L 47 46<|O 48 (.len 0) 47<|B 49 .eql 48 0<|.nil) (t 49) [40]<|M 6 50<|.nil)<|R (M 51 9<|o 52 (.len 0) [t 51] []<|o 53 .mov [c 0] []<|.nil)<|.block 2 (.loop [6,18,19,20,51,52,53] [6,18,19,20] (R (b 54 .lss [t 53,t 52] []<|.nil)<|.seq (.cond (t 54) (.skip) (.exit 2))<|.seq (.block 3 (R (o 55 (.iad 2) [t 51,t 53] []<|O 56 (.loadA 2) 55<|U 11 (.alloc 77 [ZN,ZN]) []<|.sto (.store 2) [t 11,t 56] [56]<|.nil)<|.reg<|M 57 6<|M 58 57<|x 69 58 false (a 59 0 11<|L 60 59<|O 61 (.len 0) 60<|B 62 .eql 61 0<|M 63 62<|x 68 63 true (A 64 1 11<|L 65 64<|O 66 (.len 0) 65<|B 67 .gtr 66 0<|.nil) (t 67) [11,63]<|.nil) (t 68) [11,58]<|M 6 69<|.nil))<|.reg<|B 70 .add 53 1<|M 53 70<|.nil))))<|.reg<|B 71 .add 20 1<|M 20 71<|.nil)))<|R (M 72 6<|M 5 72<|.nil)<|.ret,true⟩
def p111:PFn:=⟨11,[.tmp 2],R (o 2 .mov [c 0] [2]<|.nil)<|R (o 6 .mov [t 0] [0,2]<|O 7 (.callF 174) 6<|M 5 7<|e 8 0 5 []<|O 9 (.ext 1) 5<|U 3 (.alloc 249 z13) []<|.sto (.store 7) [t 3,t 8] [3,8]<|M 4 9<|.nil)<|R (M 10 4<|M 2 10<|.nil)<|.ret,true⟩
def p112:PFn:=⟨70,[.tmp 4],R (O 3 (.box 60 22) 1<|o 4 .mov [cf] [4]<|.nil)<|R (o 13 (.loadA 22) [t 3] [4]<|O 14 (.callF 113) 13<|M 12 14<|e 15 0 12 []<|O 16 (.ext 1) 12<|M 5 15<|M 6 16<|.nil)<|R (o 7 .mov [cf] []<|.nil)<|.seq (R (A 17 21 3<|L 18 17<|o 19 (.len 0) [t 18] []<|o 20 .mov [c 0] []<|.nil)<|.block 0 (.loop [5,6,7,18,19,20] [6,7] (R (b 21 .lss [t 20,t 19] []<|.nil)<|.seq (.cond (t 21) (.skip) (.exit 0))<|.seq (.block 1 (R (o 22 (.iad 2) [t 18,t 20] []<|O 23 (.loadA 2) 22<|U 9 (.alloc 64 [ZN,ZN]) []<|.sto (.store 2) [t 9,t 23] [23]<|.nil)<|R (a 24 0 9<|L 25 24<|o 26 (.len 0) [t 25] []<|o 27 .mov [c 0] []<|.nil)<|.block 2 (.loop [5,6,7,9,18,19,20,25,26,27] [5,6,7,18,19,20] (R (b 28 .lss [t 27,t 26] []<|.nil)<|.seq (.cond (t 28) (.skip) (.exit 2))<|.seq (.block 3 (R (m 29 27<|o 30 (.iad 2) [t 25,t 27] []<|O 31 (.loadA 2) 30<|U 11 (.alloc 96 z5) []<|M 10 29<|.sto (.store 2) [t 11,t 31] [31]<|.nil)<|.regD 3 (M 32 7<|M 33 32<|x 38 33 false (a 34 1 11<|L 35 34<|O 36 (.callF 111) 35<|B 37 .neq 36 0<|.nil) (t 37) [33]<|M 39 38<|x 46 39 false (a 40 0 11<|L 41 40<|m 42 5<|B 43 .sub 42 1<|f 44 105 [t 41,c 0,t 43] [41,43]<|O 45 (.un .not) 44<|.nil) (t 45) [39]<|M 47 46<|x 62 47 false (m 48 10<|B 49 .gtr 48 0<|M 50 49<|x 61 50 true (A 51 0 11<|L 52 51<|a 53 0 9<|L 54 53<|M 55 10<|B 56 .sub 55 1<|U 57 (.iad 2) [54,56]<|A 58 0 57<|L 59 58<|C 60 .leq 52 59<|.nil) (t 60) [10,11,50]<|.nil) (t 61) [10,11,47]<|M 7 62<|.nil) [0,1,3,7,15,31,63,127,255,511,255,1279,4095,8191,16383,32767,65535,131071,262143,524287,1048575,524287,2621439,524287,8912895,31981567,65535999,132644863,268435455,536870911,1073741823,2147483647]))<|.reg<|B 63 .add 27 1<|M 27 63<|.nil))))<|.reg<|B 64 .add 20 1<|M 20 64<|.nil)))<|R (M 65 7<|M 66 65<|x 69 66 true (M 67 6<|B 68 .eql 67 0<|.nil) (t 68) [6,66]<|M 4 69<|.nil)<|.ret,true⟩
def p113:PFn:=⟨34,[.tmp 2,.tmp 3],R (O 1 (.box 60 22) 0<|o 2 .mov [c 0] [2]<|o 3 .mov [c 0] [2,3]<|.nil)<|R (o 7 (.fad 2) [t 1] [3]<|O 8 (.loadA 8) 7<|O 9 (.callF 175) 8<|M 6 9<|e 10 0 6 []<|O 11 (.ext 1) 6<|M 4 10<|M 5 11<|.nil)<|.seq (.block 0 (R (m 13 5<|B 14 .neq 13 0<|M 12 14<|.nil)<|.cond (t 12) (R (M 15 5<|o 2 .mov [c 0] []<|M 3 15<|.nil)<|.ret) (R (a 17 10 1<|L 18 17<|B 19 .lss 18 0<|M 16 19<|.nil)<|.cond (t 16) (R (o 2 .mov [c 0] []<|o 3 .mov [c 2] []<|.nil)<|.ret) (R (a 21 10 1<|L 22 21<|B 23 .gtr 22 0<|M 20 23<|.nil)<|.condJ [4] (t 20) (.reg<|A 24 10 1<|L 25 24<|M 4 25<|.nil) (.skip)))))<|.seq (.block 1 (R (m 27 4<|B 28 .rem 27 7560<|B 29 .neq 28 0<|M 26 29<|.nil)<|.cond (t 26) (R (o 2 .mov [c 0] []<|o 3 .mov [c 16] []<|.nil)<|.ret) (R (m 31 4<|B 32 .gtr 31 15482880<|M 30 32<|.nil)<|.cond (t 30) (R (o 2 .mov [c 0] []<|o 3 .mov [c 5] []<|.nil)<|.ret) (.skip))))<|R (M 33 4<|M 2 33<|o 3 .mov [c 0] []<|.nil)<|.ret,true⟩
def p114:PFn:=⟨55,[.tmp 5],R (O 4 (.box 60 22) 1<|o 5 .mov [cf] [5]<|.nil)<|R (o 12 (.loadA 22) [t 4] [5]<|O 13 (.callF 113) 12<|M 11 13<|e 14 0 11 []<|O 15 (.ext 1) 11<|o 6 .mov [t 14] [6,14]<|o 7 .mov [t 15] [6,15]<|.nil)<|R (M 16 7<|B 17 .neq 16 0<|M 18 17<|x 23 18 false (a 19 11 4<|L 20 19<|f 21 105 [t 20,c (-7),c 7] [20]<|O 22 (.un .not) 21<|.nil) (t 22) [18]<|M 8 23<|.nil)<|.seq (R (o 24 .loadS [t 2] []<|O 25 .nilc 24<|A 26 0 25<|A 27 2 26<|L 28 27<|o 29 (.len 0) [t 28] []<|o 30 .mov [c 0] []<|.nil)<|.block 0 (.loop [2,4,8,28,29,30] [8] (R (b 31 .lss [t 30,t 29] []<|.nil)<|.seq (.cond (t 31) (.skip) (.exit 0))<|.seq (.block 1 (R (o 32 (.iad 6) [t 28,t 30] []<|O 33 (.loadA 6) 32<|U 10 (.alloc 53 z1) []<|.sto (.store 6) [t 10,t 33] [33]<|.nil)<|R (o 34 .loadS [t 2] []<|O 35 .nilc 34<|A 36 0 35<|A 37 1 36<|L 38 37<|M 39 38<|x 42 39 true (m 40 8<|O 41 (.un .not) 40<|.nil) (t 41) [39]<|.nil)<|.condJ [2,4,8,28,29,30] (t 42) (R (a 44 11 4<|L 45 44<|A 46 3 10<|O 47 (.loadA 2) 46<|U 48 (.callF 115) [45,47]<|M 43 48<|e 49 0 43 [49]<|e 50 1 43 [43,49]<|M 7 50<|.nil)<|.reg<|M 51 7<|B 52 .neq 51 0<|M 8 52<|.nil) (.skip)))<|.reg<|B 53 .add 30 1<|M 30 53<|.nil)))<|R (M 54 8<|M 5 54<|.nil)<|.ret,true⟩
def p115:PFn:=⟨48,[.tmp 4,.tmp 5],R (O 3 (.box 50 2) 1<|o 4 .mov [c 0] [4]<|o 5 .mov [c 0] [4,5]<|.nil)<|.seq (R (o 7 .mov [t 0] [5]<|O 8 (.callF 176) 7<|M 6 8<|.nil)<|R (m 9 6<|B 10 .neq 9 0<|.nil)<|.cond (t 10) (R (M 11 6<|o 4 .mov [c 0] []<|M 5 11<|.nil)<|.ret) (.skip))<|.seq (R (a 12 0 3<|L 13 12<|B 14 .lss 13 (-77)<|M 15 14<|x 19 15 false (a 16 0 3<|L 17 16<|B 18 .gtr 17 77<|.nil) (t 18) [15]<|M 20 19<|x 24 20 false (a 21 1 3<|L 22 21<|B 23 .lss 22 (-140)<|.nil) (t 23) [20]<|M 25 24<|x 29 25 false (a 26 1 3<|L 27 26<|B 28 .gtr 27 140<|.nil) (t 28) [25]<|.nil)<|.cond (t 29) (R (o 4 .mov [c 0] []<|o 5 .mov [c 2] []<|.nil)<|.ret) (.skip))<|R (M 30 0<|a 31 1 3<|L 32 31<|b 33 .mul [c 7,t 32] [32]<|A 34 0 3<|L 35 34<|b 36 .mul [c 12,t 35] [35]<|C 37 .sub 33 36<|C 38 .add 30 37<|M 0 38<|.nil)<|.seq (.block 0 (.loop [0] [0] (.seq (R (m 39 0<|B 40 .gtr 39 7<|.nil)<|.cond (t 40) (.skip) (.exit 0))<|.block 1 (.reg<|M 41 0<|B 42 .sub 41 12<|M 0 42<|.nil))))<|.seq (.block 2 (.loop [0] [0] (.seq (R (m 43 0<|B 44 .lss 43 (-7)<|.nil)<|.cond (t 44) (.skip) (.exit 2))<|.block 3 (.reg<|M 45 0<|B 46 .add 45 12<|M 0 46<|.nil))))<|R (M 47 0<|M 4 47<|o 5 .mov [c 0] []<|.nil)<|.ret,true⟩
def p116:PFn:=⟨7,[],R (O 3 (.box 184 1) 1<|.nil)<|.reg<|M 4 0<|O 5 (.mkfn (.func 177) 0) 3<|f 6 109 [t 4,t 5] [4,5,6]<|.nil,true⟩
def p117:PFn:=⟨9,[.tmp 2],R (o 2 .mov [cf] [2]<|.nil)<|R (o 3 .mov [t 0] [2]<|B 4 .eql 3 11<|M 5 4<|x 8 5 false (M 6 0<|B 7 .eql 6 20<|.nil) (t 7) [0,5]<|M 2 8<|.nil)<|.ret,true⟩
def p118:PFn:=⟨10,[.tmp 2],R (o 2 .mov [cf] [2]<|.nil)<|R (o 3 .mov [t 0] [2]<|B 4 .neq 3 0<|M 5 4<|x 9 5 true (M 6 0<|O 7 (.callF 117) 6<|O 8 (.un .not) 7<|.nil) (t 8) [0,5]<|M 2 9<|.nil)<|.ret,true⟩
def p119:PFn:=⟨63,[],R (m 12 0<|O 13 .nilc 12<|A 14 0 13<|A 15 3 14<|L 16 15<|o 17 (.len 0) [t 16] []<|o 18 .mov [c 0] []<|.nil)<|.block 0 (.loop [0,1,16,17,18] [] (R (b 19 .lss [t 18,t 17] []<|.nil)<|.seq (.cond (t 19) (.skip) (.exit 0))<|.seq (.block 1 (R (m 20 18<|o 21 (.iad 22) [t 16,t 18] []<|O 22 (.loadA 22) 21<|U 5 (.alloc 60 z3) []<|M 4 20<|.sto (.store 22) [t 5,t 22] [22]<|.nil)<|R (A 23 21 5<|L 24 23<|o 25 (.len 0) [t 24] []<|o 26 .mov [c 0] []<|.nil)<|.block 2 (.loop [0,1,4,16,17,18,24,25,26] [0,1,16,17,18] (R (b 27 .lss [t 26,t 25] []<|.nil)<|.seq (.cond (t 27) (.skip) (.exit 2))<|.seq (.block 3 (R (m 28 26<|o 29 (.iad 2) [t 24,t 26] []<|O 30 (.loadA 2) 29<|U 7 (.alloc 64 [ZN,ZN]) []<|M 6 28<|.sto (.store 2) [t 7,t 30] [30]<|.nil)<|R (A 31 1 7<|L 32 31<|o 33 (.len 0) [t 32] []<|o 34 .mov [c 0] []<|.nil)<|.block 4 (.loop [0,1,4,6,16,17,18,24,25,26,32,33,34] [0,1,4,16,17,18,24,25,26] (R (b 35 .lss [t 34,t 33] []<|.nil)<|.seq (.cond (t 35) (.skip) (.exit 4))<|.seq (.block 5 (R (m 36 34<|o 37 (.iad 2) [t 32,t 34] []<|O 38 (.loadA 2) 37<|U 9 (.alloc 77 [ZN,ZN]) []<|M 8 36<|.sto (.store 2) [t 9,t 38] [38]<|.nil)<|R (A 39 0 9<|L 40 39<|o 41 (.len 0) [t 40] []<|o 42 .mov [c 0] []<|.nil)<|.block 6 (.loop [0,1,4,6,8,16,17,18,24,25,26,32,33,34,40,41,42] [0,1,4,6,16,17,18,24,25,26,32,33,34] (R (b 43 .lss [t 42,t 41] []<|.nil)<|.seq (.cond (t 43) (.skip) (.exit 6))<|.seq (.block 7 (R (m 44 42<|o 45 (.iad 13) [t 40,t 42] []<|O 46 (.loadA 13) 45<|U 11 (.alloc 121 z11) []<|M 10 44<|.sto (.store 13) [t 11,t 46] [46]<|.nil)<|.regD 3 (m 47 0<|m 48 1<|m 49 6<|m 50 4<|m 51 8<|M 52 10<|o 53 (.build z4 [(0,1),(2,1),(3,1),(4,1),(5,1)]) [c 4,t 49,t 50,t 51,t 52] [49,50,51,52]<|o 54 (.loadA 13) [t 11] []<|U 55 .callV [48,53,54]<|A 56 0 11<|O 57 (.loadA 2) 56<|f 58 103 [t 47,t 55,t 57] [47,55,57,58]<|.nil) [0,0,0,0,0,0,60,0,254,0,512,2047]))<|.reg<|b 59 .add [t 42,c 1] [42,58]<|M 42 59<|.nil))))<|.reg<|B 60 .add 34 1<|M 34 60<|.nil))))<|.reg<|B 61 .add 26 1<|M 26 61<|.nil))))<|.reg<|B 62 .add 18 1<|M 18 62<|.nil)),true⟩
def p120:PFn:=⟨8,[.tmp 4],R (o 2 (.box 102 7) [t 0] [0,2]<|o 3 (.box 121 13) [t 1] [1,2]<|o 4 .mov [cf] [4]<|.nil)<|R (o 5 (.loadA 13) [t 3] [3,4]<|O 6 (.callF 121) 5<|B 7 .neq 6 0<|M 4 7<|.nil)<|.ret,true⟩
def p121:PFn:=⟨70,[.tmp 2],R (O 1 (.box 121 13) 0<|o 2 .mov [c 0] [2]<|.nil)<|.seq (.seq (.regD 3 (o 5 (.fad 0) [t 1] [2]<|A 6 0 5<|L 7 6<|f 8 186 [t 7,c 99] [7]<|a 9 0 1<|A 10 1 9<|L 11 10<|f 12 186 [t 11,c 1073741824] [11]<|U 13 (.buildSl 35 1 2 [(J 0)] [0,1]) [8,12]<|O 14 (.callF 185) 13<|M 3 14<|.nil) [0,1,3,7,0,16,48,127,255,511,1023])<|R (m 15 3<|B 16 .neq 15 0<|.nil)<|.cond (t 16) (R (M 17 3<|M 2 17<|.nil)<|.ret) (.skip))<|.seq (R (a 18 2 1<|L 19 18<|O 20 (.callF 187) 19<|O 21 (.un .not) 20<|.nil)<|.cond (t 21) (R (o 2 .mov [c 11] []<|.nil)<|.ret) (.skip))<|.seq (.seq (.regD 3 (o 22 (.loadA 13) [t 1] []<|o 23 (.loadA 13) [t 1] []<|O 24 (.callF 188) 23<|U 25 (.callF 151) [22,24]<|O 26 (.un .not) 25<|.nil) [0,0,2,7,15])<|.cond (t 26) (R (o 2 .mov [c 3] []<|.nil)<|.ret) (.skip))<|.seq (R (a 27 2 1<|L 28 27<|B 29 .neq 28 3<|M 30 29<|x 35 30 true (a 31 3 1<|O 32 (.loadA 2) 31<|O 33 (.callF 189) 32<|B 34 .neq 33 0<|.nil) (t 34) [30]<|.nil)<|.cond (t 35) (R (o 2 .mov [c 17] []<|.nil)<|.ret) (.skip))<|.seq (R (a 36 2 1<|L 37 36<|B 38 .eql 37 1<|.nil)<|.cond (t 38) (.seq (.regD 3 (a 39 5 1<|L 40 39<|O 41 (.callF 190) 40<|a 42 6 1<|L 43 42<|O 44 (.callF 191) 43<|a 45 10 1<|L 46 45<|O 47 (.callF 192) 46<|U 48 (.buildSl 35 1 3 [(J 0)] [0,1,2]) [41,44,47]<|O 49 (.callF 185) 48<|M 4 49<|.nil) [0,1,3,0,8,31,0,64,255,511,1023,2047])<|R (m 50 4<|B 51 .neq 50 0<|.nil)<|.cond (t 51) (R (M 52 4<|M 2 52<|.nil)<|.ret) (.skip)) (.skip))<|.seq (.regD 3 (a 53 7 1<|L 54 53<|f 55 186 [t 54,c 31] [54]<|a 56 8 1<|L 57 56<|f 58 186 [t 57,c 4] [57]<|a 59 9 1<|L 60 59<|f 61 186 [t 60,c 9] [60]<|a 62 11 1<|L 63 62<|f 64 186 [t 63,c 2] [63]<|A 65 12 1<|L 66 65<|f 67 186 [t 66,c 2] [66]<|U 68 (.buildSl 35 1 5 [(J 0)] [0,1,2,3,4]) [55,58,61,64,67]<|O 69 (.callF 185) 68<|M 2 69<|.nil) [0,1,3,0,8,31,0,64,255,0,512,2047,0,4096,16383,32767,65535,131071])<|.ret,true⟩
def p122:PFn:=⟨55,[.tmp 5],R (O 3 (.box 102 7) 0<|O 4 (.box 121 13) 1<|o 5 .mov [cf] [5]<|.nil)<|.seq (R (o 11 (.loadA 13) [t 4] [5]<|O 12 (.callF 121) 11<|B 13 .neq 12 0<|.nil)<|.cond (t 13) (R (o 5 .mov [cf] []<|.nil)<|.ret) (.skip))<|R (U 6 (.alloc 3 [(J 0)]) []<|.sto (.store 1) [t 6,c 0] []<|.nil)<|.seq (.seq (.regD 3 (o 15 .loadS [t 2] []<|O 16 .nilc 15<|A 17 0 16<|O 18 (.loadA 6) 17<|A 19 2 3<|L 20 19<|U 21 (.callF 123) [18,20]<|M 14 21<|e 22 0 14 []<|e 23 1 14 []<|O 24 (.ext 2) 14<|M 7 22<|o 8 .mov [t 23] [8,23]<|o 9 .mov [t 24] [8,24]<|.nil) [0,1,3,7,0,16,63,127,255,255,255,511,3071,8191])<|R (M 25 9<|B 26 .eql 25 0<|.nil)<|.condJ [2,4,6] (t 26) (.reg<|o 27 .loadS [t 2] []<|O 28 .nilc 27<|A 29 0 28<|A 30 2 29<|L 31 30<|M 32 7<|U 33 (.iad 6) [31,32]<|A 34 3 33<|A 35 1 34<|L 36 35<|.sto (.store 1) [t 6,t 36] [36]<|.nil) (.skip))<|.seq (R (L 37 2<|O 38 .nilc 37<|A 39 0 38<|A 40 1 39<|L 41 40<|.nil)<|.condJ [4,6] (t 41) (.reg<|o 42 .loadS [t 6] []<|O 43 (.un .neg) 42<|.sto (.store 1) [t 6,t 43] [43]<|.nil) (.skip))<|R (O 44 (.mkfn (.func 124) 0) 6<|U 10 (.alloc 191 [.nilFunc]) []<|.sto (.store 1) [t 10,t 44] [44]<|.nil)<|R (a 45 5 4<|L 46 45<|o 47 (.mkfn (.func 127) 0) [t 10] []<|U 48 (.callF 126) [46,47]<|M 49 48<|x 54 49 false (A 50 6 4<|L 51 50<|O 52 (.mkfn (.func 129) 0) 10<|U 53 (.callF 128) [51,52]<|.nil) (t 53) [4,10,49]<|M 5 54<|.nil)<|.ret,true⟩
def p123:PFn:=⟨32,[.tmp 4,.tmp 5,.tmp 6],R (O 2 (.box 31 6) 0<|o 4 .mov [c 0] [4]<|o 5 .mov [c 0] [4,5]<|o 6 .mov [c 0] [5,6]<|.nil)<|.seq (R (o 9 .mov [t 1] [6]<|B 10 .lss 9 0<|.nil)<|.cond (t 10) (R (o 4 .mov [c 0] []<|o 5 .mov [c 0] []<|o 6 .mov [c 2] []<|.nil)<|.ret) (.skip))<|.seq (R (A 11 2 2<|L 12 11<|o 13 (.len 0) [t 12] []<|o 14 .mov [c 0] []<|.nil)<|.block 0 (.loop [1,12,13,14] [4,5,6] (R (b 15 .lss [t 14,t 13] []<|.nil)<|.seq (.cond (t 15) (.skip) (.exit 0))<|.seq (.block 1 (R (m 16 14<|o 17 (.iad 6) [t 12,t 14] []<|O 18 (.loadA 6) 17<|U 8 (.alloc 53 z1) []<|M 7 16<|.sto (.store 6) [t 8,t 18] [18]<|.nil)<|.seq (R (m 19 1<|a 20 5 8<|L 21 20<|O 22 (.len 0) 21<|C 23 .lss 19 22<|.nil)<|.cond (t 23) (R (M 24 7<|M 25 1<|M 4 24<|M 5 25<|o 6 .mov [c 0] []<|.nil)<|.ret) (.skip))<|.reg<|M 26 1<|A 27 5 8<|L 28 27<|O 29 (.len 0) 28<|C 30 .sub 26 29<|M 1 30<|.nil))<|.reg<|B 31 .add 14 1<|M 14 31<|.nil)))<|R (o 4 .mov [c 0] []<|o 5 .mov [c 0] []<|o 6 .mov [c 2] []<|.nil)<|.ret,true⟩
def p124:PFn:=⟨16,[.tmp 3],R (O 2 (.box 172 3) 0<|o 3 .mov [cf] [3]<|.nil)<|R (o 7 (.loadA 3) [t 2] [2,3]<|O 8 (.callF 125) 7<|M 6 8<|e 9 0 6 []<|O 10 (.ext 1) 6<|M 4 9<|o 5 .mov [t 10] [5,10]<|.nil)<|R (o 11 .mov [t 4] [4,5]<|L 12 1<|C 13 .add 11 12<|f 14 105 [t 13,c 0,c 127] [13]<|O 15 (.un .not) 14<|M 3 15<|.nil)<|.ret,true⟩
def p125:PFn:=⟨12,[.tmp 2,.tmp 3],R (O 1 (.box 172 3) 0<|o 2 .mov [c 0] [2]<|o 3 .mov [c 0] [2,3]<|.nil)<|.seq (R (o 5 (.loadA 3) [t 1] [3]<|O 6 (.callF 193) 5<|M 4 6<|.nil)<|R (m 7 4<|B 8 .neq 7 0<|.nil)<|.cond (t 8) (R (M 9 4<|o 2 .mov [c 0] []<|M 3 9<|.nil)<|.ret) (.skip))<|R (O 10 (.loadA 3) 1<|O 11 (.callF 194) 10<|M 2 11<|o 3 .mov [c 0] []<|.nil)<|.ret,true⟩
def p126:PFn:=⟨9,[.tmp 4],R (o 4 .mov [cf] [4]<|.nil)<|R (o 5 .mov [t 0] [0,4]<|M 6 1<|U 7 (.callF 195) [5,6]<|B 8 .geq 7 0<|M 4 8<|.nil)<|.ret,true⟩
def p127:PFn:=⟨8,[.tmp 3],R (O 2 (.box 194 5) 0<|o 3 .mov [cf] [3]<|.nil)<|R (o 4 .loadS [t 1] [1,3]<|A 5 0 2<|O 6 (.loadA 3) 5<|U 7 .callV [4,6]<|M 3 7<|.nil)<|.ret,true⟩
def p128:PFn:=⟨9,[.tmp 4],R (o 4 .mov [cf] [4]<|.nil)<|R (o 5 .mov [t 0] [0,4]<|M 6 1<|U 7 (.callF 196) [5,6]<|B 8 .geq 7 0<|M 4 8<|.nil)<|.ret,true⟩
def p129:PFn:=⟨8,[.tmp 3],R (O 2 (.box 198 5) 0<|o 3 .mov [cf] [3]<|.nil)<|R (o 4 .loadS [t 1] [1,3]<|A 5 0 2<|O 6 (.loadA 3) 5<|U 7 .callV [4,6]<|M 3 7<|.nil)<|.ret,true⟩
def p130:PFn:=⟨39,[.tmp 5],R (O 3 (.box 102 7) 0<|O 4 (.box 121 13) 1<|o 5 .mov [cf] [5]<|.nil)<|.seq (R (o 10 (.loadA 13) [t 4] [5]<|O 11 (.callF 131) 10<|O 12 (.un .not) 11<|.nil)<|.cond (t 12) (R (o 5 .mov [cf] []<|.nil)<|.ret) (.skip))<|.seq (.regD 3 (o 14 .loadS [t 2] []<|O 15 .nilc 14<|A 16 0 15<|O 17 (.loadA 6) 16<|O 18 (.loadA 7) 3<|U 19 (.callF 132) [17,18]<|M 13 19<|e 20 0 13 []<|O 21 (.ext 1) 13<|U 6 (.alloc 102 z4) []<|.sto (.store 7) [t 6,t 20] [20]<|M 7 21<|.nil) [0,1,3,7,0,31,63,127,127,0,767,2047])<|.seq (.regD 3 (L 23 2<|O 24 .nilc 23<|A 25 0 24<|O 26 (.loadA 6) 25<|O 27 (.loadA 7) 6<|U 28 (.callF 133) [26,27]<|M 22 28<|e 29 0 22 []<|O 30 (.ext 1) 22<|U 8 (.alloc 121 z11) []<|.sto (.store 13) [t 8,t 29] [29]<|o 9 .mov [t 30] [9,30]<|.nil) [0,1,3,7,0,31,63,127,127,0,767,2047])<|R (o 31 .mov [t 7] [7,9]<|O 32 (.un .not) 31<|M 33 32<|x 38 33 false (O 34 (.loadA 13) 4<|O 35 (.loadA 13) 8<|U 36 (.callF 134) [34,35]<|O 37 (.un .not) 36<|.nil) (t 37) [4,8,33]<|M 5 38<|.nil)<|.ret,true⟩
def p131:PFn:=⟨11,[.tmp 2],R (O 1 (.box 121 13) 0<|o 2 .mov [cf] [2]<|.nil)<|R (o 3 (.fad 2) [t 1] [2]<|L 4 3<|B 5 .eql 4 1<|M 6 5<|x 10 6 true (A 7 5 1<|L 8 7<|f 9 126 [t 8,.c (.fn 197 [] [])] [8]<|.nil) (t 9) [1,6]<|M 2 10<|.nil)<|.ret,true⟩
def p132:PFn:=⟨54,[.cellA 4 7,.tmp 5],R (O 2 (.box 31 6) 0<|O 3 (.box 102 7) 1<|U 4 (.alloc 102 z4) []<|o 5 .mov [cf] [5]<|.nil)<|.seq (R (o 6 (.loadA 6) [t 2] [5]<|o 7 (.loadA 7) [t 3] []<|U 8 (.callF 198) [6,7]<|B 9 .neq 8 0<|.nil)<|.cond (t 9) (R (U 10 (.build z4 []) []<|.sto (.store 7) [t 4,t 10] [10]<|o 5 .mov [cf] []<|.nil)<|.ret) (.skip))<|.seq (.seq (.regD 3 (a 11 5 3<|L 12 11<|B 13 .add 12 1<|o 14 (.loadA 6) [t 2] []<|a 15 3 3<|L 16 15<|a 17 2 3<|L 18 17<|a 19 4 3<|L 20 19<|U 21 (.callF 199) [14,16,18,20]<|O 22 (.len 0) 21<|C 23 .lss 13 22<|.nil) [0,1,3,0,0,16,0,64,0,256,1016,2040,4095])<|.cond (t 23) (R (a 24 3 3<|L 25 24<|a 26 2 3<|L 27 26<|a 28 4 3<|L 29 28<|A 30 5 3<|L 31 30<|B 32 .add 31 1<|U 33 (.callF 200) [25,27,29,32]<|.sto (.store 7) [t 4,t 33] [33]<|o 5 .mov [ct] []<|.nil)<|.ret) (.skip))<|.seq (R (O 34 (.loadA 6) 2<|a 35 3 3<|L 36 35<|B 37 .add 36 1<|a 38 2 3<|L 39 38<|a 40 4 3<|L 41 40<|U 42 (.callF 199) [34,37,39,41]<|O 43 (.len 0) 42<|B 44 .gtr 43 0<|.nil)<|.cond (t 44) (R (a 45 3 3<|L 46 45<|B 47 .add 46 1<|a 48 2 3<|L 49 48<|A 50 4 3<|L 51 50<|f 52 200 [t 47,t 49,t 51,c 0] [47,49,51]<|.sto (.store 7) [t 4,t 52] [52]<|o 5 .mov [ct] []<|.nil)<|.ret) (.skip))<|R (U 53 (.build z4 []) []<|.sto (.store 7) [t 4,t 53] [53]<|o 5 .mov [cf] []<|.nil)<|.ret,true⟩
def p133:PFn:=⟨27,[.cellA 4 13,.tmp 5],R (O 2 (.box 31 6) 0<|O 3 (.box 102 7) 1<|U 4 (.alloc 121 z11) []<|o 5 .mov [c 0] [5]<|.nil)<|.seq (R (o 7 (.loadA 6) [t 2] [5]<|o 8 (.loadA 7) [t 3] []<|U 9 (.callF 198) [7,8]<|M 6 9<|.nil)<|R (m 10 6<|B 11 .neq 10 0<|.nil)<|.cond (t 11) (R (U 12 (.build z11 []) []<|M 13 6<|.sto (.store 13) [t 4,t 12] [12]<|.laxc 4 5 5<|.laxc 4 6 5<|.laxc 4 10 2<|M 5 13<|.nil)<|.ret) (.skip))<|.seq (.regD 3 (O 14 (.loadA 6) 2<|a 15 3 3<|L 16 15<|a 17 2 3<|L 18 17<|a 19 4 3<|L 20 19<|U 21 (.callF 199) [14,16,18,20]<|A 22 5 3<|L 23 22<|U 24 (.iad 13) [21,23]<|O 25 (.loadA 13) 24<|O 26 (.callF 73) 25<|.sto (.store 13) [t 4,t 26] [26]<|o 5 .mov [c 0] []<|.nil) [0,0,2,0,8,0,32,127,0,256,1023,2047,4095,8191,16383])<|.ret,true⟩
def p134:PFn:=⟨32,[.tmp 4],R (O 2 (.box 121 13) 0<|O 3 (.box 121 13) 1<|o 4 .mov [cf] [4]<|.nil)<|.seq (R (o 7 (.fad 2) [t 2] [4]<|L 8 7<|B 9 .neq 8 1<|.nil)<|.cond (t 9) (R (o 4 .mov [ct] []<|.nil)<|.ret) (.skip))<|.seq (R (A 10 5 2<|L 11 10<|o 12 (.len 0) [t 11] []<|o 13 .mov [c 0] []<|.nil)<|.block 0 (.loop [3,11,12,13] [4] (R (b 14 .lss [t 13,t 12] []<|.nil)<|.seq (.cond (t 14) (.skip) (.exit 0))<|.seq (.block 1 (R (o 15 (.iad 5) [t 11,t 13] []<|O 16 (.loadA 5) 15<|U 6 (.alloc 194 z14) []<|.sto (.store 5) [t 6,t 16] [16]<|.nil)<|R (a 17 3 6<|L 18 17<|M 19 18<|x 30 19 true (a 20 2 3<|L 21 20<|B 22 .eql 21 1<|M 23 22<|x 28 23 true (a 24 5 3<|L 25 24<|O 26 (.mkfn (.func 201) 0) 6<|U 27 (.callF 126) [25,26]<|.nil) (t 27) [6,23]<|O 29 (.un .not) 28<|.nil) (t 29) [6,19]<|.nil)<|.cond (t 30) (R (o 4 .mov [cf] []<|.nil)<|.ret) (.skip)))<|.reg<|B 31 .add 13 1<|M 13 31<|.nil)))<|R (o 4 .mov [ct] []<|.nil)<|.ret,true⟩
def p135:PFn:=⟨108,[],R (U 10 (.alloc 233 [ZS,(J 0)]) []<|.nil)<|R (U 11 (.alloc 102 z4) []<|.nil)<|.seq (R (M 18 0<|O 19 .nilc 18<|A 20 0 19<|A 21 3 20<|L 22 21<|o 23 (.len 0) [t 22] []<|o 24 .mov [c 0] []<|.nil)<|.block 0 (.loop [1,2,3,4,10,11,22,23,24] [4,10,11] (R (b 25 .lss [t 24,t 23] []<|.nil)<|.seq (.cond (t 25) (.skip) (.exit 0))<|.seq (.block 1 (R (m 26 24<|o 27 (.iad 22) [t 22,t 24] []<|O 28 (.loadA 22) 27<|U 13 (.alloc 60 z3) []<|M 12 26<|.sto (.store 22) [t 13,t 28] [28]<|.nil)<|.seq (R (m 29 1<|a 30 21 13<|L 31 30<|O 32 (.len 0) 31<|C 33 .geq 29 32<|M 34 33<|x 44 34 false (m 35 2<|a 36 21 13<|L 37 36<|m 38 1<|U 39 (.iad 2) [37,38]<|A 40 1 39<|L 41 40<|O 42 (.len 0) 41<|C 43 .geq 35 42<|.nil) (t 43) [34]<|.nil)<|.cond (t 44) (.exit 1) (.skip))<|R (A 45 21 13<|L 46 45<|m 47 1<|U 48 (.iad 2) [46,47]<|A 49 1 48<|L 50 49<|m 51 2<|U 52 (.iad 2) [50,51]<|A 53 0 52<|L 54 53<|o 55 (.len 0) [t 54] []<|o 56 .mov [c 0] []<|.nil)<|.block 2 (.loop [1,2,3,4,10,11,12,22,23,24,54,55,56] [1,2,3,4,10,11,22,23,24] (R (b 57 .lss [t 56,t 55] []<|.nil)<|.seq (.cond (t 57) (.skip) (.exit 2))<|.seq (.block 3 (R (m 58 56<|o 59 (.iad 13) [t 54,t 56] []<|O 60 (.loadA 13) 59<|U 15 (.alloc 121 z11) []<|M 14 58<|.sto (.store 13) [t 15,t 60] [60]<|.nil)<|.seq (R (o 61 (.loadA 13) [t 15] []<|m 62 3<|U 63 (.callF 202) [61,62]<|.nil)<|.cond (t 63) (.exit 3) (.skip))<|.seq (.regX 3 (m 64 1<|m 65 12<|m 66 2<|M 67 14<|o 68 (.build z4 [(0,1),(2,1),(3,1),(4,1),(5,1)]) [c 4,t 64,t 65,t 66,t 67] [64,65,66,67]<|A 69 10 15<|o 70 .loadS [t 69] []<|m 71 3<|U 72 (.iad 2) [70,71]<|o 73 (.loadA 2) [t 72] []<|U 16 (.alloc 102 z4) []<|U 17 (.alloc 233 [ZS,(J 0)]) []<|.sto (.store 7) [t 16,t 68] [68]<|.sto (.store 2) [t 17,t 73] [73]<|.nil) [0,0,0,0,15,0,32,0,224,480,0,0,3103,8191] [(6,12,69,16),(9,12,72,16)])<|.seq (R (a 74 1 10<|L 75 74<|B 76 .eql 75 1<|M 77 76<|x 81 77 true (a 78 0 17<|L 79 78<|b 80 .eql [t 79,.c (.v (.string ⟨#[]⟩))] [79]<|.nil) (t 80) [77]<|.nil)<|.condJ [1,2,3,4,10,11,12,16,17,22,23,24,54,55,56] (t 81) (.reg<|m 82 4<|o 83 (.loadA 7) [t 11] []<|.sto (.mapup true [.i,.i,.i,.i,.i,.i,.i]) [t 82,t 83,ct] [82,83]<|.nil) (.skip))<|.seq (R (a 84 0 17<|L 85 84<|b 86 .eql [t 85,.c (.v (.string ⟨#[]⟩))] [85]<|M 87 86<|x 91 87 true (a 88 1 17<|L 89 88<|B 90 .eql 89 2<|.nil) (t 90) [87]<|M 92 91<|x 96 92 true (a 93 1 10<|L 94 93<|B 95 .neq 94 2<|.nil) (t 95) [92]<|.nil)<|.condJ [1,2,3,4,10,11,12,16,17,22,23,24,54,55,56] (t 96) (.reg<|m 97 4<|o 98 (.loadA 7) [t 16] []<|.sto (.mapup true [.i,.i,.i,.i,.i,.i,.i]) [t 97,t 98,ct] [97,98]<|.nil) (.skip))<|.regX 3 (O 99 (.loadA 2) 17<|o 100 (.loadA 7) [t 16] []<|.sto (.store 2) [t 10,t 99] [99]<|.sto (.store 7) [t 11,t 100] [100]<|.nil) [0,0,1,7] [(1,2,16,10)]))<|.reg<|B 101 .add 56 1<|M 56 101<|.nil))))<|.reg<|B 102 .add 24 1<|M 24 102<|.nil)))<|R (A 103 1 10<|L 104 103<|B 105 .eql 104 1<|.nil)<|.condJ [] (t 105) (.reg<|M 106 4<|O 107 (.loadA 7) 11<|.sto (.mapup true [.i,.i,.i,.i,.i,.i,.i]) [t 106,t 107,ct] [106,107]<|.nil) (.skip),true⟩
def p136:PFn:=⟨9,[.tmp 5],R (O 3 (.box 102 7) 0<|o 4 (.box 121 13) [t 1] [1,4]<|o 5 .mov [cf] [4,5]<|.nil)<|R (o 6 .loadS [t 2] [2,5]<|O 7 (.loadA 7) 3<|U 8 (.lookup true [.i,.i,.i,.i,.i,.i,.i] (.v (.bool false)) false) [6,7]<|M 5 8<|.nil)<|.ret,true⟩
def p137:PFn:=⟨63,[.tmp 2,.tmp 3],R (o 2 .mov [cn] [2]<|o 3 .mov [cn] [2,3]<|.nil)<|R (o 4 .mov [cn] [3]<|.own 4 215 9 false<|.nil)<|R (o 5 .mov [cn] []<|.own 5 4 1 false<|.nil)<|.seq (R (m 13 0<|O 14 .nilc 13<|A 15 0 14<|A 16 4 15<|L 17 16<|o 18 (.len 0) [t 17] []<|o 19 .mov [c 0] []<|.nil)<|.block 0 (.loop [0,4,5,17,18,19] [4,5] (R (b 20 .lss [t 19,t 18] []<|.nil)<|.seq (.cond (t 20) (.skip) (.exit 0))<|.seq (.block 1 (R (o 21 (.iad 7) [t 17,t 19] []<|O 22 (.loadA 7) 21<|U 7 (.alloc 100 z4) []<|.sto (.store 7) [t 7,t 22] [22]<|.nil)<|R (m 24 0<|a 25 3 7<|O 26 (.loadA 2) 25<|U 27 (.callF 203) [24,26]<|M 23 27<|e 28 0 23 []<|O 29 (.ext 1) 23<|U 8 (.alloc 213 z12) []<|.sto (.store 4) [t 8,t 28] [28]<|M 9 29<|.nil)<|R (m 31 0<|a 32 5 7<|O 33 (.loadA 2) 32<|U 34 (.callF 203) [31,33]<|M 30 34<|e 35 0 30 []<|O 36 (.ext 1) 30<|U 10 (.alloc 213 z12) []<|.sto (.store 4) [t 10,t 35] [35]<|M 11 36<|.nil)<|R (A 37 2 7<|L 38 37<|O 39 (.loadA 4) 8<|O 40 (.loadA 4) 10<|U 41 (.build z15 [(0,1),(1,4),(5,4)]) [38,39,40]<|U 12 (.alloc 215 z15) []<|.sto (.store 9) [t 12,t 41] [41]<|.nil)<|.reg<|M 42 4<|o 43 (.loadA 9) [t 12] []<|O 44 (.buildSl 215 9 1 z15 [0]) 43<|U 45 (.append 215 9 72 z15 false) [42,44]<|M 46 5<|M 47 9<|O 48 (.un .not) 47<|M 49 48<|x 52 49 false (M 50 11<|O 51 (.un .not) 50<|.nil) (t 51) [11,49]<|M 53 52<|x 57 53 false (O 54 (.loadA 9) 12<|O 55 (.callF 204) 54<|B 56 .neq 55 0<|.nil) (t 56) [12,53]<|O 58 (.buildSl 4 1 1 [ZB] [0]) 57<|U 59 (.append 4 1 1 [ZB] false) [46,58]<|M 4 45<|M 5 59<|.nil))<|.reg<|B 60 .add 19 1<|M 19 60<|.nil)))<|R (M 61 4<|M 62 5<|M 2 61<|M 3 62<|.nil)<|.ret,true⟩
def p138:PFn:=⟨27,[.tmp 4],R (O 2 (.box 215 9) 0<|O 3 (.box 215 9) 1<|o 4 .mov [cf] [4]<|.nil)<|.seq (R (o 8 (.loadA 9) [t 2] [4]<|o 9 (.loadA 9) [t 3] []<|U 10 (.callF 205) [8,9]<|O 11 (.un .not) 10<|.nil)<|.cond (t 11) (R (o 4 .mov [cf] []<|.nil)<|.ret) (.skip))<|R (o 5 .mov [.c (.fn 206 [] [])] []<|.nil)<|R (o 6 .mov [.c (.fn 208 [] [])] []<|.nil)<|R (m 12 5<|m 13 5<|m 14 6<|m 15 6<|M 16 5<|M 17 6<|o 18 (.build z16 [(0,1),(1,1),(2,1),(3,1),(4,1),(5,1),(6,1)]) [.c (.fn 210 [] []),t 12,t 13,t 14,t 15,t 16,t 17] [12,13,14,15,16,17]<|U 7 (.alloc 276 z16) []<|.sto (.store 7) [t 7,t 18] [18]<|.nil)<|.seq (.regD 3 (a 19 0 2<|L 20 19<|B 21 .sub 20 1<|U 22 (.iadA 7 1) [7,21]<|L 23 22<|O 24 (.loadA 9) 2<|O 25 (.loadA 9) 3<|U 26 .callV [23,24,25]<|M 4 26<|.nil) [0,1,3,7,15,0,0,127,255])<|.ret,true⟩
def p139:PFn:=⟨20,[.tmp 4],R (O 3 (.box 60 22) 1<|o 4 .mov [cf] [4]<|.nil)<|R (o 5 (.fad 13) [t 3] [4]<|L 6 5<|B 7 .neq 6 0<|M 8 7<|x 13 8 true (a 9 13 3<|L 10 9<|f 11 105 [t 10,c 2,c 8] [10]<|O 12 (.un .not) 11<|.nil) (t 12) [8]<|M 14 13<|x 19 14 false (A 15 14 3<|L 16 15<|f 17 105 [t 16,c 0,c 255] [16]<|O 18 (.un .not) 17<|.nil) (t 18) [3,14]<|M 4 19<|.nil)<|.ret,true⟩
def p140:PFn:=⟨37,[.cellA 4 6,.tmp 5],R (O 2 (.box 217 6) 0<|O 3 (.box 60 22) 1<|U 4 (.alloc 217 z10) []<|o 5 .mov [cf] [5]<|.nil)<|.seq (R (o 6 (.fad 14) [t 3] [5]<|L 7 6<|B 8 .neq 7 0<|.nil)<|.cond (t 8) (R (O 9 (.loadA 6) 2<|O 10 (.loadA 22) 3<|U 11 (.callF 211) [9,10]<|e 12 0 11 []<|O 13 (.ext 1) 11<|.sto (.store 6) [t 4,t 12] [12]<|M 5 13<|.nil)<|.ret) (.skip))<|.seq (R (a 14 3 2<|L 15 14<|B 16 .neq 15 0<|.nil)<|.cond (t 16) (.seq (R (o 17 (.loadA 6) [t 2] []<|O 18 (.callF 141) 17<|O 19 (.un .not) 18<|.nil)<|.cond (t 19) (R (O 20 (.loadA 6) 2<|.sto (.store 6) [t 4,t 20] [20]<|o 5 .mov [cf] []<|.nil)<|.ret) (.skip))<|.reg<|U 21 (.build z10 []) []<|.sto (.store 6) [t 2,t 21] [21]<|.nil) (.skip))<|.seq (R (a 22 12 3<|L 23 22<|.nil)<|.cond (t 23) (.seq (R (a 24 0 2<|L 25 24<|.nil)<|.cond (t 25) (R (O 26 (.loadA 6) 2<|.sto (.store 6) [t 4,t 26] [26]<|o 5 .mov [cf] []<|.nil)<|.ret) (.skip))<|.reg<|o 27 (.build z10 [(0,1)]) [ct] []<|.sto (.store 6) [t 2,t 27] [27]<|.nil) (.skip))<|R (a 28 1 2<|L 29 28<|B 30 .add 29 1<|a 31 1 2<|.sto (.store 1) [t 31,t 30] [30,31]<|.nil)<|.seq (R (A 32 13 3<|L 33 32<|B 34 .neq 33 0<|.nil)<|.condJ [2,4] (t 34) (.reg<|U 35 (.build z10 []) []<|.sto (.store 6) [t 2,t 35] [35]<|.nil) (.skip))<|R (O 36 (.loadA 6) 2<|.sto (.store 6) [t 4,t 36] [36]<|o 5 .mov [ct] []<|.nil)<|.ret,true⟩
def p141:PFn:=⟨15,[.tmp 2],R (O 1 (.box 217 6) 0<|o 2 .mov [cf] [2]<|.nil)<|.seq (.regD 3 (o 3 (.fad 5) [t 1] [2]<|L 4 3<|B 5 .gtr 4 0<|M 6 5<|x 14 6 true (a 7 3 1<|L 8 7<|A 9 5 1<|L 10 9<|B 11 .sub 10 1<|b 12 .shl [c 1,t 11] [11]<|C 13 .eql 8 12<|.nil) (t 13) [1,6]<|M 2 14<|.nil) [0,1,3,7,15,31,15,79,207,463,1023,2047,4095])<|.ret,true⟩
def p142:PFn:=⟨55,[.tmp 5],R (O 4 (.box 60 22) 1<|o 5 .mov [cf] [5]<|.nil)<|.seq (R (o 7 (.fad 15) [t 4] [5]<|L 8 7<|f 9 105 [t 8,c 0,c 6] [8]<|O 10 (.un .not) 9<|M 11 10<|x 16 11 false (a 12 16 4<|L 13 12<|f 14 105 [t 13,c 0,c 15] [13]<|O 15 (.un .not) 14<|.nil) (t 15) [11]<|M 17 16<|x 36 17 false (a 18 15 4<|L 19 18<|B 20 .neq 19 0<|M 21 20<|x 25 21 false (a 22 16 4<|L 23 22<|B 24 .neq 23 0<|.nil) (t 24) [21]<|M 26 25<|x 35 26 true (a 27 13 4<|L 28 27<|B 29 .neq 28 0<|M 30 29<|x 34 30 false (a 31 14 4<|L 32 31<|B 33 .neq 32 0<|.nil) (t 33) [30]<|.nil) (t 34) [26]<|.nil) (t 35) [17]<|.nil)<|.cond (t 36) (R (o 5 .mov [ct] []<|.nil)<|.ret) (.skip))<|R (o 37 (.mkfn (.func 143) 0) [t 4] []<|M 6 37<|.nil)<|R (o 38 .loadS [t 2] []<|O 39 .nilc 38<|A 40 0 39<|A 41 3 40<|L 42 41<|m 43 0<|U 44 (.slc 22 false true false) [42,43]<|M 45 6<|U 46 (.callF 144) [44,45]<|M 47 46<|x 54 47 false (L 48 2<|A 49 15 4<|L 50 49<|M 51 0<|U 52 (.callF 145) [48,50,51]<|O 53 (.un .not) 52<|.nil) (t 53) [0,2,4,47]<|M 5 54<|.nil)<|.ret,true⟩
def p143:PFn:=⟨20,[.tmp 3],R (O 2 (.box 60 22) 0<|o 3 .mov [cf] [3]<|.nil)<|R (o 4 (.fad 15) [t 1] [3]<|L 5 4<|B 6 .neq 5 0<|M 7 6<|x 11 7 true (a 8 15 2<|L 9 8<|B 10 .neq 9 0<|.nil) (t 10) [7]<|M 12 11<|x 19 12 false (A 13 16 1<|L 14 13<|A 15 16 2<|L 16 15<|C 17 .and 14 16<|B 18 .neq 17 0<|.nil) (t 18) [1,2,12]<|M 3 19<|.nil)<|.ret,true⟩
def p144:PFn:=⟨9,[.tmp 4],R (o 4 .mov [cf] [4]<|.nil)<|R (o 5 .mov [t 0] [0,4]<|M 6 1<|U 7 (.callF 212) [5,6]<|B 8 .geq 7 0<|M 4 8<|.nil)<|.ret,true⟩
def p145:PFn:=⟨34,[.tmp 6],R (O 3 (.box 124 1) 0<|O 5 (.box 3 1) 2<|o 6 .mov [cf] [6]<|.nil)<|R (o 8 (.mkfn (.func 213) 0) [t 3,t 5] [5,6]<|M 7 8<|.nil)<|.seq (R (m 9 1<|B 10 .geq 9 4<|M 11 10<|x 15 11 true (m 12 7<|o 13 .callV [t 12,c 1] [12]<|O 14 (.un .not) 13<|.nil) (t 14) [11]<|.nil)<|.cond (t 15) (R (o 6 .mov [cf] []<|.nil)<|.ret) (.skip))<|.seq (R (M 16 1<|.nil)<|.block 0 (.seq (R (b 18 .eql [t 16,c 2] []<|M 17 18<|.nil)<|.condJ [3,7,16,17] (t 17) (.skip) (.reg<|b 19 .eql [t 16,c 5] []<|M 17 19<|.nil))<|.cond (t 17) (R (M 20 7<|o 21 .callV [t 20,c 4] [20]<|M 6 21<|.nil)<|.ret) (.seq (R (b 23 .eql [t 16,c 3] []<|M 22 23<|.nil)<|.condJ [3,7,22] (t 22) (.skip) (.reg<|B 24 .eql 16 6<|M 22 24<|.nil))<|.cond (t 22) (.seq (.regD 3 (M 25 7<|o 26 .callV [t 25,c 8] [25]<|M 27 26<|x 33 27 true (o 28 .loadS [t 3] []<|f 29 214 [t 28,c 2] [28]<|L 30 3<|f 31 214 [t 30,c 8] [30]<|C 32 .gtr 29 31<|.nil) (t 32) [3,27]<|M 6 33<|.nil) [0,1,3,7,15,7,63,127,255,511])<|.ret) (.skip))))<|R (o 6 .mov [ct] []<|.nil)<|.ret,true⟩
def p146:PFn:=⟨71,[.tmp 4],R (O 3 (.box 60 22) 1<|o 4 .mov [cf] [4]<|.nil)<|R (o 11 (.loadA 22) [t 3] [4]<|O 12 (.callF 113) 11<|M 10 12<|e 13 0 10 []<|O 14 (.ext 1) 10<|M 5 13<|o 6 .mov [t 14] [6,14]<|.nil)<|R (o 15 (.fad 17) [t 3] [6]<|L 16 15<|B 17 .neq 16 0<|M 18 17<|x 23 18 true (a 19 17 3<|L 20 19<|f 21 105 [t 20,c 50,c 75] [20]<|O 22 (.un .not) 21<|.nil) (t 22) [18]<|M 24 23<|x 29 24 false (a 25 18 3<|L 26 25<|f 27 105 [t 26,c 0,c 3] [26]<|O 28 (.un .not) 27<|.nil) (t 28) [24]<|M 7 29<|.nil)<|.seq (R (a 30 20 3<|L 31 30<|o 32 (.len 0) [t 31] []<|o 33 .mov [c 0] []<|.nil)<|.block 0 (.loop [3,5,7,31,32,33] [7] (R (b 34 .lss [t 33,t 32] []<|.nil)<|.seq (.cond (t 34) (.skip) (.exit 0))<|.seq (.block 1 (R (m 35 33<|o 36 (.iad 3) [t 31,t 33] []<|O 37 (.loadA 3) 36<|U 9 (.alloc 167 z8) []<|M 8 35<|.sto (.store 3) [t 9,t 37] [37]<|.nil)<|.regD 3 (M 38 7<|M 39 38<|x 46 39 false (a 40 0 9<|L 41 40<|m 42 5<|B 43 .sub 42 1<|f 44 105 [t 41,c 0,t 43] [41,43]<|O 45 (.un .not) 44<|.nil) (t 45) [39]<|M 47 46<|x 52 47 false (a 48 1 9<|L 49 48<|f 50 105 [t 49,c 1,c 60000000] [49]<|O 51 (.un .not) 50<|.nil) (t 51) [47]<|M 53 52<|x 68 53 false (m 54 8<|B 55 .gtr 54 0<|M 56 55<|x 67 56 true (A 57 0 9<|L 58 57<|a 59 20 3<|L 60 59<|M 61 8<|B 62 .sub 61 1<|U 63 (.iad 3) [60,62]<|A 64 0 63<|L 65 64<|C 66 .leq 58 65<|.nil) (t 66) [8,9,56]<|.nil) (t 67) [8,9,53]<|M 7 68<|.nil) [0,1,3,7,3,19,63,127,255,511,1023,2047,4095,8191,16383,32767,65535,131071,262143,524287,1048575,524287,2621439,524287,8912895,31981567,65535999,132644863,268435455,536870911,1073741823,2147483647]))<|.reg<|B 69 .add 33 1<|M 33 69<|.nil)))<|R (M 70 7<|M 4 70<|.nil)<|.ret,true⟩
def p147:PFn:=⟨82,[.tmp 5],R (O 3 (.box 102 7) 0<|O 4 (.box 121 13) 1<|o 5 .mov [cf] [5]<|.nil)<|.seq (.regD 3 (o 11 .loadS [t 2] [5]<|O 12 .nilc 11<|A 13 0 12<|O 14 (.loadA 6) 13<|o 15 (.loadA 7) [t 3] []<|U 16 (.callF 132) [14,15]<|M 10 16<|e 17 0 10 []<|O 18 (.ext 1) 10<|U 6 (.alloc 102 z4) []<|.sto (.store 7) [t 6,t 17] [17]<|M 7 18<|.nil) [0,1,3,7,0,31,63,127,127,0,767,2047])<|.seq (R (M 19 7<|O 20 (.un .not) 19<|M 21 20<|x 25 21 false (O 22 (.loadA 13) 4<|O 23 (.callF 131) 22<|O 24 (.un .not) 23<|.nil) (t 24) [4,21]<|M 26 25<|x 32 26 false (a 27 3 6<|L 28 27<|a 29 3 3<|L 30 29<|C 31 .eql 28 30<|.nil) (t 31) [26]<|.nil)<|.cond (t 32) (R (o 5 .mov [cf] []<|.nil)<|.ret) (.skip))<|.seq (.regX 3 (o 33 .loadS [t 2] []<|O 34 .nilc 33<|A 35 0 34<|A 36 3 35<|L 37 36<|A 38 3 3<|L 39 38<|U 40 (.iad 22) [37,39]<|O 41 (.loadA 22) 40<|o 42 .loadS [t 2] []<|O 43 .nilc 42<|A 44 0 43<|A 45 3 44<|o 46 .loadS [t 45] []<|A 47 3 6<|o 48 .loadS [t 47] []<|U 49 (.iad 22) [46,48]<|o 50 (.loadA 22) [t 49] []<|U 8 (.alloc 60 z3) []<|U 9 (.alloc 60 z3) []<|.sto (.store 22) [t 8,t 41] [41]<|.sto (.store 22) [t 9,t 50] [50]<|.nil) [0,1,3,7,15,0,32,127,255,0,512,1536,3584,7680,0,16384,65024,130560,0,0,786943,2097151] [(9,20,2,8),(13,20,45,8),(15,20,47,8),(17,20,49,8)])<|R (a 51 13 8<|L 52 51<|B 53 .neq 52 0<|M 54 53<|x 58 54 false (a 55 15 8<|L 56 55<|B 57 .neq 56 0<|.nil) (t 57) [54]<|M 59 58<|x 64 59 false (a 60 16 8<|L 61 60<|B 62 .and 61 12<|B 63 .neq 62 0<|.nil) (t 63) [59]<|M 65 64<|x 71 65 false (A 66 14 8<|L 67 66<|a 68 14 9<|L 69 68<|C 70 .neq 67 69<|.nil) (t 70) [8,65]<|M 72 71<|x 75 72 false (a 73 12 9<|L 74 73<|.nil) (t 74) [72]<|M 76 75<|x 81 76 false (A 77 16 9<|L 78 77<|B 79 .and 78 3<|B 80 .neq 79 0<|.nil) (t 80) [9,76]<|M 5 81<|.nil)<|.ret,true⟩
def p151:PFn:=⟨73,[.tmp 4],R (O 2 (.box 121 13) 0<|O 3 (.box 121 13) 1<|o 4 .mov [cf] [4]<|.nil)<|R (o 5 (.fad 2) [t 2] [4]<|L 6 5<|a 7 2 3<|L 8 7<|C 9 .eql 6 8<|M 10 9<|x 16 10 true (a 11 3 2<|O 12 (.loadA 2) 11<|a 13 3 3<|O 14 (.loadA 2) 13<|U 15 (.eqA false [.i,.i]) [12,14]<|.nil) (t 15) [10]<|M 17 16<|x 23 17 true (a 18 7 2<|L 19 18<|a 20 7 3<|L 21 20<|C 22 .eql 19 21<|.nil) (t 22) [17]<|M 24 23<|x 30 24 true (a 25 8 2<|L 26 25<|a 27 8 3<|L 28 27<|C 29 .eql 26 28<|.nil) (t 29) [24]<|M 31 30<|x 37 31 true (a 32 9 2<|L 33 32<|a 34 9 3<|L 35 34<|C 36 .eql 33 35<|.nil) (t 36) [31]<|M 38 37<|x 44 38 true (a 39 11 2<|L 40 39<|a 41 11 3<|L 42 41<|C 43 .eql 40 42<|.nil) (t 43) [38]<|M 45 44<|x 51 45 true (a 46 12 2<|L 47 46<|a 48 12 3<|L 49 48<|C 50 .eql 47 49<|.nil) (t 50) [45]<|M 52 51<|x 58 52 true (a 53 5 2<|L 54 53<|a 55 5 3<|L 56 55<|U 57 (.callF 218) [54,56]<|.nil) (t 57) [52]<|M 59 58<|x 65 59 true (a 60 6 2<|L 61 60<|a 62 6 3<|L 63 62<|U 64 (.callF 219) [61,63]<|.nil) (t 64) [59]<|M 66 65<|x 72 66 true (A 67 10 2<|L 68 67<|A 69 10 3<|L 70 69<|U 71 (.callF 220) [68,70]<|.nil) (t 71) [2,3,66]<|M 4 72<|.nil)<|.ret,true⟩
def p159:PFn:=⟨183,[],R (o 3 .mov [c 0] []<|.nil)<|.seq (R (o 11 .loadS [t 1] []<|O 12 .nilc 11<|A 13 2 12<|L 14 13<|O 15 (.len 0) 14<|o 16 .mov [c 0] []<|.nil)<|.block 0 (.loop [0,1,3,15,16] [0,1] (R (b 17 .lss [t 16,t 15] []<|.nil)<|.seq (.cond (t 17) (.skip) (.exit 0))<|.seq (.block 1 (R (m 18 16<|M 4 18<|.nil)<|.seq (R (m 19 0<|m 20 4<|o 21 (.build z4 [(0,1),(1,1)]) [c 1,t 20] [20]<|o 22 .loadS [t 1] []<|O 23 .nilc 22<|A 24 2 23<|L 25 24<|m 26 4<|U 27 (.iad 6) [25,26]<|A 28 0 27<|U 29 .callV [19,21,28]<|O 30 (.un .not) 29<|.nil)<|.condL (t 30) (.ret) (.skip))<|R (o 31 .loadS [t 1] []<|O 32 .nilc 31<|A 33 2 32<|L 34 33<|m 35 4<|U 36 (.iad 6) [34,35]<|A 37 5 36<|L 38 37<|O 39 (.len 0) 38<|o 40 .mov [c 0] []<|.nil)<|.block 2 (.loop [0,1,3,4,15,16,39,40] [0,1,3,15,16] (R (b 41 .lss [t 40,t 39] []<|.nil)<|.seq (.cond (t 41) (.skip) (.exit 2))<|.seq (.block 3 (R (m 42 40<|M 5 42<|.nil)<|.seq (R (m 43 0<|m 44 3<|o 45 (.build z4 [(0,1),(2,1)]) [c 2,t 44] [44]<|o 46 .loadS [t 1] []<|O 47 .nilc 46<|A 48 2 47<|L 49 48<|m 50 4<|U 51 (.iad 6) [49,50]<|A 52 5 51<|L 53 52<|M 54 5<|U 55 (.iad 3) [53,54]<|A 56 0 55<|U 57 .callV [43,45,56]<|O 58 (.un .not) 57<|.nil)<|.condL (t 58) (.ret) (.skip))<|.reg<|M 59 3<|B 60 .add 59 1<|M 3 60<|.nil))<|.reg<|B 61 .add 40 1<|M 40 61<|.nil))))<|.reg<|B 62 .add 16 1<|M 16 62<|.nil)))<|.seq (R (o 63 .loadS [t 1] []<|O 64 .nilc 63<|A 65 3 64<|L 66 65<|O 67 (.len 0) 66<|o 68 .mov [c 0] []<|.nil)<|.block 4 (.loop [0,1,67,68] [0,1] (R (b 69 .lss [t 68,t 67] []<|.nil)<|.seq (.cond (t 69) (.skip) (.exit 4))<|.seq (.block 5 (R (m 70 68<|M 6 70<|.nil)<|.seq (R (m 71 0<|m 72 6<|o 73 (.build z4 [(0,1),(3,1)]) [c 3,t 72] [72]<|o 74 .loadS [t 1] []<|O 75 .nilc 74<|A 76 3 75<|L 77 76<|m 78 6<|U 79 (.iad 22) [77,78]<|A 80 0 79<|U 81 .callV [71,73,80]<|O 82 (.un .not) 81<|.nil)<|.condL (t 82) (.ret) (.skip))<|R (o 83 .loadS [t 1] []<|O 84 .nilc 83<|A 85 3 84<|L 86 85<|m 87 6<|U 88 (.iad 22) [86,87]<|A 89 21 88<|L 90 89<|O 91 (.len 0) 90<|o 92 .mov [c 0] []<|.nil)<|.block 6 (.loop [0,1,6,67,68,91,92] [0,1,67,68] (R (b 93 .lss [t 92,t 91] []<|.nil)<|.seq (.cond (t 93) (.skip) (.exit 6))<|.seq (.block 7 (R (m 94 92<|M 7 94<|.nil)<|R (o 95 .loadS [t 1] []<|O 96 .nilc 95<|A 97 3 96<|L 98 97<|m 99 6<|U 100 (.iad 22) [98,99]<|A 101 21 100<|L 102 101<|m 103 7<|U 104 (.iad 2) [102,103]<|A 105 1 104<|L 106 105<|O 107 (.len 0) 106<|o 108 .mov [c 0] []<|.nil)<|.block 8 (.loop [0,1,6,7,67,68,91,92,107,108] [0,1,6,67,68,91,92] (R (b 109 .lss [t 108,t 107] []<|.nil)<|.seq (.cond (t 109) (.skip) (.exit 8))<|.seq (.block 9 (R (m 110 108<|M 8 110<|.nil)<|R (o 111 .loadS [t 1] []<|O 112 .nilc 111<|A 113 3 112<|L 114 113<|m 115 6<|U 116 (.iad 22) [114,115]<|A 117 21 116<|L 118 117<|m 119 7<|U 120 (.iad 2) [118,119]<|A 121 1 120<|L 122 121<|m 123 8<|U 124 (.iad 2) [122,123]<|A 125 0 124<|L 126 125<|O 127 (.len 0) 126<|o 128 .mov [c 0] []<|.nil)<|.block 10 (.loop [0,1,6,7,8,67,68,91,92,107,108,127,128] [0,1,6,7,67,68,91,92,107,108] (R (b 129 .lss [t 128,t 127] []<|.nil)<|.seq (.cond (t 129) (.skip) (.exit 10))<|.seq (.block 11 (R (m 130 128<|M 9 130<|.nil)<|R (m 131 0<|m 132 6<|m 133 7<|m 134 8<|m 135 9<|o 136 (.build z4 [(0,1),(3,1),(2,1),(4,1),(5,1)]) [c 4,t 132,t 133,t 134,t 135] [132,133,134,135]<|o 137 .loadS [t 1] []<|O 138 .nilc 137<|A 139 3 138<|L 140 139<|m 141 6<|U 142 (.iad 22) [140,141]<|A 143 21 142<|L 144 143<|m 145 7<|U 146 (.iad 2) [144,145]<|A 147 1 146<|L 148 147<|m 149 8<|U 150 (.iad 2) [148,149]<|A 151 0 150<|L 152 151<|M 153 9<|U 154 (.iad 13) [152,153]<|A 155 0 154<|U 156 .callV [131,136,155]<|O 157 (.un .not) 156<|.nil)<|.condL (t 157) (.ret) (.skip)))<|.reg<|B 158 .add 128 1<|M 128 158<|.nil))))<|.reg<|B 159 .add 108 1<|M 108 159<|.nil))))<|.reg<|B 160 .add 92 1<|M 92 160<|.nil))))<|.reg<|B 161 .add 68 1<|M 68 161<|.nil)))<|R (o 162 .loadS [t 1] []<|O 163 .nilc 162<|A 164 4 163<|L 165 164<|O 166 (.len 0) 165<|o 167 .mov [c 0] []<|.nil)<|.block 12 (.loop [0,1,166,167] [] (R (b 168 .lss [t 167,t 166] []<|.nil)<|.seq (.cond (t 168) (.skip) (.exit 12))<|.seq (.block 13 (R (m 169 167<|M 10 169<|.nil)<|R (m 170 0<|m 171 10<|o 172 (.build z4 [(0,1),(6,1)]) [c 5,t 171] [171]<|o 173 .loadS [t 1] []<|O 174 .nilc 173<|A 175 4 174<|L 176 175<|M 177 10<|U 178 (.iad 7) [176,177]<|A 179 0 178<|U 180 .callV [170,172,179]<|O 181 (.un .not) 180<|.nil)<|.condL (t 181) (.ret) (.skip)))<|.reg<|B 182 .add 167 1<|M 167 182<|.nil)),true⟩
def p171:PFn:=⟨58,[.cellA 2 13],R (O 1 (.box 121 13) 0<|U 2 (.alloc 121 z11) []<|.nil)<|R (o 4 (.loadA 13) [t 1] []<|O 5 (.callF 73) 4<|.sto (.store 13) [t 1,t 5] [5]<|.nil)<|.seq (.regX 3 (a 6 5 1<|L 7 6<|a 8 5 1<|L 9 8<|O 10 (.len 0) 9<|o 11 .mn [t 10,c 5] [10]<|U 12 (.slc 5 false true false) [7,11]<|a 13 6 1<|L 14 13<|a 15 6 1<|L 16 15<|O 17 (.len 0) 16<|o 18 .mn [t 17,c 4] [17]<|U 19 (.slc 5 false true false) [14,18]<|a 20 10 1<|L 21 20<|a 22 10 1<|L 23 22<|O 24 (.len 0) 23<|o 25 .mn [t 24,c 5] [24]<|U 26 (.slc 2 false true false) [21,25]<|a 27 5 1<|.sto (.store 1) [t 27,t 12] [12]<|a 28 6 1<|.sto (.store 1) [t 28,t 19] []<|a 29 10 1<|.sto (.store 1) [t 29,t 26] [29]<|.nil) [0,1,0,4,12,28,63,0,128,0,512,1536,3584,8064,0,16384,0,65536,196608,458752,1032192,247807,2344959,6553599,14942207,33554431,67108863] [(13,22,19,27),(20,22,26,27),(20,24,26,28)])<|.seq (R (o 3 .mov [c 0] []<|.nil)<|.block 0 (.loop [1,2,3] [1,2] (.seq (R (m 30 3<|a 31 10 1<|L 32 31<|O 33 (.len 0) 32<|C 34 .lss 30 33<|.nil)<|.cond (t 34) (.skip) (.exit 0))<|.seq (.block 1 (.regD 3 (a 37 10 1<|L 38 37<|m 39 3<|a 40 10 1<|L 41 40<|m 42 3<|U 43 (.iad 2) [41,42]<|A 44 0 43<|L 45 44<|a 46 10 1<|L 47 46<|m 48 3<|U 49 (.iad 2) [47,48]<|A 50 0 49<|L 51 50<|O 52 (.len 1) 51<|o 53 .mn [t 52,c 30] [52]<|U 54 (.slcStr false true) [45,53]<|U 55 (.iad 2) [38,39]<|A 56 0 55<|.sto (.store 1) [t 56,t 54] [54,56]<|.nil) [0,1,0,0,8,0,56,120,248,0,512,0,3584,7680,15872,32256,65024,131064,262143,524287,1048575]))<|.reg<|M 35 3<|B 36 .add 35 1<|M 3 36<|.nil)))<|R (O 57 (.loadA 13) 1<|.sto (.store 13) [t 2,t 57] [57]<|.nil)<|.ret,true⟩
def p172:PFn:=⟨9,[.tmp 2],R (o 2 .mov [cf] [2]<|.nil)<|R (o 3 .mov [t 0] [2]<|b 4 .lss [t 3,.c (.v (.int .u8 32))] [3]<|M 5 4<|x 8 5 false (M 6 0<|b 7 .eql [t 6,.c (.v (.int .u8 127))] [6]<|.nil) (t 7) [0,5]<|M 2 8<|.nil)<|.ret,true⟩
def p173:PFn:=⟨9,[.tmp 4],R (o 4 .mov [cf] [4]<|.nil)<|R (o 5 .mov [t 0] [0,4]<|M 6 1<|U 7 (.callF 234) [5,6]<|B 8 .geq 7 0<|M 4 8<|.nil)<|.ret,true⟩
def p174:PFn:=⟨15,[.cellA 2 7,.tmp 3],R (U 2 (.alloc 249 z13) []<|o 3 .mov [c 0] [3]<|.nil)<|.seq (R (o 4 .mov [t 0] [3]<|B 5 .lss 4 1<|M 6 5<|x 9 6 false (m 7 0<|B 8 .gtr 7 9<|.nil) (t 8) [6]<|.nil)<|.cond (t 9) (R (U 10 (.build z13 []) []<|.sto (.store 7) [t 2,t 10] [10]<|o 3 .mov [c 11] []<|.nil)<|.ret) (.skip))<|R (U 11 (.callF 235) []<|M 12 0<|B 13 .sub 12 1<|U 14 (.idxA 9 7 true) [11,13]<|.sto (.store 7) [t 2,t 14] [14]<|o 3 .mov [c 0] []<|.nil)<|.ret,true⟩
def p175:PFn:=⟨12,[.tmp 2,.tmp 3],R (O 1 (.box 56 8) 0<|o 2 .mov [c 0] [2]<|o 3 .mov [c 0] [2,3]<|.nil)<|.seq (R (o 5 (.loadA 8) [t 1] [3]<|O 6 (.callF 236) 5<|M 4 6<|.nil)<|R (m 7 4<|B 8 .neq 7 0<|.nil)<|.cond (t 8) (R (M 9 4<|o 2 .mov [c 0] []<|M 3 9<|.nil)<|.ret) (.skip))<|R (O 10 (.loadA 8) 1<|O 11 (.callF 237) 10<|M 2 11<|o 3 .mov [c 0] []<|.nil)<|.ret,true⟩
def p176:PFn:=⟨9,[.tmp 2],R (o 2 .mov [c 0] [2]<|.nil)<|.seq (R (o 3 .mov [t 0] [2]<|B 4 .lss 3 (-7)<|M 5 4<|x 8 5 false (M 6 0<|B 7 .gtr 6 7<|.nil) (t 7) [0,5]<|.nil)<|.cond (t 8) (R (o 2 .mov [c 2] []<|.nil)<|.ret) (.skip))<|R (o 2 .mov [c 0] []<|.nil)<|.ret,true⟩
def p177:PFn:=⟨20,[.tmp 5],R (O 4 (.box 60 22) 1<|o 5 .mov [cf] [5]<|.nil)<|R (o 10 (.loadA 22) [t 4] [5]<|O 11 (.callF 113) 10<|M 9 11<|e 12 0 9 []<|O 13 (.ext 1) 9<|U 6 (.alloc 3 [(J 0)]) []<|.sto (.store 1) [t 6,t 12] [12]<|M 7 13<|.nil)<|.seq (R (M 14 7<|B 15 .neq 14 0<|.nil)<|.cond (t 15) (R (o 5 .mov [cf] []<|.nil)<|.ret) (.skip))<|R (U 8 (.alloc 200 [.nilFunc]) []<|.sto (.store 1) [t 8,.c (.fn 178 [] [])] []<|.nil)<|R (A 16 21 4<|L 17 16<|o 18 (.mkfn (.func 180) 0) [t 8,t 2,t 6] [2,6,8]<|U 19 (.callF 179) [17,18]<|M 5 19<|.nil)<|.ret,true⟩
def p178:PFn:=⟨6,[.tmp 2],R (O 1 (.box 121 13) 0<|o 2 .mov [cf] [2]<|.nil)<|R (o 3 (.loadA 13) [t 1] [1,2]<|O 4 (.callF 121) 3<|B 5 .neq 4 0<|M 2 5<|.nil)<|.ret,true⟩
def p179:PFn:=⟨9,[.tmp 4],R (o 4 .mov [cf] [4]<|.nil)<|R (o 5 .mov [t 0] [0,4]<|M 6 1<|U 7 (.callF 238) [5,6]<|B 8 .geq 7 0<|M 4 8<|.nil)<|.ret,true⟩
def p180:PFn:=⟨10,[.tmp 5],R (O 4 (.box 64 2) 0<|o 5 .mov [cf] [5]<|.nil)<|R (o 6 (.fad 1) [t 4] [4,5]<|L 7 6<|U 8 (.mkfn (.func 182) 0) [1,2,3]<|U 9 (.callF 181) [7,8]<|M 5 9<|.nil)<|.ret,true⟩
def p181:PFn:=⟨9,[.tmp 4],R (o 4 .mov [cf] [4]<|.nil)<|R (o 5 .mov [t 0] [0,4]<|M 6 1<|U 7 (.callF 239) [5,6]<|B 8 .geq 7 0<|M 4 8<|.nil)<|.ret,true⟩
def p182:PFn:=⟨18,[.tmp 5],R (O 4 (.box 77 2) 0<|o 5 .mov [cf] [5]<|.nil)<|.seq (.regD 3 (o 6 (.fad 0) [t 4] [5]<|L 7 6<|L 8 1<|U 9 (.callF 183) [7,8]<|O 10 (.un .not) 9<|M 11 10<|x 17 11 true (L 12 2<|O 13 (.loadA 2) 4<|L 14 3<|U 15 (.callF 184) [13,14]<|U 16 .callV [12,15]<|.nil) (t 16) [2,3,4,11]<|M 5 17<|.nil) [0,1,0,7,15,31,63,63,63,447,1023,2047,4095])<|.ret,true⟩
def p183:PFn:=⟨9,[.tmp 4],R (o 4 .mov [cf] [4]<|.nil)<|R (o 5 .mov [t 0] [0,4]<|M 6 1<|U 7 (.callF 240) [5,6]<|B 8 .geq 7 0<|M 4 8<|.nil)<|.ret,true⟩
def p184:PFn:=⟨14,[.tmp 4],R (O 2 (.box 77 2) 0<|o 4 .mov [c 0] [4]<|.nil)<|R (o 8 (.loadA 2) [t 2] [2,4]<|M 9 1<|U 10 (.callF 241) [8,9]<|M 7 10<|e 11 0 7 []<|O 12 (.ext 1) 7<|o 5 .mov [t 11] [5,11]<|o 6 .mov [t 12] [5,12]<|.nil)<|R (M 13 6<|M 4 13<|.nil)<|.ret,true⟩
def p185:PFn:=⟨15,[.tmp 2],R (o 2 .mov [c 0] [2]<|.nil)<|.seq (R (o 5 .mov [t 0] [0,2]<|o 6 (.len 0) [t 5] []<|o 7 .mov [c 0] []<|.nil)<|.block 0 (.loop [5,6,7] [2] (R (b 8 .lss [t 7,t 6] []<|.nil)<|.seq (.cond (t 8) (.skip) (.exit 0))<|.seq (.block 1 (R (o 9 (.iad 1) [t 5,t 7] []<|L 10 9<|M 4 10<|.nil)<|R (m 11 4<|B 12 .neq 11 0<|.nil)<|.cond (t 12) (R (M 13 4<|M 2 13<|.nil)<|.ret) (.skip)))<|.reg<|B 14 .add 7 1<|M 7 14<|.nil)))<|R (o 2 .mov [c 0] []<|.nil)<|.ret,true⟩
def p186:PFn:=⟨12,[.tmp 4],R (o 4 .mov [c 0] [4]<|.nil)<|.seq (R (o 5 .mov [t 0] [4]<|B 6 .lss 5 0<|M 7 6<|x 11 7 false (M 8 0<|M 9 1<|C 10 .gtr 8 9<|.nil) (t 10) [0,1,7]<|.nil)<|.cond (t 11) (R (o 4 .mov [c 2] []<|.nil)<|.ret) (.skip))<|R (o 4 .mov [c 0] []<|.nil)<|.ret,true⟩
def p187:PFn:=⟨9,[.tmp 2],R (o 2 .mov [cf] [2]<|.nil)<|R (o 3 .mov [t 0] [2]<|B 4 .geq 3 1<|M 5 4<|x 8 5 true (M 6 0<|B 7 .leq 6 4<|.nil) (t 7) [0,5]<|M 2 8<|.nil)<|.ret,true⟩
def p188:PFn:=⟨35,[.cellA 2 13],R (O 1 (.box 121 13) 0<|U 2 (.alloc 121 z11) []<|.nil)<|.seq (R (a 4 2 1<|L 5 4<|B 6 .eql 5 1<|M 7 6<|x 12 7 false (a 8 2 1<|L 9 8<|O 10 (.callF 187) 9<|O 11 (.un .not) 10<|.nil) (t 11) [7]<|.nil)<|.cond (t 12) (R (O 13 (.loadA 13) 1<|.sto (.store 13) [t 2,t 13] [13]<|.nil)<|.ret) (.skip))<|R (a 14 0 1<|O 15 (.loadA 2) 14<|a 16 2 1<|L 17 16<|a 18 9 1<|L 19 18<|U 20 (.build z11 [(0,2),(2,1),(9,1)]) [15,17,19]<|U 3 (.alloc 121 z11) []<|.sto (.store 13) [t 3,t 20] [20]<|.nil)<|.seq (R (a 21 2 1<|L 22 21<|B 23 .neq 22 3<|.nil)<|.condJ [1,2,3] (t 23) (.reg<|a 24 3 1<|O 25 (.loadA 2) 24<|a 26 3 3<|.sto (.store 2) [t 26,t 25] [25,26]<|.nil) (.skip))<|.seq (R (a 27 2 1<|L 28 27<|B 29 .neq 28 4<|.nil)<|.condJ [2,3] (t 29) (.reg<|A 30 7 1<|L 31 30<|O 32 (.callF 242) 31<|a 33 7 3<|.sto (.store 1) [t 33,t 32] [32,33]<|.nil) (.skip))<|R (O 34 (.loadA 13) 3<|.sto (.store 13) [t 2,t 34] [34]<|.laxc 2 5 5<|.laxc 2 6 5<|.laxc 2 10 2<|.nil)<|.ret,true⟩
def p189:PFn:=⟨21,[.tmp 2],R (O 1 (.box 116 2) 0<|o 2 .mov [c 0] [2]<|.nil)<|.seq (R (o 3 (.fad 0) [t 1] [2]<|L 4 3<|B 5 .lss 4 (-1)<|M 6 5<|x 10 6 false (a 7 0 1<|L 8 7<|B 9 .gtr 8 8<|.nil) (t 9) [6]<|M 11 10<|x 15 11 false (a 12 1 1<|L 13 12<|B 14 .lss 13 0<|.nil) (t 14) [11]<|M 16 15<|x 20 16 false (A 17 1 1<|L 18 17<|B 19 .gtr 18 3<|.nil) (t 19) [1,16]<|.nil)<|.cond (t 20) (R (o 2 .mov [c 17] []<|.nil)<|.ret) (.skip))<|R (o 2 .mov [c 0] []<|.nil)<|.ret,true⟩
def p190:PFn:=⟨39,[.tmp 2],R (o 2 .mov [c 0] [2]<|.nil)<|.seq (.block 0 (R (o 10 .mov [t 0] [2]<|O 11 (.len 0) 10<|B 12 .eql 11 0<|M 9 12<|.nil)<|.cond (t 9) (R (o 2 .mov [c 4] []<|.nil)<|.ret) (R (m 14 0<|O 15 (.len 0) 14<|B 16 .gtr 15 10<|M 13 16<|.nil)<|.cond (t 13) (R (o 2 .mov [c 9] []<|.nil)<|.ret) (.skip))))<|R (o 3 .mov [c (-1)] []<|.nil)<|.seq (R (M 17 0<|o 18 (.len 0) [t 17] []<|o 19 .mov [c 0] []<|.nil)<|.block 1 (.loop [3,17,18,19] [2] (R (b 20 .lss [t 19,t 18] []<|.nil)<|.seq (.cond (t 20) (.skip) (.exit 1))<|.seq (.block 2 (R (o 21 (.iad 5) [t 17,t 19] []<|O 22 (.loadA 5) 21<|U 5 (.alloc 194 z14) []<|.sto (.store 5) [t 5,t 22] [22]<|.nil)<|.seq (R (o 23 (.loadA 5) [t 5] []<|O 24 (.callF 243) 23<|M 6 24<|.nil)<|R (m 25 6<|B 26 .neq 25 0<|.nil)<|.cond (t 26) (R (M 27 6<|M 2 27<|.nil)<|.ret) (.skip))<|R (A 29 0 5<|O 30 (.loadA 3) 29<|O 31 (.callF 228) 30<|M 28 31<|e 32 0 28 []<|O 33 (.ext 1) 28<|M 7 32<|o 8 .mov [t 33] [8,33]<|.nil)<|.seq (R (o 34 .mov [t 7] [8]<|M 35 3<|C 36 .leq 34 35<|.nil)<|.cond (t 36) (R (o 2 .mov [c 25] []<|.nil)<|.ret) (.skip))<|.reg<|M 37 7<|M 3 37<|.nil))<|.reg<|B 38 .add 19 1<|M 19 38<|.nil)))<|R (o 2 .mov [c 0] []<|.nil)<|.ret,true⟩
def p191:PFn:=⟨34,[.tmp 2],R (o 2 .mov [c 0] [2]<|.nil)<|.seq (R (o 7 .mov [t 0] [2]<|O 8 (.len 0) 7<|B 9 .gtr 8 8<|.nil)<|.cond (t 9) (R (o 2 .mov [c 9] []<|.nil)<|.ret) (.skip))<|.seq (R (M 10 0<|o 11 (.len 0) [t 10] []<|o 12 .mov [c 0] []<|.nil)<|.block 0 (.loop [10,11,12] [2] (R (b 13 .lss [t 12,t 11] []<|.nil)<|.seq (.cond (t 13) (.skip) (.exit 0))<|.seq (.block 1 (R (o 14 (.iad 5) [t 10,t 12] []<|O 15 (.loadA 5) 14<|U 4 (.alloc 198 z17) []<|.sto (.store 5) [t 4,t 15] [15]<|.nil)<|.seq (R (a 17 0 4<|O 18 (.loadA 3) 17<|O 19 (.callF 228) 18<|M 16 19<|e 20 0 16 []<|O 21 (.ext 1) 16<|o 5 .mov [t 20] [5,20]<|o 6 .mov [t 21] [5,21]<|.nil)<|R (m 22 6<|B 23 .neq 22 0<|.nil)<|.cond (t 23) (R (M 24 6<|M 2 24<|.nil)<|.ret) (.skip))<|R (a 25 3 4<|L 26 25<|B 27 .lss 26 1<|M 28 27<|x 32 28 false (A 29 3 4<|L 30 29<|B 31 .gtr 30 6<|.nil) (t 31) [4,28]<|.nil)<|.cond (t 32) (R (o 2 .mov [c 2] []<|.nil)<|.ret) (.skip)))<|.reg<|B 33 .add 12 1<|M 12 33<|.nil)))<|R (o 2 .mov [c 0] []<|.nil)<|.ret,true⟩
def p192:PFn:=⟨34,[.tmp 2],R (o 2 .mov [c 0] [2]<|.nil)<|.seq (R (o 7 .mov [t 0] [2]<|O 8 (.len 0) 7<|B 9 .gtr 8 4<|.nil)<|.cond (t 9) (R (o 2 .mov [c 9] []<|.nil)<|.ret) (.skip))<|.seq (R (m 10 0<|o 11 (.len 0) [t 10] []<|o 12 .mov [c 0] []<|.nil)<|.block 0 (.loop [0,10,11,12] [0,2] (R (b 13 .lss [t 12,t 11] []<|.nil)<|.seq (.cond (t 13) (.skip) (.exit 0))<|.seq (.block 1 (R (o 14 (.iad 2) [t 10,t 12] []<|O 15 (.loadA 2) 14<|U 4 (.alloc 233 [ZS,(J 0)]) []<|.sto (.store 2) [t 4,t 15] [15]<|.nil)<|R (O 16 (.loadA 2) 4<|O 17 (.callF 244) 16<|M 5 17<|.nil)<|R (m 18 5<|B 19 .neq 18 0<|.nil)<|.cond (t 19) (R (M 20 5<|M 2 20<|.nil)<|.ret) (.skip)))<|.reg<|B 21 .add 12 1<|M 12 21<|.nil)))<|.seq (R (m 22 0<|O 23 (.len 0) 22<|M 6 23<|.nil)<|R (m 24 6<|B 25 .gtr 24 0<|M 26 25<|x 33 26 true (M 27 0<|M 28 6<|B 29 .sub 28 1<|U 30 (.iad 2) [27,29]<|O 31 (.loadA 2) 30<|O 32 (.callF 233) 31<|.nil) (t 32) [0,6,26]<|.nil)<|.cond (t 33) (R (o 2 .mov [c 3] []<|.nil)<|.ret) (.skip))<|R (o 2 .mov [c 0] []<|.nil)<|.ret,true⟩
def p193:PFn:=⟨40,[.tmp 2],R (O 1 (.box 172 3) 0<|o 2 .mov [c 0] [2]<|.nil)<|.seq (R (o 4 (.fad 0) [t 1] [2]<|L 5 4<|B 6 .lss 5 0<|M 7 6<|x 11 7 false (a 8 0 1<|L 9 8<|B 10 .gtr 9 6<|.nil) (t 10) [7]<|M 12 11<|x 16 12 false (a 13 1 1<|L 14 13<|B 15 .lss 14 (-2)<|.nil) (t 15) [12]<|M 17 16<|x 21 17 false (a 18 1 1<|L 19 18<|B 20 .gtr 19 2<|.nil) (t 20) [17]<|M 22 21<|x 26 22 false (a 23 2 1<|L 24 23<|B 25 .lss 24 (-1)<|.nil) (t 25) [22]<|M 27 26<|x 31 27 false (a 28 2 1<|L 29 28<|B 30 .gtr 29 9<|.nil) (t 30) [27]<|.nil)<|.cond (t 31) (R (o 2 .mov [c 18] []<|.nil)<|.ret) (.skip))<|.seq (R (O 32 (.loadA 3) 1<|O 33 (.callF 194) 32<|M 3 33<|.nil)<|R (m 34 3<|B 35 .lss 34 0<|M 36 35<|x 39 36 false (M 37 3<|B 38 .gtr 37 127<|.nil) (t 38) [3,36]<|.nil)<|.cond (t 39) (R (o 2 .mov [c 18] []<|.nil)<|.ret) (.skip))<|R (o 2 .mov [c 0] []<|.nil)<|.ret,true⟩
def p194:PFn:=⟨15,[.tmp 2],R (O 1 (.box 172 3) 0<|o 2 .mov [c 0] [2]<|.nil)<|.seq (.regD 3 (o 3 (.fad 2) [t 1] [2]<|L 4 3<|B 5 .add 4 1<|b 6 .mul [c 12,t 5] [5]<|U 7 (.callF 245) []<|a 8 0 1<|L 9 8<|U 10 (.idxA 7 1 false) [7,9]<|C 11 .add 6 10<|A 12 1 1<|L 13 12<|C 14 .add 11 13<|M 2 14<|.nil) [0,1,3,7,0,0,32,112,255,0,512,2047,4095])<|.ret,true⟩
def p195:PFn:=⟨19,[.tmp 4],R (o 4 .mov [c 0] [4]<|.nil)<|.seq (R (o 6 .mov [t 0] [4]<|O 7 (.len 0) 6<|o 8 .mov [c 0] []<|.nil)<|.block 0 (.loop [0,1,7,8] [4] (R (b 9 .lss [t 8,t 7] []<|.nil)<|.seq (.cond (t 9) (.skip) (.exit 0))<|.seq (.block 1 (R (m 10 8<|M 5 10<|.nil)<|R (m 11 1<|m 12 0<|m 13 5<|U 14 (.iad 5) [12,13]<|O 15 (.loadA 5) 14<|U 16 .callV [11,15]<|.nil)<|.cond (t 16) (R (M 17 5<|M 4 17<|.nil)<|.ret) (.skip)))<|.reg<|B 18 .add 8 1<|M 8 18<|.nil)))<|R (o 4 .mov [c (-1)] []<|.nil)<|.ret,true⟩
def p196:PFn:=⟨19,[.tmp 4],R (o 4 .mov [c 0] [4]<|.nil)<|.seq (R (o 6 .mov [t 0] [4]<|O 7 (.len 0) 6<|o 8 .mov [c 0] []<|.nil)<|.block 0 (.loop [0,1,7,8] [4] (R (b 9 .lss [t 8,t 7] []<|.nil)<|.seq (.cond (t 9) (.skip) (.exit 0))<|.seq (.block 1 (R (m 10 8<|M 5 10<|.nil)<|R (m 11 1<|m 12 0<|m 13 5<|U 14 (.iad 5) [12,13]<|O 15 (.loadA 5) 14<|U 16 .callV [11,15]<|.nil)<|.cond (t 16) (R (M 17 5<|M 4 17<|.nil)<|.ret) (.skip)))<|.reg<|B 18 .add 8 1<|M 8 18<|.nil)))<|R (o 4 .mov [c (-1)] []<|.nil)<|.ret,true⟩
def p197:PFn:=⟨5,[.tmp 2],R (O 1 (.box 194 5) 0<|o 2 .mov [cf] [2]<|.nil)<|R (o 3 (.fad 3) [t 1] [1,2]<|L 4 3<|M 2 4<|.nil)<|.ret,true⟩
def p198:PFn:=⟨25,[.tmp 4],R (O 2 (.box 31 6) 0<|O 3 (.box 102 7) 1<|o 4 .mov [c 0] [4]<|.nil)<|.seq (R (o 5 (.fad 0) [t 3] [4]<|L 6 5<|B 7 .neq 6 4<|.nil)<|.cond (t 7) (R (o 4 .mov [c 11] []<|.nil)<|.ret) (.skip))<|.seq (.seq (.regD 3 (a 8 5 3<|L 9 8<|B 10 .lss 9 0<|M 11 10<|x 24 11 false (a 12 5 3<|L 13 12<|O 14 (.loadA 6) 2<|a 15 3 3<|L 16 15<|a 17 2 3<|L 18 17<|A 19 4 3<|L 20 19<|U 21 (.callF 199) [14,16,18,20]<|O 22 (.len 0) 21<|C 23 .geq 13 22<|.nil) (t 23) [2,3,11]<|.nil) [0,1,3,7,15,31,15,15,143,15,527,15,2063,8143,16335,32767,65535])<|.cond (t 24) (R (o 4 .mov [c 2] []<|.nil)<|.ret) (.skip))<|R (o 4 .mov [c 0] []<|.nil)<|.ret,true⟩
def p199:PFn:=⟨66,[.tmp 8],R (O 4 (.box 31 6) 0<|o 8 .mov [cn] [8]<|.nil)<|.seq (R (o 9 .mov [t 1] [8]<|B 10 .lss 9 0<|M 11 10<|x 17 11 false (m 12 1<|a 13 3 4<|L 14 13<|O 15 (.len 0) 14<|C 16 .geq 12 15<|.nil) (t 16) [11]<|M 18 17<|x 21 18 false (m 19 2<|B 20 .lss 19 0<|.nil) (t 20) [18]<|M 22 21<|x 32 22 false (m 23 2<|a 24 3 4<|L 25 24<|m 26 1<|U 27 (.iad 22) [25,26]<|A 28 21 27<|L 29 28<|O 30 (.len 0) 29<|C 31 .geq 23 30<|.nil) (t 31) [22]<|M 33 32<|x 36 33 false (m 34 3<|B 35 .lss 34 0<|.nil) (t 35) [33]<|M 37 36<|x 51 37 false (m 38 3<|a 39 3 4<|L 40 39<|m 41 1<|U 42 (.iad 22) [40,41]<|A 43 21 42<|L 44 43<|m 45 2<|U 46 (.iad 2) [44,45]<|A 47 1 46<|L 48 47<|O 49 (.len 0) 48<|C 50 .geq 38 49<|.nil) (t 50) [37]<|.nil)<|.cond (t 51) (R (o 8 .mov [cn] []<|.lax 8 [some 13]<|.nil)<|.ret) (.skip))<|R (A 52 3 4<|L 53 52<|M 54 1<|U 55 (.iad 22) [53,54]<|A 56 21 55<|L 57 56<|M 58 2<|U 59 (.iad 2) [57,58]<|A 60 1 59<|L 61 60<|M 62 3<|U 63 (.iad 2) [61,62]<|A 64 0 63<|L 65 64<|M 8 65<|.nil)<|.ret,true⟩
def p200:PFn:=⟨14,[.cellA 8 7],R (U 8 (.alloc 102 z4) []<|.nil)<|R (M 9 0<|M 10 1<|M 11 2<|M 12 3<|o 13 (.build z4 [(0,1),(3,1),(2,1),(4,1),(5,1)]) [c 4,t 9,t 10,t 11,t 12] [9,10,11,12]<|.sto (.store 7) [t 8,t 13] [13]<|.nil)<|.ret,true⟩
def p201:PFn:=⟨9,[.tmp 3],R (O 2 (.box 194 5) 0<|o 3 .mov [cf] [3]<|.nil)<|R (o 4 (.fad 0) [t 2] [2,3]<|O 5 (.loadA 3) 4<|A 6 0 1<|O 7 (.loadA 3) 6<|U 8 (.eqA false [.i,.i,.i]) [5,7]<|M 3 8<|.nil)<|.ret,true⟩
def p202:PFn:=⟨19,[.tmp 4],R (O 2 (.box 121 13) 0<|o 4 .mov [cf] [4]<|.nil)<|R (o 5 .mov [t 1] [4]<|a 6 10 2<|L 7 6<|O 8 (.len 0) 7<|C 9 .geq 5 8<|M 10 9<|x 18 10 false (A 11 10 2<|L 12 11<|M 13 1<|U 14 (.iad 2) [12,13]<|O 15 (.loadA 2) 14<|U 16 (.build [ZS,(J 0)] []) []<|U 17 (.eqA false [.s,.i]) [15,16]<|.nil) (t 17) [1,2,10]<|M 4 18<|.nil)<|.ret,true⟩
def p203:PFn:=⟨78,[.cellA 4 4,.tmp 5],R (O 3 (.box 48 2) 1<|U 4 (.alloc 213 z12) []<|o 5 .mov [cf] [5]<|.nil)<|.seq (.regD 3 (o 14 .mov [t 0] [5]<|O 15 .nilc 14<|A 16 0 15<|O 17 (.loadA 6) 16<|O 18 (.loadA 2) 3<|U 19 (.callF 34) [17,18]<|M 13 19<|e 20 0 13 []<|O 21 (.ext 1) 13<|U 6 (.alloc 102 z4) []<|.sto (.store 7) [t 6,t 20] [20]<|M 7 21<|.nil) [0,1,3,7,0,31,63,127,127,0,767,2047])<|.seq (R (M 22 7<|O 23 (.un .not) 22<|M 24 23<|x 28 24 false (a 25 0 6<|L 26 25<|B 27 .neq 26 4<|.nil) (t 27) [24]<|.nil)<|.cond (t 28) (R (U 29 (.build z12 []) []<|.sto (.store 4) [t 4,t 29] [29]<|o 5 .mov [cf] []<|.nil)<|.ret) (.skip))<|.seq (.regD 3 (M 30 0<|O 31 .nilc 30<|A 32 0 31<|A 33 3 32<|L 34 33<|a 35 3 6<|L 36 35<|U 37 (.iad 22) [34,36]<|O 38 (.loadA 22) 37<|U 8 (.alloc 60 z3) []<|.sto (.store 22) [t 8,t 38] [38]<|.nil) [0,1,3,7,15,0,32,127,255,0,1023])<|R (o 40 (.loadA 22) [t 8] []<|O 41 (.callF 113) 40<|M 39 41<|e 42 0 39 []<|O 43 (.ext 1) 39<|M 9 42<|o 10 .mov [t 43] [10,43]<|.nil)<|.seq (.regD 3 (o 45 (.fad 21) [t 8] [8,10]<|L 46 45<|a 47 2 6<|L 48 47<|U 49 (.iad 2) [46,48]<|A 50 1 49<|L 51 50<|a 52 4 6<|L 53 52<|U 54 (.iad 2) [51,53]<|O 55 (.loadA 2) 54<|M 56 9<|U 57 (.callF 246) [55,56]<|M 44 57<|e 58 0 44 []<|O 59 (.ext 1) 44<|M 11 58<|o 12 .mov [t 59] [12,59]<|.nil) [0,1,0,4,15,31,63,0,128,511,1023,0,4095,8191,16383,16383,32767,131071])<|.seq (R (o 60 (.fad 5) [t 6] [12]<|L 61 60<|m 62 11<|O 63 (.len 0) 62<|C 64 .geq 61 63<|.nil)<|.cond (t 64) (R (U 65 (.build z12 []) []<|.sto (.store 4) [t 4,t 65] [65]<|o 5 .mov [cf] []<|.nil)<|.ret) (.skip))<|.seq (.regD 3 (a 66 3 6<|L 67 66<|M 68 11<|a 69 5 6<|L 70 69<|U 71 (.iad 1) [68,70]<|L 72 71<|a 73 2 6<|L 74 73<|A 75 4 6<|L 76 75<|U 77 (.build z12 [(0,1),(1,1),(2,1),(3,1)]) [67,72,74,76]<|.sto (.store 4) [t 4,t 77] [77]<|o 5 .mov [ct] []<|.nil) [0,1,0,0,8,28,60,0,128,0,512,2047,4095,8191])<|.ret,true⟩
def p204:PFn:=⟨52,[.tmp 2],R (O 1 (.box 215 9) 0<|o 2 .mov [c 0] [2]<|.nil)<|.seq (.block 0 (R (o 4 (.fad 0) [t 1] [2]<|L 5 4<|B 6 .lss 5 1<|M 7 6<|x 11 7 false (a 8 0 1<|L 9 8<|B 10 .gtr 9 7<|.nil) (t 10) [7]<|M 3 11<|.nil)<|.cond (t 3) (R (o 2 .mov [c 11] []<|.nil)<|.ret) (R (a 13 1 1<|O 14 (.loadA 4) 13<|O 15 (.callF 247) 14<|O 16 (.un .not) 15<|M 17 16<|x 22 17 false (a 18 5 1<|O 19 (.loadA 4) 18<|O 20 (.callF 247) 19<|O 21 (.un .not) 20<|.nil) (t 21) [17]<|M 12 22<|.nil)<|.cond (t 12) (R (o 2 .mov [c 2] []<|.nil)<|.ret) (R (a 24 1 1<|A 25 2 24<|L 26 25<|a 27 5 1<|A 28 2 27<|L 29 28<|C 30 .neq 26 29<|M 31 30<|x 44 31 false (a 32 0 1<|L 33 32<|O 34 (.callF 248) 33<|M 35 34<|x 43 35 true (a 36 1 1<|A 37 3 36<|L 38 37<|a 39 5 1<|A 40 3 39<|L 41 40<|C 42 .neq 38 41<|.nil) (t 42) [35]<|.nil) (t 43) [31]<|M 23 44<|.nil)<|.cond (t 23) (R (o 2 .mov [c 23] []<|.nil)<|.ret) (R (a 46 1 1<|O 47 (.loadA 4) 46<|A 48 5 1<|O 49 (.loadA 4) 48<|U 50 (.callF 249) [47,49]<|B 51 .geq 50 0<|M 45 51<|.nil)<|.cond (t 45) (R (o 2 .mov [c 25] []<|.nil)<|.ret) (.skip))))))<|R (o 2 .mov [c 0] []<|.nil)<|.ret,true⟩
def p205:PFn:=⟨42,[.tmp 4],R (O 2 (.box 215 9) 0<|O 3 (.box 215 9) 1<|o 4 .mov [cf] [4]<|.nil)<|.seq (.regD 3 (o 5 (.fad 0) [t 2] [4]<|L 6 5<|O 7 (.callF 250) 6<|B 8 .gtr 7 0<|M 9 8<|x 17 9 true (a 10 0 2<|L 11 10<|O 12 (.callF 250) 11<|a 13 0 3<|L 14 13<|O 15 (.callF 250) 14<|C 16 .eql 12 15<|.nil) (t 16) [9]<|M 18 17<|x 26 18 true (a 19 1 2<|A 20 2 19<|L 21 20<|a 22 1 3<|A 23 2 22<|L 24 23<|C 25 .eql 21 24<|.nil) (t 25) [18]<|M 27 26<|x 41 27 true (a 28 0 2<|L 29 28<|O 30 (.callF 248) 29<|O 31 (.un .not) 30<|M 32 31<|x 40 32 false (A 33 1 2<|A 34 3 33<|L 35 34<|A 36 1 3<|A 37 3 36<|L 38 37<|C 39 .eql 35 38<|.nil) (t 39) [2,3,32]<|.nil) (t 40) [2,3,27]<|M 4 41<|.nil) [0,1,3,7,15,31,63,127,31,287,1023,2047,4095,8191,16383,32767,65535,16383,147455,409599,1048575,2097151,4194303,8388607,16777215,33554431,67108863,134217727,268435455,536870911,1073741823,268435455,2415919103,6710886399,17179869183,34359738367,68719476735,137438953471])<|.ret,true⟩
def p206:PFn:=⟨9,[.tmp 4],R (O 2 (.box 215 9) 0<|O 3 (.box 215 9) 1<|o 4 .mov [cf] [4]<|.nil)<|R (o 5 (.loadA 9) [t 2] [2,4]<|O 6 (.loadA 9) 3<|U 7 (.callF 207) [5,6]<|O 8 (.un .not) 7<|M 4 8<|.nil)<|.ret,true⟩
def p207:PFn:=⟨19,[.tmp 4],R (O 2 (.box 215 9) 0<|O 3 (.box 215 9) 1<|o 4 .mov [cf] [4]<|.nil)<|R (o 5 (.fad 5) [t 2] [4]<|O 6 (.loadA 4) 5<|a 7 1 3<|O 8 (.loadA 4) 7<|U 9 (.callF 249) [6,8]<|B 10 .leq 9 0<|M 11 10<|x 18 11 false (A 12 5 3<|O 13 (.loadA 4) 12<|A 14 1 2<|O 15 (.loadA 4) 14<|U 16 (.callF 249) [13,15]<|B 17 .leq 16 0<|.nil) (t 17) [2,3,11]<|M 4 18<|.nil)<|.ret,true⟩
def p208:PFn:=⟨9,[.tmp 4],R (O 2 (.box 215 9) 0<|O 3 (.box 215 9) 1<|o 4 .mov [cf] [4]<|.nil)<|R (o 5 (.loadA 9) [t 2] [2,4]<|O 6 (.loadA 9) 3<|U 7 (.callF 209) [5,6]<|O 8 (.un .not) 7<|M 4 8<|.nil)<|.ret,true⟩
def p209:PFn:=⟨19,[.tmp 4],R (O 2 (.box 215 9) 0<|O 3 (.box 215 9) 1<|o 4 .mov [cf] [4]<|.nil)<|R (o 5 (.fad 5) [t 2] [4]<|O 6 (.loadA 4) 5<|a 7 1 3<|O 8 (.loadA 4) 7<|U 9 (.callF 249) [6,8]<|B 10 .lss 9 0<|M 11 10<|x 18 11 false (A 12 5 3<|O 13 (.loadA 4) 12<|A 14 1 2<|O 15 (.loadA 4) 14<|U 16 (.callF 249) [13,15]<|B 17 .lss 16 0<|.nil) (t 17) [2,3,11]<|M 4 18<|.nil)<|.ret,true⟩
def p210:PFn:=⟨18,[.tmp 4],R (O 2 (.box 215 9) 0<|O 3 (.box 215 9) 1<|o 4 .mov [cf] [4]<|.nil)<|.seq (.regD 3 (o 5 (.loadA 9) [t 2] [4]<|o 6 (.loadA 9) [t 3] []<|U 7 (.callF 207) [5,6]<|O 8 (.un .not) 7<|M 9 8<|x 17 9 true (o 10 (.loadA 9) [t 2] []<|o 11 (.loadA 9) [t 3] []<|U 12 (.callF 251) [10,11]<|O 13 (.loadA 9) 3<|O 14 (.loadA 9) 2<|U 15 (.callF 251) [13,14]<|U 16 (.eqB false) [12,15]<|.nil) (t 16) [2,3,9]<|M 4 17<|.nil) [0,0,3,7,15,31,31,127,31,31,1023,2047,4095,8191])<|.ret,true⟩
def p211:PFn:=⟨127,[.cellA 4 6,.tmp 5],R (O 2 (.box 217 6) 0<|O 3 (.box 60 22) 1<|U 4 (.alloc 217 z10) []<|o 5 .mov [cf] [5]<|.nil)<|.seq (R (o 7 (.fad 12) [t 3] [5]<|L 8 7<|M 9 8<|x 13 9 false (a 10 1 2<|L 11 10<|B 12 .eql 11 0<|.nil) (t 12) [9]<|.nil)<|.cond (t 13) (R (O 14 (.loadA 6) 2<|.sto (.store 6) [t 4,t 14] [14]<|o 5 .mov [cf] []<|.nil)<|.ret) (.skip))<|.seq (R (a 15 14 3<|L 16 15<|a 17 3 2<|L 18 17<|C 19 .neq 16 18<|.nil)<|.cond (t 19) (.seq (R (a 20 3 2<|L 21 20<|B 22 .neq 21 0<|M 23 22<|x 27 23 true (a 24 4 2<|L 25 24<|O 26 (.un .not) 25<|.nil) (t 26) [23]<|M 28 27<|x 35 28 false (a 29 14 3<|L 30 29<|a 31 2 2<|L 32 31<|C 33 .and 30 32<|B 34 .neq 33 0<|.nil) (t 34) [28]<|.nil)<|.cond (t 35) (R (O 36 (.loadA 6) 2<|.sto (.store 6) [t 4,t 36] [36]<|o 5 .mov [cf] []<|.nil)<|.ret) (.skip))<|R (a 37 14 3<|L 38 37<|O 39 (.convI .u64) 38<|O 40 (.callF 252) 39<|B 41 .sub 40 1<|M 6 41<|.nil)<|.seq (.regX 3 (a 42 2 2<|L 43 42<|a 44 14 3<|L 45 44<|C 46 .or 43 45<|a 47 14 3<|o 48 .loadS [t 47] []<|a 49 2 2<|.sto (.store 1) [t 49,t 46] [46]<|a 50 3 2<|.sto (.store 1) [t 50,t 48] [48,50]<|a 51 4 2<|.sto (.store 1) [t 51,cf] [51]<|.nil) [0,1,0,4,15,0,32,31,159,511,1023,2047,4095] [(6,8,47,49)])<|.block 0 (R (a 53 5 2<|L 54 53<|B 55 .eql 54 0<|M 52 55<|.nil)<|.cond (t 52) (R (a 56 14 3<|L 57 56<|B 58 .and 57 1<|B 59 .eql 58 0<|M 60 59<|x 63 60 false (M 61 6<|B 62 .gtr 61 6<|.nil) (t 62) [6,60]<|.nil)<|.cond (t 63) (R (O 64 (.loadA 6) 2<|.sto (.store 6) [t 4,t 64] [64]<|o 5 .mov [cf] []<|.nil)<|.ret) (.skip)) (.seq (.regD 3 (m 66 6<|a 67 5 2<|L 68 67<|C 69 .geq 66 68<|M 70 69<|x 90 70 false (M 71 6<|a 72 5 2<|L 73 72<|B 74 .sub 73 1<|C 75 .eql 71 74<|M 76 75<|x 89 76 true (o 77 (.loadA 6) [t 2] []<|O 78 (.callF 141) 77<|O 79 (.un .not) 78<|M 80 79<|x 88 80 false (a 81 2 2<|L 82 81<|a 83 5 2<|L 84 83<|b 85 .shl [c 1,t 84] [84]<|B 86 .sub 85 1<|C 87 .neq 82 86<|.nil) (t 87) [80]<|.nil) (t 88) [76]<|.nil) (t 89) [6,70]<|M 65 90<|.nil) [0,0,2,7,15,31,31,95,223,511,1023,2047,4095,8191,16383,32767,65535,32767,163839,425983,950271,2097151,4194303,8388607,16777215,33554431])<|.cond (t 65) (R (O 91 (.loadA 6) 2<|.sto (.store 6) [t 4,t 91] [91]<|o 5 .mov [cf] []<|.nil)<|.ret) (.skip)))) (R (a 92 4 2<|L 93 92<|.nil)<|.cond (t 93) (R (O 94 (.loadA 6) 2<|.sto (.store 6) [t 4,t 94] [94]<|o 5 .mov [cf] []<|.nil)<|.ret) (.skip)))<|.seq (R (a 95 13 3<|L 96 95<|B 97 .neq 96 0<|.nil)<|.cond (t 97) (.seq (.seq (.regD 3 (o 98 (.loadA 6) [t 2] []<|O 99 (.callF 141) 98<|M 100 99<|x 111 100 false (a 101 5 2<|L 102 101<|B 103 .neq 102 0<|M 104 103<|x 110 104 true (a 105 13 3<|L 106 105<|a 107 5 2<|L 108 107<|C 109 .neq 106 108<|.nil) (t 109) [104]<|.nil) (t 110) [100]<|M 112 111<|x 120 112 false (a 113 3 2<|L 114 113<|O 115 (.convI .u64) 114<|O 116 (.callF 252) 115<|a 117 13 3<|L 118 117<|C 119 .geq 116 118<|.nil) (t 119) [112]<|.nil) [0,1,3,7,15,31,63,127,255,127,639,2047,4095,8191,16383,32767,65535,131071,262143,32767,557055,2097151,4194303])<|.cond (t 120) (R (O 121 (.loadA 6) 2<|.sto (.store 6) [t 4,t 121] [121]<|o 5 .mov [cf] []<|.nil)<|.ret) (.skip))<|.reg<|A 122 13 3<|L 123 122<|a 124 5 2<|.sto (.store 1) [t 124,t 123] [123,124]<|a 125 4 2<|.sto (.store 1) [t 125,ct] [125]<|.nil) (.skip))<|R (O 126 (.loadA 6) 2<|.sto (.store 6) [t 4,t 126] [126]<|o 5 .mov [ct] []<|.nil)<|.ret,true⟩
def p212:PFn:=⟨19,[.tmp 4],R (o 4 .mov [c 0] [4]<|.nil)<|.seq (R (o 6 .mov [t 0] [4]<|O 7 (.len 0) 6<|o 8 .mov [c 0] []<|.nil)<|.block 0 (.loop [0,1,7,8] [4] (R (b 9 .lss [t 8,t 7] []<|.nil)<|.seq (.cond (t 9) (.skip) (.exit 0))<|.seq (.block 1 (R (m 10 8<|M 5 10<|.nil)<|R (m 11 1<|m 12 0<|m 13 5<|U 14 (.iad 22) [12,13]<|O 15 (.loadA 22) 14<|U 16 .callV [11,15]<|.nil)<|.cond (t 16) (R (M 17 5<|M 4 17<|.nil)<|.ret) (.skip)))<|.reg<|B 18 .add 8 1<|M 8 18<|.nil)))<|R (o 4 .mov [c (-1)] []<|.nil)<|.ret,true⟩
def p213:PFn:=⟨10,[.tmp 4],R (o 4 .mov [cf] [4]<|.nil)<|.seq (.regD 3 (o 5 .loadS [t 1] [1,4]<|M 6 0<|U 7 (.callF 214) [5,6]<|L 8 2<|f 9 105 [t 7,c 0,t 8] [7,8]<|M 4 9<|.nil) [0,0,3,0,15,31])<|.ret,true⟩
def p214:PFn:=⟨12,[.tmp 4],R (O 3 (.box 3 1) 1<|o 4 .mov [c 0] [4]<|.nil)<|R (o 5 .mov [t 0] [0,4]<|O 6 .nilc 5<|A 7 0 6<|A 8 3 7<|L 9 8<|O 10 (.mkfn (.func 253) 0) 3<|U 11 (.callF 212) [9,10]<|M 4 11<|.nil)<|.ret,true⟩
def p218:PFn:=⟨26,[.tmp 4],R (o 4 .mov [cf] [4]<|.nil)<|.seq (R (o 6 .mov [t 0] [4]<|O 7 (.len 0) 6<|m 8 1<|O 9 (.len 0) 8<|C 10 .neq 7 9<|.nil)<|.cond (t 10) (R (o 4 .mov [cf] []<|.nil)<|.ret) (.skip))<|.seq (R (m 11 0<|O 12 (.len 0) 11<|o 13 .mov [c 0] []<|.nil)<|.block 0 (.loop [0,1,12,13] [4] (R (b 14 .lss [t 13,t 12] []<|.nil)<|.seq (.cond (t 14) (.skip) (.exit 0))<|.seq (.block 1 (R (m 15 13<|M 5 15<|.nil)<|.seq (.regD 3 (m 16 0<|m 17 5<|U 18 (.iad 5) [16,17]<|O 19 (.loadA 5) 18<|m 20 1<|M 21 5<|U 22 (.iad 5) [20,21]<|O 23 (.loadA 5) 22<|U 24 (.eqA true [.i,.i,.i,.b,.i]) [19,23]<|.nil) [0,0,3,7,0,0,48,112,255])<|.cond (t 24) (R (o 4 .mov [cf] []<|.nil)<|.ret) (.skip)))<|.reg<|B 25 .add 13 1<|M 13 25<|.nil)))<|R (o 4 .mov [ct] []<|.nil)<|.ret,true⟩
def p219:PFn:=⟨26,[.tmp 4],R (o 4 .mov [cf] [4]<|.nil)<|.seq (R (o 6 .mov [t 0] [4]<|O 7 (.len 0) 6<|m 8 1<|O 9 (.len 0) 8<|C 10 .neq 7 9<|.nil)<|.cond (t 10) (R (o 4 .mov [cf] []<|.nil)<|.ret) (.skip))<|.seq (R (m 11 0<|O 12 (.len 0) 11<|o 13 .mov [c 0] []<|.nil)<|.block 0 (.loop [0,1,12,13] [4] (R (b 14 .lss [t 13,t 12] []<|.nil)<|.seq (.cond (t 14) (.skip) (.exit 0))<|.seq (.block 1 (R (m 15 13<|M 5 15<|.nil)<|.seq (.regD 3 (m 16 0<|m 17 5<|U 18 (.iad 5) [16,17]<|O 19 (.loadA 5) 18<|m 20 1<|M 21 5<|U 22 (.iad 5) [20,21]<|O 23 (.loadA 5) 22<|U 24 (.eqA true [.i,.i,.i,.i,.b]) [19,23]<|.nil) [0,0,3,7,0,0,48,112,255])<|.cond (t 24) (R (o 4 .mov [cf] []<|.nil)<|.ret) (.skip)))<|.reg<|B 25 .add 13 1<|M 13 25<|.nil)))<|R (o 4 .mov [ct] []<|.nil)<|.ret,true⟩
def p220:PFn:=⟨26,[.tmp 4],R (o 4 .mov [cf] [4]<|.nil)<|.seq (R (o 6 .mov [t 0] [4]<|O 7 (.len 0) 6<|m 8 1<|O 9 (.len 0) 8<|C 10 .neq 7 9<|.nil)<|.cond (t 10) (R (o 4 .mov [cf] []<|.nil)<|.ret) (.skip))<|.seq (R (m 11 0<|O 12 (.len 0) 11<|o 13 .mov [c 0] []<|.nil)<|.block 0 (.loop [0,1,12,13] [4] (R (b 14 .lss [t 13,t 12] []<|.nil)<|.seq (.cond (t 14) (.skip) (.exit 0))<|.seq (.block 1 (R (m 15 13<|M 5 15<|.nil)<|.seq (.regD 3 (m 16 0<|m 17 5<|U 18 (.iad 2) [16,17]<|O 19 (.loadA 2) 18<|m 20 1<|M 21 5<|U 22 (.iad 2) [20,21]<|O 23 (.loadA 2) 22<|U 24 (.eqA true [.s,.i]) [19,23]<|.nil) [0,0,3,7,0,0,48,112,255])<|.cond (t 24) (R (o 4 .mov [cf] []<|.nil)<|.ret) (.skip)))<|.reg<|B 25 .add 13 1<|M 13 25<|.nil)))<|R (o 4 .mov [ct] []<|.nil)<|.ret,true⟩
def p228:PFn:=⟨22,[.tmp 2,.tmp 3],R (O 1 (.box 172 3) 0<|o 2 .mov [c 0] [2]<|o 3 .mov [c 0] [2,3]<|.nil)<|R (o 7 (.loadA 3) [t 1] [1,3]<|O 8 (.callF 125) 7<|M 6 8<|e 9 0 6 []<|O 10 (.ext 1) 6<|M 4 9<|M 5 10<|.nil)<|.seq (R (M 11 5<|B 12 .neq 11 0<|M 13 12<|x 16 13 false (m 14 4<|B 15 .lss 14 0<|.nil) (t 15) [13]<|M 17 16<|x 20 17 false (m 18 4<|B 19 .gtr 18 127<|.nil) (t 19) [17]<|.nil)<|.cond (t 20) (R (o 2 .mov [c 0] []<|o 3 .mov [c 18] []<|.nil)<|.ret) (.skip))<|R (M 21 4<|M 2 21<|o 3 .mov [c 0] []<|.nil)<|.ret,true⟩
def p233:PFn:=⟨6,[.tmp 2],R (O 1 (.box 233 2) 0<|o 2 .mov [cf] [2]<|.nil)<|R (o 3 (.loadA 2) [t 1] [1,2]<|U 4 (.build [ZS,(J 0)] []) []<|U 5 (.eqA false [.s,.i]) [3,4]<|M 2 5<|.nil)<|.ret,true⟩
def p234:PFn:=⟨19,[.tmp 4],R (o 4 .mov [c 0] [4]<|.nil)<|.seq (R (o 6 .mov [t 0] [4]<|O 7 (.len 0) 6<|o 8 .mov [c 0] []<|.nil)<|.block 0 (.loop [0,1,7,8] [4] (R (b 9 .lss [t 8,t 7] []<|.nil)<|.seq (.cond (t 9) (.skip) (.exit 0))<|.seq (.block 1 (R (m 10 8<|M 5 10<|.nil)<|R (m 11 1<|m 12 0<|m 13 5<|U 14 (.iad 1) [12,13]<|L 15 14<|U 16 .callV [11,15]<|.nil)<|.cond (t 16) (R (M 17 5<|M 4 17<|.nil)<|.ret) (.skip)))<|.reg<|B 18 .add 8 1<|M 8 18<|.nil)))<|R (o 4 .mov [c (-1)] []<|.nil)<|.ret,true⟩
def p235:PFn:=⟨11,[.cellA 0 63],R (U 0 (.alloc 292 z18) []<|.nil)<|R (o 1 (.build z13 [(0,1),(1,1),(2,1),(3,1),(4,1),(5,1),(6,1)]) [.c (.v (.string ⟨#[116,114,101,98,108,101]⟩)),.c (.v (.int .u8 71)),c (-2),c 0,c 34,c (-1),c (-3)] []<|o 2 (.build z13 [(0,1),(1,1),(2,1),(3,1),(4,1),(5,1),(6,1)]) [.c (.v (.string ⟨#[98,97,115,115]⟩)),.c (.v (.int .u8 70)),c 2,c 0,c 22,c (-3),c (-5)] []<|o 3 (.build z13 [(0,1),(1,1),(2,1),(3,1),(4,1),(5,1),(6,1)]) [.c (.v (.string ⟨#[97,108,116,111]⟩)),.c (.v (.int .u8 67)),c 0,c 0,c 28,c (-2),c (-4)] []<|o 4 (.build z13 [(0,1),(1,1),(2,1),(3,1),(4,1),(5,1),(6,1)]) [.c (.v (.string ⟨#[116,101,110,111,114]⟩)),.c (.v (.int .u8 67)),c 2,c 0,c 26,c (-2),c (-2)] []<|o 5 (.build z13 [(0,1),(1,1),(2,1),(3,1),(4,1),(5,1),(6,1)]) [.c (.v (.string ⟨#[115,111,112,114,97,110,111]⟩)),.c (.v (.int .u8 67)),c (-4),c 0,c 32,c (-2),c (-3)] []<|o 6 (.build z13 [(0,1),(1,1),(2,1),(3,1),(4,1),(5,1),(6,1)]) [.c (.v (.string ⟨#[109,101,122,122,111,115,111,112,114,97,110,111]⟩)),.c (.v (.int .u8 67)),c (-2),c 0,c 30,c (-2),c (-3)] []<|o 7 (.build z13 [(0,1),(1,1),(2,1),(3,1),(4,1),(5,1),(6,1)]) [.c (.v (.string ⟨#[98,97,114,105,116,111,110,101]⟩)),.c (.v (.int .u8 70)),c 0,c 0,c 24,c (-2),c (-3)] []<|o 8 (.build z13 [(0,1),(1,1),(2,1),(3,1),(4,1),(5,1),(6,1)]) [.c (.v (.string ⟨#[116,114,101,98,108,101,56]⟩)),.c (.v (.int .u8 71)),c (-2),c (-1),c 27,c (-1),c (-3)] []<|o 9 (.build z13 [(0,1),(1,1),(2,1),(3,1),(4,1),(5,1),(6,1)]) [.c (.v (.string ⟨#[98,97,115,115,56]⟩)),.c (.v (.int .u8 70)),c 2,c (-1),c 15,c (-3),c (-5)] []<|U 10 (.build z18 [(0,7),(7,7),(14,7),(21,7),(28,7),(35,7),(42,7),(49,7),(56,7)]) [1,2,3,4,5,6,7,8,9]<|.sto (.store 63) [t 0,t 10] [10]<|.nil)<|.ret,true⟩
def p236:PFn:=⟨34,[.tmp 2],R (O 1 (.box 56 8) 0<|o 2 .mov [c 0] [2]<|.nil)<|.seq (.block 0 (R (o 4 (.fad 0) [t 1] [2]<|L 5 4<|B 6 .lss 5 1<|M 7 6<|x 11 7 false (a 8 0 1<|L 9 8<|B 10 .gtr 9 64<|.nil) (t 10) [7]<|M 3 11<|.nil)<|.cond (t 3) (R (o 2 .mov [c 2] []<|.nil)<|.ret) (R (a 13 1 1<|L 14 13<|B 15 .lss 14 1<|M 16 15<|x 20 16 false (a 17 1 1<|L 18 17<|B 19 .gtr 18 64<|.nil) (t 19) [16]<|M 21 20<|x 29 21 false (a 22 1 1<|L 23 22<|a 24 1 1<|L 25 24<|B 26 .sub 25 1<|C 27 .and 23 26<|B 28 .neq 27 0<|.nil) (t 28) [21]<|M 12 29<|.nil)<|.cond (t 12) (R (o 2 .mov [c 17] []<|.nil)<|.ret) (R (O 31 (.loadA 8) 1<|O 32 (.callF 258) 31<|O 33 (.un .not) 32<|M 30 33<|.nil)<|.cond (t 30) (R (o 2 .mov [c 19] []<|.nil)<|.ret) (.skip)))))<|R (o 2 .mov [c 0] []<|.nil)<|.ret,true⟩
def p237:PFn:=⟨8,[.tmp 2],R (O 1 (.box 56 8) 0<|o 2 .mov [c 0] [2]<|.nil)<|.seq (.regD 3 (o 3 (.fad 0) [t 1] [2]<|L 4 3<|O 5 (.loadA 8) 1<|O 6 (.callF 259) 5<|C 7 .mul 4 6<|M 2 7<|.nil) [0,1,0,4,15,31])<|.ret,true⟩
def p238:PFn:=⟨19,[.tmp 4],R (o 4 .mov [c 0] [4]<|.nil)<|.seq (R (o 6 .mov [t 0] [4]<|O 7 (.len 0) 6<|o 8 .mov [c 0] []<|.nil)<|.block 0 (.loop [0,1,7,8] [4] (R (b 9 .lss [t 8,t 7] []<|.nil)<|.seq (.cond (t 9) (.skip) (.exit 0))<|.seq (.block 1 (R (m 10 8<|M 5 10<|.nil)<|R (m 11 1<|m 12 0<|m 13 5<|U 14 (.iad 2) [12,13]<|O 15 (.loadA 2) 14<|U 16 .callV [11,15]<|.nil)<|.cond (t 16) (R (M 17 5<|M 4 17<|.nil)<|.ret) (.skip)))<|.reg<|B 18 .add 8 1<|M 8 18<|.nil)))<|R (o 4 .mov [c (-1)] []<|.nil)<|.ret,true⟩
def p239:PFn:=⟨19,[.tmp 4],R (o 4 .mov [c 0] [4]<|.nil)<|.seq (R (o 6 .mov [t 0] [4]<|O 7 (.len 0) 6<|o 8 .mov [c 0] []<|.nil)<|.block 0 (.loop [0,1,7,8] [4] (R (b 9 .lss [t 8,t 7] []<|.nil)<|.seq (.cond (t 9) (.skip) (.exit 0))<|.seq (.block 1 (R (m 10 8<|M 5 10<|.nil)<|R (m 11 1<|m 12 0<|m 13 5<|U 14 (.iad 2) [12,13]<|O 15 (.loadA 2) 14<|U 16 .callV [11,15]<|.nil)<|.cond (t 16) (R (M 17 5<|M 4 17<|.nil)<|.ret) (.skip)))<|.reg<|B 18 .add 8 1<|M 8 18<|.nil)))<|R (o 4 .mov [c (-1)] []<|.nil)<|.ret,true⟩
def p240:PFn:=⟨19,[.tmp 4],R (o 4 .mov [c 0] [4]<|.nil)<|.seq (R (o 6 .mov [t 0] [4]<|O 7 (.len 0) 6<|o 8 .mov [c 0] []<|.nil)<|.block 0 (.loop [0,1,7,8] [4] (R (b 9 .lss [t 8,t 7] []<|.nil)<|.seq (.cond (t 9) (.skip) (.exit 0))<|.seq (.block 1 (R (m 10 8<|M 5 10<|.nil)<|R (m 11 1<|m 12 0<|m 13 5<|U 14 (.iad 13) [12,13]<|O 15 (.loadA 13) 14<|U 16 .callV [11,15]<|.nil)<|.cond (t 16) (R (M 17 5<|M 4 17<|.nil)<|.ret) (.skip)))<|.reg<|B 18 .add 8 1<|M 8 18<|.nil)))<|R (o 4 .mov [c (-1)] []<|.nil)<|.ret,true⟩
def p241:PFn:=⟨31,[.tmp 4,.tmp 5],R (O 2 (.box 77 2) 0<|o 4 .mov [cn] [4]<|o 5 .mov [c 0] [4,5]<|.nil)<|R (o 9 (.loadA 2) [t 2] [2,5]<|m 10 1<|U 11 (.callF 260) [9,10]<|M 8 11<|e 12 0 8 []<|O 13 (.ext 1) 8<|M 6 12<|M 7 13<|.nil)<|.seq (R (m 14 7<|B 15 .eql 14 0<|M 16 15<|x 20 16 true (m 17 6<|O 18 (.len 0) 17<|B 19 .gtr 18 0<|.nil) (t 19) [16]<|M 21 20<|x 26 21 true (m 22 6<|O 23 (.callF 261) 22<|M 24 1<|C 25 .neq 23 24<|.nil) (t 25) [1,21]<|.nil)<|.condJ [6,7] (t 26) (.reg<|o 7 .mov [c 20] []<|.nil) (.skip))<|.seq (R (m 27 7<|B 28 .neq 27 0<|.nil)<|.cond (t 28) (R (M 29 7<|o 4 .mov [cn] []<|.lax 4 [some 1]<|M 5 29<|.nil)<|.ret) (.skip))<|R (M 30 6<|M 4 30<|o 5 .mov [c 0] []<|.nil)<|.ret,true⟩
def p242:PFn:=⟨7,[.tmp 2],R (o 2 .mov [c 0] [2]<|.nil)<|.seq (R (o 3 .mov [t 0] [2]<|B 4 .lss 3 0<|.nil)<|.cond (t 4) (R (o 2 .mov [c 0] []<|.nil)<|.ret) (.skip))<|R (M 5 0<|B 6 .and 5 16<|M 2 6<|.nil)<|.ret,true⟩
def p243:PFn:=⟨17,[.tmp 2],R (O 1 (.box 194 5) 0<|o 2 .mov [c 0] [2]<|.nil)<|R (o 6 (.fad 0) [t 1] [2]<|O 7 (.loadA 3) 6<|O 8 (.callF 228) 7<|M 5 8<|e 9 0 5 []<|O 10 (.ext 1) 5<|o 3 .mov [t 9] [3,9]<|o 4 .mov [t 10] [3,10]<|.nil)<|R (M 11 4<|A 12 4 1<|L 13 12<|f 14 186 [t 13,c 2] [13]<|U 15 (.buildSl 35 1 2 [(J 0)] [0,1]) [11,14]<|O 16 (.callF 185) 15<|M 2 16<|.nil)<|.ret,true⟩
def p244:PFn:=⟨45,[.tmp 2],R (O 1 (.box 233 2) 0<|o 2 .mov [c 0] [2]<|.nil)<|.seq (.block 0 (R (o 5 (.fad 1) [t 1] [2]<|L 6 5<|B 7 .lss 6 0<|M 8 7<|x 12 8 false (a 9 1 1<|L 10 9<|B 11 .gtr 10 2<|.nil) (t 11) [8]<|M 4 12<|.nil)<|.cond (t 4) (R (o 2 .mov [c 2] []<|.nil)<|.ret) (R (a 14 0 1<|L 15 14<|O 16 (.len 1) 15<|B 17 .gtr 16 256<|M 13 17<|.nil)<|.cond (t 13) (R (o 2 .mov [c 5] []<|.nil)<|.ret) (.skip))))<|.seq (R (a 18 0 1<|L 19 18<|O 20 (.len 1) 19<|o 21 .mov [c 0] []<|.nil)<|.block 1 (.loop [1,20,21] [1,2] (R (b 22 .lss [t 21,t 20] []<|.nil)<|.seq (.cond (t 22) (.skip) (.exit 1))<|.seq (.block 2 (R (m 23 21<|M 3 23<|.nil)<|R (a 24 0 1<|L 25 24<|m 26 3<|U 27 .idxStr [25,26]<|b 28 .lss [t 27,.c (.v (.int .u8 32))] [27]<|M 29 28<|x 35 29 false (a 30 0 1<|L 31 30<|M 32 3<|U 33 .idxStr [31,32]<|b 34 .eql [t 33,.c (.v (.int .u8 127))] [33]<|.nil) (t 34) [3,29]<|.nil)<|.cond (t 35) (R (o 2 .mov [c 6] []<|.nil)<|.ret) (.skip)))<|.reg<|B 36 .add 21 1<|M 21 36<|.nil)))<|.seq (R (a 37 0 1<|L 38 37<|b 39 .eql [t 38,.c (.v (.string ⟨#[]⟩))] [38]<|M 40 39<|x 44 40 true (A 41 1 1<|L 42 41<|B 43 .eql 42 1<|.nil) (t 43) [1,40]<|.nil)<|.cond (t 44) (R (o 2 .mov [c 3] []<|.nil)<|.ret) (.skip))<|R (o 2 .mov [c 0] []<|.nil)<|.ret,true⟩
def p245:PFn:=⟨2,[.cellA 0 7],R (U 0 (.alloc 303 z4) []<|.nil)<|R (o 1 (.build z4 [(0,1),(1,1),(2,1),(3,1),(4,1),(5,1),(6,1)]) [c 0,c 2,c 4,c 5,c 7,c 9,c 11] []<|.sto (.store 7) [t 0,t 1] [1]<|.nil)<|.ret,true⟩
def p246:PFn:=⟨19,[.tmp 4,.tmp 5],R (O 2 (.box 77 2) 0<|o 4 .mov [cn] [4]<|o 5 .mov [c 0] [4,5]<|.nil)<|R (o 9 (.loadA 2) [t 2] [2,5]<|M 10 1<|U 11 (.callF 241) [9,10]<|M 8 11<|e 12 0 8 []<|O 13 (.ext 1) 8<|M 6 12<|M 7 13<|.nil)<|.seq (R (m 14 7<|B 15 .neq 14 0<|.nil)<|.cond (t 15) (R (M 16 7<|o 4 .mov [cn] []<|.lax 4 [some 1]<|M 5 16<|.nil)<|.ret) (.skip))<|R (M 17 6<|O 18 (.callF 262) 17<|M 4 18<|o 5 .mov [c 0] []<|.nil)<|.ret,true⟩
def p247:PFn:=⟨26,[.tmp 2],R (O 1 (.box 213 4) 0<|o 2 .mov [cf] [2]<|.nil)<|R (o 3 .mov [.c (.fn 263 [] [])] [2]<|.nil)<|R (m 4 3<|a 5 0 1<|L 6 5<|o 7 .callV [t 4,t 6,c 1023] [4,6]<|M 8 7<|x 13 8 true (m 9 3<|a 10 1 1<|L 11 10<|o 12 .callV [t 9,t 11,c 4398046511104] [9,11]<|.nil) (t 12) [8]<|M 14 13<|x 19 14 true (m 15 3<|a 16 2 1<|L 17 16<|o 18 .callV [t 15,t 17,c 127] [15,17]<|.nil) (t 18) [14]<|M 20 19<|x 25 20 true (M 21 3<|A 22 3 1<|L 23 22<|o 24 .callV [t 21,t 23,c 1] [21,23]<|.nil) (t 24) [1,3,20]<|M 2 25<|.nil)<|.ret,true⟩
def p248:PFn:=⟨9,[.tmp 2],R (o 2 .mov [cf] [2]<|.nil)<|R (o 3 .mov [t 0] [2]<|B 4 .eql 3 1<|M 5 4<|x 8 5 false (M 6 0<|B 7 .eql 6 7<|.nil) (t 7) [0,5]<|M 2 8<|.nil)<|.ret,true⟩
def p249:PFn:=⟨17,[.tmp 4],R (O 2 (.box 213 4) 0<|O 3 (.box 213 4) 1<|o 4 .mov [c 0] [4]<|.nil)<|.seq (.regD 3 (o 5 (.fad 0) [t 2] [4]<|L 6 5<|a 7 0 3<|L 8 7<|U 9 (.callF 265) [6,8]<|A 10 1 2<|L 11 10<|A 12 1 3<|L 13 12<|U 14 (.callF 265) [11,13]<|U 15 (.buildSl 3 1 2 [(J 0)] [0,1]) [9,14]<|O 16 (.callF 264) 15<|M 4 16<|.nil) [0,1,0,4,15,0,32,0,128,511,1023,2047,4095])<|.ret,true⟩
def p250:PFn:=⟨13,[.tmp 2],R (o 2 .mov [c 0] [2]<|.nil)<|.seq (R (o 3 .mov [t 0] [2]<|B 4 .lss 3 1<|M 5 4<|x 8 5 false (m 6 0<|B 7 .gtr 6 7<|.nil) (t 7) [5]<|.nil)<|.cond (t 8) (R (o 2 .mov [c 0] []<|.nil)<|.ret) (.skip))<|R (o 9 (.build z4 [(0,1),(1,1),(2,1),(3,1),(4,1),(5,1),(6,1)]) [c 1,c 2,c 2,c 4,c 4,c 6,c 7] []<|M 10 0<|B 11 .sub 10 1<|U 12 (.idxA 7 1 false) [9,11]<|M 2 12<|.nil)<|.ret,true⟩
def p251:PFn:=⟨19,[.tmp 4],R (O 2 (.box 215 9) 0<|O 3 (.box 215 9) 1<|o 4 .mov [cf] [4]<|.nil)<|R (o 5 (.fad 1) [t 2] [4]<|O 6 (.loadA 4) 5<|a 7 1 3<|O 8 (.loadA 4) 7<|U 9 (.callF 249) [6,8]<|B 10 .geq 9 0<|M 11 10<|x 18 11 true (A 12 5 2<|O 13 (.loadA 4) 12<|A 14 5 3<|O 15 (.loadA 4) 14<|U 16 (.callF 249) [13,15]<|B 17 .leq 16 0<|.nil) (t 17) [2,3,11]<|M 4 18<|.nil)<|.ret,true⟩
def p252:PFn:=⟨8,[.tmp 2],R (o 2 .mov [c 0] [2]<|.nil)<|.seq (.condL (cf) (R (o 3 .mov [t 0] [0,2]<|O 4 (.convI .u32) 3<|O 5 (.callF 266) 4<|M 2 5<|.nil)<|.ret) (.skip))<|R (o 6 .mov [t 0] [0,2]<|O 7 (.callF 267) 6<|M 2 7<|.nil)<|.ret,true⟩
def p253:PFn:=⟨9,[.tmp 3],R (O 2 (.box 60 22) 0<|o 3 .mov [cf] [3]<|.nil)<|R (o 4 (.fad 16) [t 2] [2,3]<|L 5 4<|L 6 1<|C 7 .and 5 6<|B 8 .neq 7 0<|M 3 8<|.nil)<|.ret,true⟩
def p258:PFn:=⟨50,[.tmp 2],R (O 1 (.box 56 8) 0<|o 2 .mov [cf] [2]<|.nil)<|.seq (R (o 7 (.fad 2) [t 1] [2]<|O 8 (.loadA 6) 7<|U 9 (.build z19 []) []<|U 10 (.eqA false [.i,.i,.i,.i,.i,.i]) [8,9]<|.nil)<|.cond (t 10) (R (o 2 .mov [ct] []<|.nil)<|.ret) (.skip))<|R (o 3 .mov [c 0] []<|o 4 .mov [c 0] []<|.nil)<|.seq (R (a 11 2 1<|O 12 (.loadA 6) 11<|o 13 .mov [c 0] []<|.nil)<|.block 0 (.loop [1,3,4,12,13] [1,2,3,4] (R (b 14 .lss [t 13,c 6] []<|.nil)<|.seq (.cond (t 14) (.skip) (.exit 0))<|.seq (.block 1 (R (m 15 13<|o 16 (.idxA 6 1 false) [t 12,t 13] []<|M 5 15<|M 6 16<|.nil)<|.block 2 (R (m 18 6<|B 19 .lss 18 0<|M 20 19<|x 23 20 false (m 21 6<|B 22 .gtr 21 64<|.nil) (t 22) [20]<|M 24 23<|x 32 24 false (m 25 6<|B 26 .gtr 25 0<|M 27 26<|x 31 27 true (M 28 5<|m 29 4<|C 30 .neq 28 29<|.nil) (t 30) [5,27]<|.nil) (t 31) [5,24]<|M 17 32<|.nil)<|.cond (t 17) (R (o 2 .mov [cf] []<|.nil)<|.ret) (R (m 34 6<|B 35 .gtr 34 0<|M 33 35<|.nil)<|.condJ [1,3,4,12,13] (t 33) (.reg<|M 36 3<|M 37 6<|C 38 .add 36 37<|M 39 4<|B 40 .add 39 1<|M 3 38<|M 4 40<|.nil) (.skip)))))<|.reg<|B 41 .add 13 1<|M 13 41<|.nil)))<|R (M 42 3<|A 43 0 1<|L 44 43<|C 45 .eql 42 44<|M 46 45<|x 49 46 true (M 47 4<|B 48 .geq 47 2<|.nil) (t 48) [4,46]<|M 2 49<|.nil)<|.ret,true⟩
def p259:PFn:=⟨6,[.tmp 2],R (O 1 (.box 56 8) 0<|o 2 .mov [c 0] [2]<|.nil)<|R (o 3 (.fad 1) [t 1] [1,2]<|L 4 3<|b 5 .quo [c 1935360,t 4] [4]<|M 2 5<|.nil)<|.ret,true⟩
def p260:PFn:=⟨45,[.tmp 4,.tmp 5],R (O 2 (.box 77 2) 0<|o 4 .mov [cn] [4]<|o 5 .mov [c 0] [4,5]<|.nil)<|.seq (.block 0 (R (o 8 .mov [t 1] [5]<|B 9 .lss 8 1<|M 10 9<|x 13 10 false (m 11 1<|B 12 .gtr 11 15482880<|.nil) (t 12) [10]<|M 7 13<|.nil)<|.cond (t 7) (R (o 4 .mov [cn] []<|.lax 4 [some 1]<|o 5 .mov [c 2] []<|.nil)<|.ret) (R (a 15 0 2<|L 16 15<|O 17 (.len 0) 16<|B 18 .gtr 17 128<|M 14 18<|.nil)<|.cond (t 14) (R (o 4 .mov [cn] []<|.lax 4 [some 1]<|o 5 .mov [c 9] []<|.nil)<|.ret) (.skip))))<|.seq (R (o 19 (.loadA 2) [t 2] []<|O 20 (.callF 270) 19<|M 21 20<|x 26 21 true (a 22 0 2<|L 23 22<|O 24 (.len 0) 23<|B 25 .eql 24 1<|.nil) (t 25) [21]<|.nil)<|.cond (t 26) (.seq (R (a 27 0 2<|L 28 27<|o 29 (.iad 13) [t 28,c 0] [28]<|O 30 (.loadA 13) 29<|O 31 (.callF 121) 30<|M 6 31<|.nil)<|R (m 32 6<|B 33 .neq 32 0<|.nil)<|.cond (t 33) (R (M 34 6<|o 4 .mov [cn] []<|.lax 4 [some 1]<|M 5 34<|.nil)<|.ret) (.skip))<|.seq (R (A 35 1 2<|L 36 35<|O 37 (.len 0) 36<|B 38 .gtr 37 0<|.nil)<|.cond (t 38) (R (o 4 .mov [cn] []<|.lax 4 [some 1]<|o 5 .mov [c 21] []<|.nil)<|.ret) (.skip))<|R (M 39 1<|O 40 (.buildSl 3 1 1 [(J 0)] [0]) 39<|M 4 40<|o 5 .mov [c 0] []<|.nil)<|.ret) (.skip))<|R (O 41 (.loadA 2) 2<|O 42 (.callF 271) 41<|e 43 0 42 []<|O 44 (.ext 1) 42<|M 4 43<|M 5 44<|.nil)<|.ret,true⟩
def p261:PFn:=⟨17,[.tmp 2],R (o 2 .mov [c 0] [2]<|.nil)<|R (o 3 .mov [c 0] [2]<|.nil)<|.seq (R (M 6 0<|o 7 (.len 0) [t 6] []<|o 8 .mov [c 0] []<|.nil)<|.block 0 (.loop [3,6,7,8] [3] (R (b 9 .lss [t 8,t 7] []<|.nil)<|.seq (.cond (t 9) (.skip) (.exit 0))<|.seq (.block 1 (R (o 10 (.iad 1) [t 6,t 8] []<|L 11 10<|M 5 11<|.nil)<|.reg<|M 12 3<|M 13 5<|C 14 .add 12 13<|M 3 14<|.nil))<|.reg<|B 15 .add 8 1<|M 8 15<|.nil)))<|R (M 16 3<|M 2 16<|.nil)<|.ret,true⟩
def p262:PFn:=⟨29,[.tmp 2],R (o 2 .mov [cn] [2]<|.nil)<|R (o 5 .mov [t 0] [2]<|O 6 (.len 0) 5<|o 7 (.mksl 3 1 8 [(.int .i64 0)]) [t 6,t 6] [6]<|M 3 7<|.nil)<|.seq (R (o 4 .mov [c 1] []<|.nil)<|.block 0 (.loop [0,3,4] [3] (.seq (R (m 8 4<|m 9 0<|O 10 (.len 0) 9<|C 11 .lss 8 10<|.nil)<|.cond (t 11) (.skip) (.exit 0))<|.seq (.block 1 (.regD 3 (m 14 3<|m 15 4<|m 16 3<|m 17 4<|B 18 .sub 17 1<|U 19 (.iad 1) [16,18]<|L 20 19<|m 21 0<|m 22 4<|B 23 .sub 22 1<|U 24 (.iad 1) [21,23]<|L 25 24<|C 26 .add 20 25<|U 27 (.iad 1) [14,15]<|.sto (.store 1) [t 27,t 26] [26,27]<|.nil) [0,0,0,0,8,28,60,0,0,256,896,1920,4092,8191,16383]))<|.reg<|M 12 4<|B 13 .add 12 1<|M 4 13<|.nil)))<|R (M 28 3<|M 2 28<|.nil)<|.ret,true⟩
def p263:PFn:=⟨12,[.tmp 4],R (o 4 .mov [cf] [4]<|.nil)<|R (o 5 .mov [t 0] [4]<|B 6 .geq 5 0<|M 7 6<|x 11 7 true (M 8 0<|M 9 1<|C 10 .leq 8 9<|.nil) (t 10) [0,1,7]<|M 4 11<|.nil)<|.ret,true⟩
def p264:PFn:=⟨18,[.tmp 2],R (o 2 .mov [c 0] [2]<|.nil)<|R (o 3 .mov [c 0] [2]<|.nil)<|.seq (R (M 6 0<|o 7 (.len 0) [t 6] []<|o 8 .mov [c 0] []<|.nil)<|.block 0 (.loop [3,6,7,8] [2,3] (R (b 9 .lss [t 8,t 7] []<|.nil)<|.seq (.cond (t 9) (.skip) (.exit 0))<|.seq (.block 1 (R (o 10 (.iad 1) [t 6,t 8] []<|L 11 10<|M 5 11<|.nil)<|R (m 12 5<|m 13 3<|C 14 .neq 12 13<|.nil)<|.cond (t 14) (R (M 15 5<|M 2 15<|.nil)<|.ret) (.skip)))<|.reg<|B 16 .add 8 1<|M 8 16<|.nil)))<|R (M 17 3<|M 2 17<|.nil)<|.ret,true⟩
def p265:PFn:=⟨20,[.tmp 4],R (o 4 .mov [c 0] [4]<|.nil)<|R (o 7 .mov [t 0] [4]<|O 8 (.callF 272) 7<|M 5 8<|.nil)<|R (m 9 1<|O 10 (.callF 272) 9<|M 6 10<|.nil)<|.seq (R (M 11 5<|.nil)<|.cond (t 11) (.seq (R (M 12 6<|.nil)<|.cond (t 12) (R (o 4 .mov [c 0] []<|.nil)<|.ret) (.skip))<|R (o 4 .mov [c (-1)] []<|.nil)<|.ret) (.skip))<|.seq (R (M 13 6<|.nil)<|.cond (t 13) (R (o 4 .mov [c 1] []<|.nil)<|.ret) (.skip))<|.seq (R (m 14 0<|m 15 1<|C 16 .lss 14 15<|.nil)<|.cond (t 16) (R (o 4 .mov [c (-1)] []<|.nil)<|.ret) (.skip))<|.seq (R (M 17 0<|M 18 1<|C 19 .gtr 17 18<|.nil)<|.cond (t 19) (R (o 4 .mov [c 1] []<|.nil)<|.ret) (.skip))<|R (o 4 .mov [c 0] []<|.nil)<|.ret,true⟩
def p267:PFn:=⟨25,[.tmp 2],R (o 2 .mov [c 0] []<|.nil)<|.seq (R (m 3 0<|b 4 .geq [t 3,.c (.v (.int .u64 4294967296))] [3]<|.nil)<|.condJ [0,2] (t 4) (R (M 5 0<|b 6 .shr [t 5,.c (.v (.int .u64 32))] [5]<|M 0 6<|.nil)<|.reg<|o 2 .mov [c 32] []<|.nil) (.skip))<|.seq (R (m 7 0<|b 8 .geq [t 7,.c (.v (.int .u64 65536))] [7]<|.nil)<|.condJ [0,2] (t 8) (R (M 9 0<|b 10 .shr [t 9,.c (.v (.int .u64 16))] [9]<|M 0 10<|.nil)<|.reg<|M 11 2<|B 12 .add 11 16<|M 2 12<|.nil) (.skip))<|.seq (R (m 13 0<|b 14 .geq [t 13,.c (.v (.int .u64 256))] [13]<|.nil)<|.condJ [0,2] (t 14) (R (M 15 0<|b 16 .shr [t 15,.c (.v (.int .u64 8))] [15]<|M 0 16<|.nil)<|.reg<|M 17 2<|B 18 .add 17 8<|M 2 18<|.nil) (.skip))<|R (M 19 2<|M 20 0<|O 21 (.convI .u8) 20<|o 22 .idxStr [.c (.v (.string ⟨#[0,1,2,2,3,3,3,3,4,4,4,4,4,4,4,4,5,5,5,5,5,5,5,5,5,5,5,5,5,5,5,5,6,6,6,6,6,6,6,6,6,6,6,6,6,6,6,6,6,6,6,6,6,6,6,6,6,6,6,6,6,6,6,6,7,7,7,7,7,7,7,7,7,7,7,7,7,7,7,7,7,7,7,7,7,7,7,7,7,7,7,7,7,7,7,7,7,7,7,7,7,7,7,7,7,7,7,7,7,7,7,7,7,7,7,7,7,7,7,7,7,7,7,7,7,7,7,7,8,8,8,8,8,8,8,8,8,8,8,8,8,8,8,8,8,8,8,8,8,8,8,8,8,8,8,8,8,8,8,8,8,8,8,8,8,8,8,8,8,8,8,8,8,8,8,8,8,8,8,8,8,8,8,8,8,8,8,8,8,8,8,8,8,8,8,8,8,8,8,8,8,8,8,8,8,8,8,8,8,8,8,8,8,8,8,8,8,8,8,8,8,8,8,8,8,8,8,8,8,8,8,8,8,8,8,8,8,8,8,8,8,8,8,8,8,8,8,8,8,8,8,8,8,8,8,8]⟩)),t 21] [21]<|O 23 (.convI .i64) 22<|C 24 .add 19 23<|M 2 24<|.nil)<|.ret,true⟩
def p270:PFn:=⟨15,[.tmp 2],R (O 1 (.box 77 2) 0<|o 2 .mov [cf] [2]<|.nil)<|R (o 3 (.fad 0) [t 1] [2]<|L 4 3<|O 5 (.len 0) 4<|B 6 .gtr 5 0<|M 7 6<|x 14 7 true (A 8 0 1<|L 9 8<|o 10 (.iad 13) [t 9,c 0] [9]<|A 11 2 10<|L 12 11<|B 13 .eql 12 3<|.nil) (t 13) [1,7]<|M 2 14<|.nil)<|.ret,true⟩
def p271:PFn:=⟨62,[.tmp 2,.tmp 3],R (O 1 (.box 77 2) 0<|o 2 .mov [cn] [2]<|o 3 .mov [c 0] [2,3]<|.nil)<|.seq (R (o 12 (.fad 0) [t 1] [3]<|L 13 12<|o 14 (.len 0) [t 13] []<|o 15 .mov [c 0] []<|.nil)<|.block 0 (.loop [1,13,14,15] [1,2,3] (R (b 16 .lss [t 15,t 14] []<|.nil)<|.seq (.cond (t 16) (.skip) (.exit 0))<|.seq (.block 1 (R (m 17 15<|o 18 (.iad 13) [t 13,t 15] []<|O 19 (.loadA 13) 18<|U 5 (.alloc 121 z11) []<|M 4 17<|.sto (.store 13) [t 5,t 19] [19]<|.nil)<|.seq (R (o 20 (.loadA 13) [t 5] []<|O 21 (.callF 121) 20<|M 6 21<|.nil)<|R (m 22 6<|B 23 .neq 22 0<|.nil)<|.cond (t 23) (R (M 24 6<|o 2 .mov [cn] []<|.lax 2 [some 1]<|M 3 24<|.nil)<|.ret) (.skip))<|R (A 25 2 5<|L 26 25<|B 27 .eql 26 3<|M 28 27<|x 37 28 true (M 29 4<|B 30 .gtr 29 0<|M 31 30<|x 36 31 false (a 32 0 1<|L 33 32<|O 34 (.len 0) 33<|B 35 .gtr 34 1<|.nil) (t 35) [31]<|.nil) (t 36) [4,28]<|.nil)<|.cond (t 37) (R (o 2 .mov [cn] []<|.lax 2 [some 1]<|o 3 .mov [c 11] []<|.nil)<|.ret) (.skip)))<|.reg<|B 38 .add 15 1<|M 15 38<|.nil)))<|R (a 39 0 1<|L 40 39<|O 41 (.callF 274) 40<|M 7 41<|.nil)<|R (a 43 1 1<|L 44 43<|m 45 7<|U 46 (.callF 275) [44,45]<|M 42 46<|e 47 0 42 []<|O 48 (.ext 1) 42<|M 8 47<|M 9 48<|.nil)<|.seq (R (m 49 9<|B 50 .neq 49 0<|.nil)<|.cond (t 50) (R (M 51 9<|o 2 .mov [cn] []<|.lax 2 [some 1]<|M 3 51<|.nil)<|.ret) (.skip))<|.seq (R (A 53 1 1<|L 54 53<|M 55 7<|U 56 (.callF 276) [54,55]<|M 52 56<|e 57 0 52 []<|O 58 (.ext 1) 52<|o 10 .mov [t 57] [10,57]<|o 11 .mov [t 58] [10,58]<|.nil)<|R (M 59 11<|B 60 .neq 59 0<|.nil)<|.cond (t 60) (R (o 2 .mov [cn] []<|.lax 2 [some 1]<|o 3 .mov [c 21] []<|.nil)<|.ret) (.skip))<|R (M 61 8<|M 2 61<|o 3 .mov [c 0] []<|.nil)<|.ret,true⟩
def p272:PFn:=⟨6,[.tmp 2],R (o 2 .mov [cf] [2]<|.nil)<|R (o 3 .mov [t 0] [2]<|M 4 0<|C 5 .neq 3 4<|M 2 5<|.nil)<|.ret,true⟩
def p274:PFn:=⟨26,[.tmp 2],R (o 2 .mov [cn] [2]<|.nil)<|R (o 6 .mov [t 0] [2]<|O 7 (.len 0) 6<|o 8 (.mksl 3 1 8 [(.int .i64 0)]) [t 7,t 7] [7]<|M 3 8<|.nil)<|.seq (R (M 9 0<|o 10 (.len 0) [t 9] []<|o 11 .mov [c 0] []<|.nil)<|.block 0 (.loop [3,9,10,11] [3] (R (b 12 .lss [t 11,t 10] []<|.nil)<|.seq (.cond (t 12) (.skip) (.exit 0))<|.seq (.block 1 (R (m 13 11<|o 14 (.iad 13) [t 9,t 11] []<|O 15 (.loadA 13) 14<|U 5 (.alloc 121 z11) []<|M 4 13<|.sto (.store 13) [t 5,t 15] [15]<|.nil)<|.reg<|m 17 3<|M 18 4<|O 19 (.loadA 13) 5<|O 20 (.callF 278) 19<|M 16 20<|e 21 0 16 []<|e 22 1 16 [16,22]<|o 23 (.iad 1) [t 17,t 18] [17,18,22]<|.sto (.store 1) [t 23,t 21] [21,23]<|.nil))<|.reg<|B 24 .add 11 1<|M 11 24<|.nil)))<|R (M 25 3<|M 2 25<|.nil)<|.ret,true⟩
def p275:PFn:=⟨45,[.tmp 4,.tmp 5],R (o 4 .mov [cn] [4]<|o 5 .mov [c 0] [4,5]<|.nil)<|.seq (R (o 12 .mov [t 0] [5]<|m 13 1<|O 14 (.len 0) 13<|U 15 (.callF 279) [12,14]<|M 6 15<|.nil)<|R (m 16 6<|B 17 .neq 16 0<|.nil)<|.cond (t 17) (R (M 18 6<|o 4 .mov [cn] []<|.lax 4 [some 1]<|M 5 18<|.nil)<|.ret) (.skip))<|R (m 19 1<|O 20 (.len 0) 19<|o 21 (.mksl 3 1 8 [(.int .i64 0)]) [c 0,t 20] [20]<|M 7 21<|.nil)<|.seq (R (M 22 1<|o 23 (.len 0) [t 22] []<|o 24 .mov [c 0] []<|.nil)<|.block 0 (.loop [0,7,22,23,24] [4,5,7] (R (b 25 .lss [t 24,t 23] []<|.nil)<|.seq (.cond (t 25) (.skip) (.exit 0))<|.seq (.block 1 (R (m 26 24<|o 27 (.iad 1) [t 22,t 24] []<|L 28 27<|M 8 26<|M 9 28<|.nil)<|R (m 30 0<|M 31 8<|M 32 9<|U 33 (.callF 280) [30,31,32]<|M 29 33<|e 34 0 29 []<|O 35 (.ext 1) 29<|M 10 34<|M 11 35<|.nil)<|.seq (R (m 36 11<|B 37 .neq 36 0<|.nil)<|.cond (t 37) (R (M 38 11<|o 4 .mov [cn] []<|.lax 4 [some 1]<|M 5 38<|.nil)<|.ret) (.skip))<|.reg<|M 39 7<|M 40 10<|O 41 (.buildSl 3 1 1 [(J 0)] [0]) 40<|U 42 (.append 3 1 8 [(J 0)] false) [39,41]<|M 7 42<|.nil))<|.reg<|B 43 .add 24 1<|M 24 43<|.nil)))<|R (M 44 7<|M 4 44<|o 5 .mov [c 0] []<|.nil)<|.ret,true⟩
def p276:PFn:=⟨44,[.tmp 4,.tmp 5],R (o 4 .mov [cn] [4]<|o 5 .mov [c 0] [4,5]<|.nil)<|.seq (R (o 13 .mov [t 0] [5]<|m 14 1<|U 15 (.callF 275) [13,14]<|M 12 15<|e 16 0 12 []<|O 17 (.ext 1) 12<|o 6 .mov [t 16] [6,16]<|o 7 .mov [t 17] [6,17]<|.nil)<|R (m 18 7<|B 19 .neq 18 0<|.nil)<|.cond (t 19) (R (M 20 7<|o 4 .mov [cn] []<|.lax 4 [some 1]<|M 5 20<|.nil)<|.ret) (.skip))<|R (m 21 0<|O 22 (.len 0) 21<|o 23 (.mksl 3 1 8 [(.int .i64 0)]) [c 0,t 22] [22]<|M 8 23<|.nil)<|.seq (R (m 24 0<|O 25 (.len 0) 24<|o 26 .mov [c 0] []<|.nil)<|.block 0 (.loop [0,1,8,25,26] [4,5,8] (R (b 27 .lss [t 26,t 25] []<|.nil)<|.seq (.cond (t 27) (.skip) (.exit 0))<|.seq (.block 1 (R (m 28 26<|M 9 28<|.nil)<|R (m 30 0<|M 31 9<|m 32 1<|U 33 (.callF 281) [30,31,32]<|M 29 33<|e 34 0 29 []<|O 35 (.ext 1) 29<|M 10 34<|M 11 35<|.nil)<|.seq (R (M 36 11<|O 37 (.un .not) 36<|.nil)<|.cond (t 37) (R (o 4 .mov [cn] []<|.lax 4 [some 1]<|o 5 .mov [c 21] []<|.nil)<|.ret) (.skip))<|.reg<|M 38 8<|M 39 10<|O 40 (.buildSl 3 1 1 [(J 0)] [0]) 39<|U 41 (.append 3 1 8 [(J 0)] false) [38,40]<|M 8 41<|.nil))<|.reg<|B 42 .add 26 1<|M 26 42<|.nil)))<|R (M 43 8<|M 4 43<|o 5 .mov [c 0] []<|.nil)<|.ret,true⟩
def p278:PFn:=⟨20,[.tmp 2,.tmp 3],R (O 1 (.box 121 13) 0<|o 2 .mov [c 0] [2]<|o 3 .mov [c 0] [2,3]<|.nil)<|.seq (R (o 5 (.loadA 13) [t 1] [3]<|O 6 (.callF 121) 5<|M 4 6<|.nil)<|R (m 7 4<|B 8 .neq 7 0<|M 9 8<|x 13 9 false (a 10 2 1<|L 11 10<|B 12 .eql 11 3<|.nil) (t 12) [9]<|.nil)<|.cond (t 13) (R (M 14 4<|o 2 .mov [c 0] []<|M 3 14<|.nil)<|.ret) (.skip))<|R (A 15 3 1<|O 16 (.loadA 2) 15<|O 17 (.callF 282) 16<|e 18 0 17 []<|O 19 (.ext 1) 17<|M 2 18<|M 3 19<|.nil)<|.ret,true⟩
def p279:PFn:=⟨85,[.tmp 4],R (o 4 .mov [c 0] [4]<|.nil)<|.seq (R (o 9 .mov [t 1] [4]<|B 10 .lss 9 0<|M 11 10<|x 14 11 false (m 12 1<|B 13 .gtr 12 128<|.nil) (t 13) [11]<|.nil)<|.cond (t 14) (R (o 4 .mov [c 2] []<|.nil)<|.ret) (.skip))<|.seq (R (m 15 0<|O 16 (.len 0) 15<|B 17 .gtr 16 16<|.nil)<|.cond (t 17) (R (o 4 .mov [c 9] []<|.nil)<|.ret) (.skip))<|R (U 5 (.alloc 75 [ZN]) []<|.ownc 5 0 226 4 true<|.nil)<|R (O 18 (.mkfn (.func 283) 0) 5<|M 6 18<|.nil)<|.seq (R (m 19 0<|o 20 (.len 0) [t 19] []<|o 21 .mov [c 0] []<|.nil)<|.block 0 (.loop [0,1,6,19,20,21] [4] (R (b 22 .lss [t 21,t 20] []<|.nil)<|.seq (.cond (t 22) (.skip) (.exit 0))<|.seq (.block 1 (R (m 23 21<|o 24 (.iad 4) [t 19,t 21] []<|O 25 (.loadA 4) 24<|U 8 (.alloc 226 z12) []<|M 7 23<|.sto (.store 4) [t 8,t 25] [25]<|.nil)<|.seq (R (a 26 1 8<|L 27 26<|B 28 .lss 27 1<|M 29 28<|x 34 29 false (a 30 1 8<|L 31 30<|m 32 1<|C 33 .gtr 31 32<|.nil) (t 33) [29]<|M 35 34<|x 39 35 false (a 36 0 8<|L 37 36<|B 38 .lss 37 0<|.nil) (t 38) [35]<|M 40 39<|x 48 40 false (a 41 0 8<|L 42 41<|m 43 1<|a 44 1 8<|L 45 44<|C 46 .sub 43 45<|C 47 .gtr 42 46<|.nil) (t 47) [40]<|M 49 48<|x 54 49 false (a 50 2 8<|L 51 50<|O 52 (.callF 285) 51<|O 53 (.un .not) 52<|.nil) (t 53) [49]<|M 55 54<|x 60 55 false (a 56 3 8<|L 57 56<|O 58 (.callF 285) 57<|O 59 (.un .not) 58<|.nil) (t 59) [55]<|M 61 60<|x 67 61 false (a 62 2 8<|L 63 62<|a 64 3 8<|L 65 64<|C 66 .eql 63 65<|.nil) (t 66) [61]<|.nil)<|.cond (t 67) (R (o 4 .mov [c 2] []<|.nil)<|.ret) (.skip))<|.seq (.seq (.regD 3 (m 68 7<|B 69 .gtr 68 0<|M 70 69<|x 79 70 true (m 71 0<|M 72 7<|B 73 .sub 72 1<|U 74 (.iad 4) [71,73]<|O 75 (.loadA 4) 74<|o 76 (.loadA 4) [t 8] []<|U 77 (.callF 286) [75,76]<|B 78 .gtr 77 0<|.nil) (t 78) [7,70]<|.nil) [0,1,3,7,7,23,63,127,7,511,1023,2047])<|.cond (t 79) (R (o 4 .mov [c 25] []<|.nil)<|.ret) (.skip))<|R (m 80 6<|O 81 (.loadA 4) 8<|U 82 .callV [80,81]<|O 83 (.un .not) 82<|.nil)<|.cond (t 83) (R (o 4 .mov [c 21] []<|.nil)<|.ret) (.skip)))<|.reg<|B 84 .add 21 1<|M 21 84<|.nil)))<|R (o 4 .mov [c 0] []<|.nil)<|.ret,true⟩
def p280:PFn:=⟨33,[.tmp 6,.tmp 7],R (o 6 .mov [c 0] [6]<|o 7 .mov [c 0] [6,7]<|.nil)<|.seq (R (o 10 .mov [t 2] [7]<|B 11 .lss 10 0<|M 12 11<|x 15 12 false (m 13 2<|B 14 .gtr 13 7741440<|.nil) (t 14) [12]<|.nil)<|.cond (t 15) (R (o 6 .mov [c 0] []<|o 7 .mov [c 2] []<|.nil)<|.ret) (.skip))<|R (M 17 0<|M 18 1<|U 19 (.callF 287) [17,18]<|M 16 19<|e 20 0 16 []<|O 21 (.ext 1) 16<|M 8 20<|M 9 21<|.nil)<|.seq (R (m 22 2<|m 23 8<|C 24 .mul 22 23<|m 25 9<|C 26 .rem 24 25<|B 27 .neq 26 0<|.nil)<|.cond (t 27) (R (o 6 .mov [c 0] []<|o 7 .mov [c 16] []<|.nil)<|.ret) (.skip))<|R (M 28 2<|M 29 8<|C 30 .mul 28 29<|M 31 9<|C 32 .quo 30 31<|M 6 32<|o 7 .mov [c 0] []<|.nil)<|.ret,true⟩
def p281:PFn:=⟨57,[.tmp 6,.tmp 7],R (o 6 .mov [c 0] [6]<|o 7 .mov [cf] [6,7]<|.nil)<|R (o 14 .mov [t 0] [7]<|m 15 1<|U 16 (.iad 4) [14,15]<|O 17 (.loadA 4) 16<|U 8 (.alloc 226 z12) []<|.sto (.store 4) [t 8,t 17] [17]<|.nil)<|R (o 9 .mov [c 0] []<|.nil)<|.seq (R (a 18 0 8<|L 19 18<|M 10 19<|.nil)<|.block 0 (.loop [0,1,2,8,9,10] [6,7,8,9] (.seq (R (m 20 10<|o 21 (.loadA 4) [t 8] []<|O 22 (.callF 284) 21<|C 23 .lss 20 22<|.nil)<|.cond (t 23) (.skip) (.exit 0))<|.seq (.block 1 (.seq (.regD 3 (m 27 0<|m 28 1<|B 29 .add 28 1<|U 30 (.slc 4 true false false) [27,29]<|m 31 10<|m 32 2<|m 33 10<|U 34 (.iad 1) [32,33]<|L 35 34<|U 36 (.callF 280) [30,31,35]<|M 26 36<|e 37 0 26 []<|O 38 (.ext 1) 26<|M 11 37<|M 12 38<|.nil) [0,0,2,7,0,0,0,96,224,511,1023,2047,2047,4095,16383])<|.seq (R (M 39 12<|B 40 .neq 39 0<|.nil)<|.cond (t 40) (R (o 6 .mov [c 0] []<|o 7 .mov [cf] []<|.nil)<|.ret) (.skip))<|.reg<|M 41 9<|M 42 11<|C 43 .add 41 42<|M 9 43<|.nil))<|.reg<|M 24 10<|B 25 .add 24 1<|M 10 25<|.nil)))<|.seq (R (o 13 .mov [c (-1)] []<|.nil)<|.block 2 (.loop [8,9,13] [6,7] (.seq (R (m 44 13<|B 45 .leq 44 8<|.nil)<|.cond (t 45) (.skip) (.exit 2))<|.seq (.block 3 (.seq (.regD 3 (m 48 9<|a 49 2 8<|L 50 49<|m 51 13<|B 52 .add 51 1<|b 53 .shr [c 3870720,t 52] [52]<|C 54 .mul 50 53<|C 55 .eql 48 54<|.nil) [0,0,2,0,8,24,62,127])<|.cond (t 55) (R (M 56 13<|M 6 56<|o 7 .mov [ct] []<|.nil)<|.ret) (.skip)))<|.reg<|M 46 13<|B 47 .add 46 1<|M 13 47<|.nil)))<|R (o 6 .mov [c 0] []<|o 7 .mov [cf] []<|.nil)<|.ret,true⟩
def p282:PFn:=⟨12,[.tmp 2,.tmp 3],R (O 1 (.box 116 2) 0<|o 2 .mov [c 0] [2]<|o 3 .mov [c 0] [2,3]<|.nil)<|.seq (R (o 5 (.loadA 2) [t 1] [3]<|O 6 (.callF 189) 5<|M 4 6<|.nil)<|R (m 7 4<|B 8 .neq 7 0<|.nil)<|.cond (t 8) (R (M 9 4<|o 2 .mov [c 0] []<|M 3 9<|.nil)<|.ret) (.skip))<|R (O 10 (.loadA 2) 1<|O 11 (.callF 288) 10<|M 2 11<|o 3 .mov [c 0] []<|.nil)<|.ret,true⟩
def p283:PFn:=⟨48,[.tmp 3],R (O 2 (.box 226 4) 0<|o 3 .mov [cf] [3]<|.nil)<|.seq (.block 0 (.loop [1,2] [1,2] (.seq (.seq (.regD 3 (o 5 .loadS [t 1] []<|O 6 (.len 0) 5<|B 7 .gtr 6 0<|M 8 7<|x 19 8 true (o 9 .loadS [t 1] []<|o 10 .loadS [t 1] []<|O 11 (.len 0) 10<|B 12 .sub 11 1<|U 13 (.iad 4) [9,12]<|O 14 (.loadA 4) 13<|O 15 (.callF 284) 14<|a 16 0 2<|L 17 16<|C 18 .leq 15 17<|.nil) (t 18) [8]<|.nil) [0,1,3,7,15,15,47,111,255,511,1023,15,2063,8191,16383])<|.cond (t 19) (.skip) (.exit 0))<|.block 1 (.reg<|o 20 .loadS [t 1] []<|o 21 .loadS [t 1] []<|O 22 (.len 0) 21<|B 23 .sub 22 1<|U 24 (.slc 4 false true false) [20,23]<|.sto (.store 1) [t 1,t 24] [24]<|.nil))))<|.seq (R (o 25 .loadS [t 1] []<|O 26 (.len 0) 25<|M 4 26<|.nil)<|.seq (.regD 3 (m 27 4<|B 28 .eql 27 3<|M 29 28<|x 43 29 false (m 30 4<|B 31 .gtr 30 0<|M 32 31<|x 42 32 true (o 33 (.loadA 4) [t 2] []<|O 34 (.callF 284) 33<|o 35 .loadS [t 1] []<|M 36 4<|B 37 .sub 36 1<|U 38 (.iad 4) [35,37]<|O 39 (.loadA 4) 38<|O 40 (.callF 284) 39<|C 41 .gtr 34 40<|.nil) (t 41) [4,32]<|.nil) (t 42) [4,29]<|.nil) [0,1,3,7,15,31,63,127,63,63,575,1855,3903,8191,16383,32767,65535])<|.cond (t 43) (R (o 3 .mov [cf] []<|.nil)<|.ret) (.skip))<|R (o 44 .loadS [t 1] []<|O 45 (.loadA 4) 2<|O 46 (.buildSl 226 4 1 z12 [0]) 45<|U 47 (.append 226 4 32 z12 false) [44,46]<|.sto (.store 1) [t 1,t 47] [1,47]<|.nil)<|R (o 3 .mov [ct] []<|.nil)<|.ret,true⟩
def p284:PFn:=⟨8,[.tmp 2],R (O 1 (.box 226 4) 0<|o 2 .mov [c 0] [2]<|.nil)<|R (o 3 (.fad 0) [t 1] [2]<|L 4 3<|A 5 1 1<|L 6 5<|C 7 .add 4 6<|M 2 7<|.nil)<|.ret,true⟩
def p285:PFn:=⟨9,[.tmp 2],R (o 2 .mov [cf] [2]<|.nil)<|R (o 3 .mov [t 0] [2]<|B 4 .geq 3 1<|M 5 4<|x 8 5 true (M 6 0<|B 7 .leq 6 32<|.nil) (t 7) [0,5]<|M 2 8<|.nil)<|.ret,true⟩
def p286:PFn:=⟨25,[.tmp 4],R (O 2 (.box 226 4) 0<|O 3 (.box 226 4) 1<|o 4 .mov [c 0] [4]<|.nil)<|.seq (R (o 5 (.fad 0) [t 2] [4]<|L 6 5<|a 7 0 3<|L 8 7<|C 9 .neq 6 8<|.nil)<|.cond (t 9) (.seq (R (A 10 0 2<|L 11 10<|A 12 0 3<|L 13 12<|C 14 .lss 11 13<|.nil)<|.cond (t 14) (R (o 4 .mov [c (-1)] []<|.nil)<|.ret) (.skip))<|R (o 4 .mov [c 1] []<|.nil)<|.ret) (.skip))<|.seq (R (a 15 1 2<|L 16 15<|a 17 1 3<|L 18 17<|C 19 .neq 16 18<|.nil)<|.cond (t 19) (.seq (R (A 20 1 2<|L 21 20<|A 22 1 3<|L 23 22<|C 24 .gtr 21 23<|.nil)<|.cond (t 24) (R (o 4 .mov [c (-1)] []<|.nil)<|.ret) (.skip))<|R (o 4 .mov [c 1] []<|.nil)<|.ret) (.skip))<|R (o 4 .mov [c 0] []<|.nil)<|.ret,true⟩
def p287:PFn:=⟨38,[.tmp 4,.tmp 5],R (o 4 .mov [c 0] [4]<|o 5 .mov [c 0] [4,5]<|.nil)<|R (o 4 .mov [c 1] [5]<|o 5 .mov [c 1] []<|.nil)<|.seq (R (M 9 0<|o 10 (.len 0) [t 9] []<|o 11 .mov [c 0] []<|.nil)<|.block 0 (.loop [1,4,5,9,10,11] [4,5] (R (b 12 .lss [t 11,t 10] []<|.nil)<|.seq (.cond (t 12) (.skip) (.exit 0))<|.seq (.block 1 (R (o 13 (.iad 4) [t 9,t 11] []<|O 14 (.loadA 4) 13<|U 7 (.alloc 226 z12) []<|.sto (.store 4) [t 7,t 14] [14]<|.nil)<|R (o 15 (.loadA 4) [t 7] []<|m 16 1<|U 17 (.callF 289) [15,16]<|.nil)<|.condJ [1,4,5,9,10,11] (t 17) (.seq (.regD 3 (M 18 4<|a 19 3 7<|L 20 19<|C 21 .mul 18 20<|M 22 5<|A 23 2 7<|L 24 23<|C 25 .mul 22 24<|M 4 21<|M 5 25<|.nil) [0,0,2,7,0,0,32,112,15,511])<|R (m 26 4<|m 27 5<|U 28 (.callF 290) [26,27]<|M 8 28<|.nil)<|.regD 3 (M 29 4<|m 30 8<|C 31 .quo 29 30<|M 32 5<|M 33 8<|C 34 .quo 32 33<|M 4 31<|M 5 34<|.nil) [0,0,3,0,0,24,7,127]) (.skip)))<|.reg<|B 35 .add 11 1<|M 11 35<|.nil)))<|R (M 36 4<|M 37 5<|M 4 36<|M 5 37<|.nil)<|.ret,true⟩
def p288:PFn:=⟨21,[.tmp 2],R (O 1 (.box 116 2) 0<|o 2 .mov [c 0] [2]<|.nil)<|R (o 5 (.fad 0) [t 1] [2]<|L 6 5<|B 7 .add 6 1<|b 8 .shr [c 3870720,t 7] [7]<|M 3 8<|.nil)<|R (m 9 3<|M 4 9<|.nil)<|.seq (R (A 10 1 1<|L 11 10<|o 12 .mov [c 0] []<|.nil)<|.block 0 (.loop [3,4,11,12] [4] (R (b 13 .lss [t 12,t 11] []<|.nil)<|.seq (.cond (t 13) (.skip) (.exit 0))<|.seq (.block 1 (R (M 14 3<|B 15 .quo 14 2<|M 3 15<|.nil)<|.reg<|M 16 4<|m 17 3<|C 18 .add 16 17<|M 4 18<|.nil))<|.reg<|B 19 .add 12 1<|M 12 19<|.nil)))<|R (M 20 4<|M 2 20<|.nil)<|.ret,true⟩
def p289:PFn:=⟨18,[.tmp 4],R (O 2 (.box 226 4) 0<|o 4 .mov [cf] [4]<|.nil)<|R (o 5 .mov [t 1] [4]<|a 6 0 2<|L 7 6<|C 8 .geq 5 7<|M 9 8<|x 17 9 true (M 10 1<|a 11 0 2<|L 12 11<|C 13 .sub 10 12<|A 14 1 2<|L 15 14<|C 16 .lss 13 15<|.nil) (t 16) [1,2,9]<|M 4 17<|.nil)<|.ret,true⟩
def p290:PFn:=⟨12,[.tmp 4],R (o 4 .mov [c 0] [4]<|.nil)<|.seq (.block 0 (.loop [0,1] [0] (.seq (R (m 5 1<|B 6 .gtr 5 0<|.nil)<|.cond (t 6) (.skip) (.exit 0))<|.block 1 (.regD 3 (m 7 1<|M 8 0<|M 9 1<|C 10 .rem 8 9<|M 0 7<|M 1 10<|.nil) [0,0,0,6,3,31]))))<|R (M 11 0<|M 4 11<|.nil)<|.ret,true⟩
end
noncomputable section
def pl:List (Option PFn):=[none,none,none,none,some p4,none,none,none,some p8,some p9,some p10,some p11,some p12,some p13,some p14,none,none,some p17,some p18,some p19,none,none,none,none,none,none,some p26,some p27,none,none,none,none,none,none,some p34,none,none,none,some p38,some p39,none,some p41,some p42,none,none,none,some p46,some p47,some p48,some p49,some p50,some p51,some p52,some p53,some p54,some p55,some p56,some p57,some p58,some p59,some p60,some p61,some p62,some p63,none,none,none,none,none,none,none,none,none,some p73,none,some p75,none,none,none,none,some p80,none,some p82,none,none,none,none,none,none,none,none,none,none,none,none,none,none,none,none,none,none,none,some p102,some p103,some p104,some p105,some p106,some p107,some p108,some p109,some p110,some p111,some p112,some p113,some p114,some p115,some p116,some p117,some p118,some p119,some p120,some p121,some p122,some p123,some p124,some p125,some p126,some p127,some p128,some p129,some p130,some p131,some p132,some p133,some p134,some p135,some p136,some p137,some p138,some p139,some p140,some p141,some p142,some p143,some p144,some p145,some p146,some p147,none,none,none,some p151,none,none,none,none,none,none,none,some p159,none,none,none,none,none,none,none,none,none,none,none,some p171,some p172,some p173,some p174,some p175,some p176,some p177,some p178,some p179,some p180,some p181,some p182,some p183,some p184,some p185,some p186,some p187,some p188,some p189,some p190,some p191,some p192,some p193,some p194,some p195,some p196,some p197,some p198,some p199,some p200,some p201,some p202,some p203,some p204,some p205,some p206,some p207,some p208,some p209,some p210,some p211,some p212,some p213,some p214,none,none,none,some p218,some p219,some p220,none,none,none,none,none,none,none,some p228,none,none,none,none,some p233,some p234,some p235,some p236,some p237,some p238,some p239,some p240,some p241,some p242,some p243,some p244,some p245,some p246,some p247,some p248,some p249,some p250,some p251,some p252,some p253,none,none,none,none,some p258,some p259,some p260,some p261,some p262,some p263,some p264,some p265,none,some p267,none,none,some p270,some p271,some p272,none,some p274,some p275,some p276,none,some p278,some p279,some p280,some p281,some p282,some p283,some p284,some p285,some p286,some p287,some p288,some p289,some p290]
def P40:PTab:=fun f=>(pl[f]?).join
def NF40 (f:Nat):Bool:=mem f [47,48,49,50,51,52,53,54,55,56,57,58,59,60,61,62,63,73,80,103,109,116,119,135,137,157,159,283]
def NW1 (f:Nat):Bool:=mem f [73,80,137,157]
def clN:Nat->Option (Nat×Nat):=fun f=>bif Nat.beq f 157 then some (233,2)else none
def NW40:NB:=⟨NW1,mG clN⟩
def cl40 (f e:Nat):Bool:=mem f [155,156]&&Nat.beq e (match f with|155=>5|156=>5|_=>0)
def hd41 (p:Int):List Zb:=[⟨⟨p,0,4⟩,false,0⟩]
def ev41 (n k:Int) (h:List Zb):Ze:=⟨⟨1,n⟩,k,⟨0,0⟩,h,[],0,0,0,[],0,0⟩
def vc41 (e:Ze):Zo:=⟨[e],[]⟩
def ms41 (n:Int) (l:List Zw):Zm:=⟨⟨1,n⟩,⟨4,4,⟨0,0,0,0,0,0⟩⟩,0,0,false,0,0,0,0,0,0,⟨#[]⟩,[],l⟩
def sc41:Z0:=⟨⟨#[]⟩,false,[⟨⟨1,1⟩,⟨#[97]⟩,⟨0,0⟩,[⟨⟨1,2⟩,1⟩]⟩,⟨⟨1,3⟩,⟨#[98]⟩,⟨0,0⟩,[⟨⟨1,4⟩,1⟩]⟩],[ms41 5 [⟨[],[vc41 (ev41 8 1 (hd41 0))]⟩,⟨[],[vc41 (ev41 9 1 (hd41 0))]⟩],ms41 6 [⟨[],[vc41 (ev41 10 1 (hd41 4))]⟩,⟨[],[vc41 (ev41 11 1 (hd41 0))]⟩],ms41 7 [⟨[],[vc41 (ev41 12 1 (hd41 4))]⟩,⟨[],[vc41 (ev41 13 3 [])]⟩]],[],[⟨1,13⟩]⟩
def cU1:Z0:=⟨⟨#[]⟩,false,[⟨⟨1,1⟩,⟨#[97,47,98]⟩,⟨0,0⟩,[⟨⟨1,2⟩,1⟩]⟩],[ms41 5 [⟨[],[vc41 (ev41 8 1 (hd41 0))]⟩],ms41 6 [⟨[],[vc41 (ev41 10 1 (hd41 4)),vc41 (ev41 11 1 (hd41 0))]⟩],ms41 7 [⟨[],[vc41 (ev41 12 1 (hd41 4))]⟩]],[],[⟨1,13⟩]⟩
def gS {A:Type} (l:List A):Option (List A):=bif Nat.ble l.length 1073741824 then some l else none
def B40 (k:Bool):Orc:=fun f xs=>match xs with
 |[.is e rows]=>bif cl40 f e&&Nat.ble rows.length 1073741824 then some (.is e rows)else none
 |[]=>bif k&&Nat.beq f 5 then some (bv true)else none
 |_=>none
theorem okg {k:Bool} {d N:Nat} {ps:List Nat} {a b:PC} (h:okL NF40 N ps a b=true):okG (Xd (B40 k) NF40 NW40 P40 d).is N ps a b=some ():=by
 unfold okG
 rw[show(Xd (B40 k) NF40 NW40 P40 d).is=NF40 from fJ1 d,mZ1 h]
noncomputable abbrev OD (k:Bool) (d:Nat):Orc:=Od (B40 k) NF40 NW40 P40 d
noncomputable abbrev XD (k:Bool) (d:Nat):NX:=Xd (B40 k) NF40 NW40 P40 d
theorem od {k:Bool} {f:Nat} {fn:PFn} (a:NF40 f=false) (h:P40 f=some fn) (b:fn.frz=true) {d:Nat} {xs:List PV}:OD k (d+1) f xs=zF (OD k d) (XD k d) fn xs some:=lL1 a h b d xs
theorem xd {k:Bool} {f:Nat} {fn:PFn} (h:P40 f=some fn) {d:Nat} {xs:List PV} {hs:Heap} {m:Nat} {nw:Bool}:runR (XD k (d+1)) f xs hs m nw=runK (OD k d) (XD k d) fn xs hs m (retK hs nw m):=lM1 h d xs hs m _
theorem yd {a:Bool} {k d:Nat} {xs:List PV} {hs:Heap} {m:Nat}:yldR (XD a (d+1)) k xs hs m=yldK (OD a d) (XD a d) k xs hs m (retK hs false m):=rfl
theorem iV {k:Bool} (f d:Nat) {A:Type} (e:Nat) (c:A->List PV) (l:List A) (h1:NF40 f=false) (h2:P40 f=none) (a:cl40 f e=true):OD k d f [.is e (l.map c)]=(gS l).map fun l=>.is e (l.map c):=by
 rw[OD,cN1 h1 h2]
 unfold gS
 simp only[B40,a,qP1,pE1]
 cases Nat.ble l.length 1073741824<;>rfl
theorem gO1 (d:Nat):OD true d 5 []=(some true).map fun y=>bv y:=by
 rw[OD,cN1 rfl rfl]
 rfl
theorem oO {a:Bool} (f d ty e:Nat) {A:Type} (c:A->List PV) (l:List A) (m:Nat) (h1:P40 f=none) (h2:clN f=some (ty,e)) (b:Nat.beq e e=true) (g:∀rows,retK [] true m (.own m) [(m,.lst ty e true rows)] (m+1)=some (.own m,[(m,.lst ty e true rows)],m+1)):runR (XD a (d+1)) f [.is e (l.map c)] [] m true=(gS l).map fun l=>(.own m,[(m,.lst ty e true (l.map c))],m+1):=by
 show(Xd (B40 a) NF40 NW40 P40 (d+1)).run f _ _ _ _=_
 rw[iO1 h1]
 simp only[NW40,mG,h2,nC1,b,qP1,pE1]
 unfold gS
 cases Nat.ble l.length 1073741824
 .rfl
 .exact g _
theorem iG:okL NF40 22 [13,14] q34_13a q34_13b=true:=by kernel_rfl
theorem iH:okL NF40 16 [7,8] q107_5a q107_5b=true:=by kernel_rfl
end
end Go.P
namespace Go.P
open Go.Sim (Ex OpK CK)
open K (I Q rq nq xq ck)
def F172 (a:Int):Option Bool:=
 some ((decide (a<32))||(a==127))
theorem ok172 {k} (d) (a:Int):OD k (d+1) 172 [.v (.int .u8 a)]=(F172 a).map (fun b=>bv b):=by
 rw[od (fn:=p172) rfl rfl rfl]
 refine bz (gor rfl) ?_
 exact lf rfl
def F234 (b:List UInt8):Option Int:=
 (aO (E:=Int⊕Unit) (fun(a:Int)=>if decide (a<(b.length:Int))then(lget b a).bind fun c=>(F172 (c.toNat:Int)).bind fun d=>if d then some (.inr (.inl a))else some (.inl (w64 (a+1)))else some (.inr (.inr ()))) B64 0).bind fun e=>(match e with|.inl x7=>some x7|.inr _=>some (-1))
theorem ok234 {k} (d) (a:List UInt8):OD k (d+2) 234 [.is 1 (I iQ1 a),.fn 172 [] []]=(F234 a).map (fun g=>i64 g):=by
 rw[od (fn:=p234) rfl rfl rfl]
 refine bz lm ?_
 refine bo (aI (S:=Int) (enc:=fun b=>(Q [(0,.is 1 (I iQ1 a)),(1,.fn 172 [] []),(7,i64 (a.length:Int)),(8,i64 b)] [])) (encE:=(fun|.inl c=>(rq [(4,i64 c)] [])|.inr _=>(xq 0 [] []))) (fun b=>?_) B64 0) fun f=>?_
 refine io ?_ (lf rfl)
 refine bo rg fun e=>?_
 refine bo (ok172 d (e.toNat:Int)) fun h=>?_
 refine io (lf rfl) (lf rfl)
 rcases f with c|_
 exact lf rfl
 exact lf rfl
def F173 (a:List UInt8):Option Bool:=
 (F234 a).bind fun b=>some (decide (b>=0))
theorem ok173 {k} (d) (a:List UInt8):OD k (d+3) 173 [.is 1 (I iQ1 a),.fn 172 [] []]=(F173 a).map (fun b=>bv b):=by
 rw[od (fn:=p173) rfl rfl rfl]
 refine bo (ok234 d a) fun c=>?_
 exact lf rfl
def F104 (a:ByteArray):Option Bool:=
 ((if decide ((a.size:Int)<=256)then(F173 a.data.toList).bind fun b=>some (!b)else some false:Option (Bool))).bind fun c=>some c
theorem ok104 {k} (d) (a:ByteArray):OD k (d+4) 104 [.v (.string a)]=(F104 a).map (fun b=>bv b):=by
 rw[od (fn:=p104) rfl rfl rfl]
 refine bo (e:=id) ?_ fun f=>?_
 refine io ?_ (lf rfl)
 refine bo (ok173 d a.data.toList) fun c=>?_
 exact lf rfl
 exact lf rfl
def F105 (a b c:Int):Option Bool:=
 some ((decide (a>=b))&&(decide (a<=c)))
theorem ok105 {k} (d) (a b c:Int):OD k (d+1) 105 [i64 a,i64 b,i64 c]=(F105 a b c).map (fun e=>bv e):=by
 rw[od (fn:=p105) rfl rfl rfl]
 refine bz (gand rfl) ?_
 exact lf rfl
def F106 (a:Zl):Option Int:=
 if(((decide (a.Steps<(-77)))||(decide (a.Steps>77)))||(decide (a.Semitones<(-140))))||(decide (a.Semitones>140))then some 2 else some 0
theorem ok106 {k} (d) (a:Zl):OD k (d+1) 106 [.agg (Zl.g a)]=(F106 a).map (fun b=>i64 b):=by
 rw[od (fn:=p106) rfl rfl rfl]
 refine bz (gor rfl) ?_
 refine bz (gor rfl) ?_
 refine bz (gor rfl) ?_
 refine io (lf rfl) (lf rfl)
def Fn103 (b:Bool) (c:Zz) (a:List Zv) (g:Z0) (d:Int):Option (List Zv):=
 ((if b then(lapp false a [(Zv.mk d c)]).bind fun e=>some e else some a:Option (List Zv))).bind fun f=>some f
theorem okn103 {k} (d) (h:Bool) (b:Zz) (f:List Zv) (c:Z0) (a:Int):runR (XD k (d+1)) 103 [.ref 1 0,bv h,.agg (Zz.g b)] [(2,.lst 129 3 false (I Zv.g f)),(1,.box (ck c a (.own 2)))] 3 false=(Fn103 h b f c a).map (fun(j:List Zv)=>((.tup [],[(2,.lst 129 3 false (I Zv.g j)),(1,.box (ck c a (.own 2)))],0))):=by
 rw[xd (fn:=p103) rfl]
 refine bo (e:=(fun(i:List Zv)=>(nq [] [(3,.box (Zz.g b)),(2,.lst 129 3 false (I Zv.g i)),(1,.box (ck c a (.own 2)))]))) ?_ fun i=>?_
 refine io ?_ (lf rfl)
 refine bo (aV false Zv.g f [(Zv.mk a b)]) fun l=>?_
 exact lf rfl
 exact lf rfl
def Fn47 (H:List Zv) (a:Z0) (u:Int):Option (List Zv):=
 (aO (E:=List Zv) (fun(⟨e,i⟩:Int×(List Zv))=>if decide (e<(a.Parts.length:Int))then(lget a.Parts e).bind fun c=>(F104 c.Name).bind fun n=>((if !n then some true else(F105 (c.Staves.length:Int) 1 4).bind fun o=>some (!o):Option (Bool))).bind fun p=>((if p then some true else(F106 c.Transpose).bind fun q=>some (q !=0):Option (Bool))).bind fun r=>(Fn103 r c.ID i a u).bind fun s=>some (.inl ((w64 (e+1)),s))else some (.inr i)) B64 (0,H)).bind fun t=>(aO (E:=List Zv) (fun(⟨f,j⟩:Int×(List Zv))=>if decide (f<(a.Measures.length:Int))then(lget a.Measures f).bind fun b=>(F104 b.Rehearsal).bind fun v=>(aO (E:=Bool) (fun(⟨k,g⟩:Bool×Int)=>if decide (g<(b.Cells.length:Int))then(lget b.Cells g).bind fun d=>(aO (E:=Bool) (fun(⟨l,h⟩:Bool×Int)=>if decide (h<(d.Voices.length:Int))then(lget d.Voices h).bind fun m=>some (.inl (((l||(decide ((m.Events.length:Int)>128)))||(decide ((m.Tuplets.length:Int)>16))),(w64 (h+1))))else some (.inr l)) B64 (((k||(decide ((d.Clefs.length:Int)>64)))||(decide ((d.Voices.length:Int)>2))),0)).bind fun w=>some (.inl (w,(w64 (g+1))))else some (.inr k)) B64 (((!v)||(decide ((b.Tempi.length:Int)>64))),0)).bind fun x=>(Fn103 x b.ID j a u).bind fun y=>some (.inl ((w64 (f+1)),y))else some (.inr j)) B64 (0,t)).bind fun z=>(F104 a.Title).bind fun A=>((if !A then some true else(F105 (a.Parts.length:Int) 1 32).bind fun B=>some (!B):Option (Bool))).bind fun C=>((if C then some true else(F105 (a.Measures.length:Int) 1 1024).bind fun D=>some (!D):Option (Bool))).bind fun F=>(Fn103 ((F||(decide ((a.Spanners.length:Int)>4096)))||(decide ((a.Last.length:Int)>100))) (Zz.mk 0 0) z a u).bind fun G=>some G
theorem okn47 {k} (d) (v:List Zv) (a:Z0) (f:Int):runR (XD k (d+5)) 47 [.ref 1 0] [(2,.lst 129 3 false (I Zv.g v)),(1,.box (ck a f (.own 2)))] 3 false=(Fn47 v a f).map (fun(z:List Zv)=>((.tup [],[(2,.lst 129 3 false (I Zv.g z)),(1,.box (ck a f (.own 2)))],0))):=by
 rw[xd (fn:=p47) rfl]
 refine bz lm ?_
 refine bo (aI (S:=Int×(List Zv)) (enc:=fun⟨r,m⟩=>(Q [(0,.ref 1 0),(15,.is 6 (I Zj.g a.Parts)),(16,i64 (a.Parts.length:Int)),(17,i64 r)] [(2,.lst 129 3 false (I Zv.g m)),(1,.box (ck a f (.own 2)))])) (encE:=(fun(n:List Zv)=>(xq 0 [(0,.ref 1 0)] [(2,.lst 129 3 false (I Zv.g n)),(1,.box (ck a f (.own 2)))]))) (fun⟨r,m⟩=>?_) B64 (0,v)) fun n=>?_
 refine io ?_ (lf rfl)
 refine bo rg fun j=>?_
 refine bo (ok104 d j.Name) fun A=>?_
 refine bo (e:=id) ?_ fun C=>?_
 refine io (lf rfl) ?_
 refine bz lm ?_
 refine bo (ok105 (d+3) (j.Staves.length:Int) 1 4) fun B=>?_
 exact lf rfl
 refine bo (e:=id) ?_ fun w=>?_
 refine io (lf rfl) ?_
 refine bo (ok106 (d+3) j.Transpose) fun D=>?_
 exact lf rfl
 refine bo (okn103 (d+3) w j.ID m a f) fun E=>?_
 exact lf rfl
 refine bz lm ?_
 refine bo (aI (S:=Int×(List Zv)) (enc:=fun⟨h,c⟩=>(Q [(0,.ref 1 0),(47,.is 22 (I Zm.g a.Measures)),(48,i64 (a.Measures.length:Int)),(49,i64 h)] [(2,.lst 129 3 false (I Zv.g c)),(1,.box (ck a f (.own 2)))])) (encE:=(fun(q:List Zv)=>(xq 2 [(0,.ref 1 0)] [(2,.lst 129 3 false (I Zv.g q)),(1,.box (ck a f (.own 2)))]))) (fun⟨h,c⟩=>?_) B64 (0,n)) fun q=>?_
 refine io ?_ (lf rfl)
 refine bo rg fun b=>?_
 refine bo (ok104 d b.Rehearsal) fun x=>?_
 refine bz (gor (bz lm rfl)) ?_
 refine bz lm ?_
 refine bo (aI (S:=Bool×Int) (enc:=fun⟨o,l⟩=>(Q [(0,.ref 1 0),(5,.ref 3 0),(6,bv o),(47,.is 22 (I Zm.g a.Measures)),(48,i64 (a.Measures.length:Int)),(49,i64 h),(64,.is 2 (I Zw.g b.Cells)),(65,i64 (b.Cells.length:Int)),(66,i64 l)] [(3,.box (Zm.g b)),(2,.lst 129 3 false (I Zv.g c)),(1,.box (ck a f (.own 2)))])) (encE:=(fun(p:Bool)=>(xq 4 [(0,.ref 1 0),(5,.ref 3 0),(6,bv p),(47,.is 22 (I Zm.g a.Measures)),(48,i64 (a.Measures.length:Int)),(49,i64 h)] [(3,.box (Zm.g b)),(2,.lst 129 3 false (I Zv.g c)),(1,.box (ck a f (.own 2)))]))) (fun⟨o,l⟩=>?_) B64 (((!x)||(decide ((b.Tempi.length:Int)>64))),0)) fun p=>?_
 refine io ?_ (lf rfl)
 refine bo rg fun i=>?_
 refine bz (gor (bz lm rfl)) ?_
 refine bz (gor (bz lm rfl)) ?_
 refine bz lm ?_
 refine bo (aI (S:=Bool×Int) (enc:=fun⟨s,t⟩=>(Q [(0,.ref 1 0),(5,.ref 3 0),(6,bv s),(47,.is 22 (I Zm.g a.Measures)),(48,i64 (a.Measures.length:Int)),(49,i64 h),(64,.is 2 (I Zw.g b.Cells)),(65,i64 (b.Cells.length:Int)),(66,i64 l),(84,.is 2 (I Zo.g i.Voices)),(85,i64 (i.Voices.length:Int)),(86,i64 t)] [(4,.box (Zw.g i)),(3,.box (Zm.g b)),(2,.lst 129 3 false (I Zv.g c)),(1,.box (ck a f (.own 2)))])) (encE:=(fun(u:Bool)=>(xq 6 [(0,.ref 1 0),(5,.ref 3 0),(6,bv u),(47,.is 22 (I Zm.g a.Measures)),(48,i64 (a.Measures.length:Int)),(49,i64 h),(64,.is 2 (I Zw.g b.Cells)),(65,i64 (b.Cells.length:Int)),(66,i64 l)] [(4,.box (Zw.g i)),(3,.box (Zm.g b)),(2,.lst 129 3 false (I Zv.g c)),(1,.box (ck a f (.own 2)))]))) (fun⟨s,t⟩=>?_) B64 (((o||(decide ((i.Clefs.length:Int)>64)))||(decide ((i.Voices.length:Int)>2))),0)) fun u=>?_
 refine io ?_ (lf rfl)
 refine bo rg fun F=>?_
 refine bz (gor (bz lm rfl)) ?_
 refine bz (gor (bz lm rfl)) ?_
 exact lf rfl
 exact lf rfl
 refine bo (okn103 (d+3) p b.ID c a f) fun G=>?_
 exact lf rfl
 refine bo (ok104 d a.Title) fun H=>?_
 refine bo (e:=id) ?_ fun K=>?_
 refine io (lf rfl) ?_
 refine bz lm ?_
 refine bo (ok105 (d+3) (a.Parts.length:Int) 1 32) fun J=>?_
 exact lf rfl
 refine bo (e:=id) ?_ fun y=>?_
 refine io (lf rfl) ?_
 refine bz lm ?_
 refine bo (ok105 (d+3) (a.Measures.length:Int) 1 1024) fun L=>?_
 exact lf rfl
 refine bz (gor (bz lm rfl)) ?_
 refine bz (gor (bz lm rfl)) ?_
 refine bo (okn103 (d+3) ((y||(decide ((a.Spanners.length:Int)>4096)))||(decide ((a.Last.length:Int)>100))) (Zz.mk 0 0) q a f) fun M=>?_
 exact lf rfl
def Fn80 (a:Z0):Option Unit:=
 some ()
theorem okn80 {k} (d) (a:Z0):runR (XD k (d+1)) 80 [.ref 0 0] [(0,.box (Z0.g a))] 3 true=(Fn80 a).map (fun(_:Unit)=>((.fn 159 [] [.ref 3 0],[(3,.box [.ref 0 0]),(0,.box (Z0.g a))],4))):=by
 rw[xd (fn:=p80) rfl]
 exact lf rfl
def Fy107_5 (d e:Int) (f g:Int) (h i j:Int) (b:Zj) (c:List Zz):Option (List Zz):=
 (lapp false c [b.ID]).bind fun a=>some a
theorem oky107_5 {k} (d) (e f:Int) (h i:Int) (j l m:Int) (b:Zj) (c:List Zz):yldR (XD k (d+1)) 4 [.agg [i64 e,i64 f,i64 h,i64 i,i64 j,i64 l,i64 m],.ip (Zj.g b)] [(4,.loop 16 [(3,.ref 1 0)] [7,8] q107_5a q107_5b false none),(2,.lst 48 2 false (I Zz.g c)),(1,.box [.own 2])] 5=(Fy107_5 e f h i j l m b c).map (fun(a:List Zz)=>((bv true,[(4,.loop 16 [(3,.ref 1 0)] [7,8] q107_5a q107_5b false none),(2,.lst 48 2 false (I Zz.g a)),(1,.box [.own 2])],0))):=by
 rw[yd]
 refine bz (okg iH) ?_
 refine bo (aV false Zz.g c [b.ID]) fun n=>?_
 exact lf rfl
def Fy107_5_2 (d e:Int) (f g:Int) (h i j:Int) (b:Zf) (c:List Zz):Option (List Zz):=
 (lapp false c [b.ID]).bind fun a=>some a
theorem oky107_5_2 {k} (d) (e f:Int) (h i:Int) (j l m:Int) (b:Zf) (c:List Zz):yldR (XD k (d+1)) 4 [.agg [i64 e,i64 f,i64 h,i64 i,i64 j,i64 l,i64 m],.ip (Zf.g b)] [(4,.loop 16 [(3,.ref 1 0)] [7,8] q107_5a q107_5b false none),(2,.lst 48 2 false (I Zz.g c)),(1,.box [.own 2])] 5=(Fy107_5_2 e f h i j l m b c).map (fun(a:List Zz)=>((bv true,[(4,.loop 16 [(3,.ref 1 0)] [7,8] q107_5a q107_5b false none),(2,.lst 48 2 false (I Zz.g a)),(1,.box [.own 2])],0))):=by
 rw[yd]
 refine bz (okg iH) ?_
 refine bo (aV false Zz.g c [b.ID]) fun n=>?_
 exact lf rfl
def Fy107_5_3 (d e:Int) (f g:Int) (h i j:Int) (b:Zm) (c:List Zz):Option (List Zz):=
 (lapp false c [b.ID]).bind fun a=>some a
theorem oky107_5_3 {k} (d) (e f:Int) (h i:Int) (j l m:Int) (b:Zm) (c:List Zz):yldR (XD k (d+1)) 4 [.agg [i64 e,i64 f,i64 h,i64 i,i64 j,i64 l,i64 m],.ip (Zm.g b)] [(4,.loop 16 [(3,.ref 1 0)] [7,8] q107_5a q107_5b false none),(2,.lst 48 2 false (I Zz.g c)),(1,.box [.own 2])] 5=(Fy107_5_3 e f h i j l m b c).map (fun(a:List Zz)=>((bv true,[(4,.loop 16 [(3,.ref 1 0)] [7,8] q107_5a q107_5b false none),(2,.lst 48 2 false (I Zz.g a)),(1,.box [.own 2])],0))):=by
 rw[yd]
 refine bz (okg iH) ?_
 refine bo (aV false Zz.g c [b.ID]) fun n=>?_
 exact lf rfl
def Fy107_5_4 (d e:Int) (f g:Int) (h i j:Int) (b:Ze) (c:List Zz):Option (List Zz):=
 (lapp false c [b.ID]).bind fun a=>some a
theorem oky107_5_4 {k} (d) (e f:Int) (h i:Int) (j l m:Int) (b:Ze) (c:List Zz):yldR (XD k (d+1)) 4 [.agg [i64 e,i64 f,i64 h,i64 i,i64 j,i64 l,i64 m],.ip (Ze.g b)] [(4,.loop 16 [(3,.ref 1 0)] [7,8] q107_5a q107_5b false none),(2,.lst 48 2 false (I Zz.g c)),(1,.box [.own 2])] 5=(Fy107_5_4 e f h i j l m b c).map (fun(a:List Zz)=>((bv true,[(4,.loop 16 [(3,.ref 1 0)] [7,8] q107_5a q107_5b false none),(2,.lst 48 2 false (I Zz.g a)),(1,.box [.own 2])],0))):=by
 rw[yd]
 refine bz (okg iH) ?_
 refine bo (aV false Zz.g c [b.ID]) fun n=>?_
 exact lf rfl
def Fy107_5_5 (d e:Int) (f g:Int) (h i j:Int) (b:Zn) (c:List Zz):Option (List Zz):=
 (lapp false c [b.ID]).bind fun a=>some a
theorem oky107_5_5 {k} (d) (e f:Int) (h i:Int) (j l m:Int) (b:Zn) (c:List Zz):yldR (XD k (d+1)) 4 [.agg [i64 e,i64 f,i64 h,i64 i,i64 j,i64 l,i64 m],.ip (Zn.g b)] [(4,.loop 16 [(3,.ref 1 0)] [7,8] q107_5a q107_5b false none),(2,.lst 48 2 false (I Zz.g c)),(1,.box [.own 2])] 5=(Fy107_5_5 e f h i j l m b c).map (fun(a:List Zz)=>((bv true,[(4,.loop 16 [(3,.ref 1 0)] [7,8] q107_5a q107_5b false none),(2,.lst 48 2 false (I Zz.g a)),(1,.box [.own 2])],0))):=by
 rw[yd]
 refine bz (okg iH) ?_
 refine bo (aV false Zz.g c [b.ID]) fun n=>?_
 exact lf rfl
def Fn159 (g:Z0) (X:List Zz):Option (List Zz):=
 (aO (E:=List Zz) (fun(⟨M,f,x⟩:Int×Int×(List Zz))=>if decide (f<(g.Parts.length:Int))then(lget g.Parts f).bind fun N=>(Fy107_5 1 f 0 0 0 0 0 N x).bind fun O=>(lget g.Parts f).bind fun P=>(aO (E:=Int×(List Zz)) (fun(⟨m,n,L⟩:Int×Int×(List Zz))=>if decide (n<(P.Staves.length:Int))then(lget g.Parts f).bind fun R=>(lget R.Staves n).bind fun S=>(Fy107_5_2 2 0 m 0 0 0 0 S L).bind fun T=>some (.inl ((w64 (m+1)),(w64 (n+1)),T))else some (.inr (m,L))) B64 (M,0,O)).bind fun⟨U,V⟩=>some (.inl (U,(w64 (f+1)),V))else some (.inr x)) B64 (0,0,X)).bind fun W=>(aO (E:=List Zz) (fun(⟨a,h⟩:Int×(List Zz))=>if decide (a<(g.Measures.length:Int))then(lget g.Measures a).bind fun o=>(Fy107_5_3 3 0 0 a 0 0 0 o h).bind fun p=>(lget g.Measures a).bind fun q=>(aO (E:=List Zz) (fun(⟨b,i⟩:Int×(List Zz))=>if decide (b<(q.Cells.length:Int))then(lget g.Measures a).bind fun r=>(lget r.Cells b).bind fun s=>(aO (E:=List Zz) (fun(⟨c,j⟩:Int×(List Zz))=>if decide (c<(s.Voices.length:Int))then(lget g.Measures a).bind fun t=>(lget t.Cells b).bind fun u=>(lget u.Voices c).bind fun v=>(aO (E:=List Zz) (fun(⟨d,k⟩:Int×(List Zz))=>if decide (d<(v.Events.length:Int))then(lget g.Measures a).bind fun w=>(lget w.Cells b).bind fun y=>(lget y.Voices c).bind fun z=>(lget z.Events d).bind fun A=>(Fy107_5_4 4 0 b a c d 0 A k).bind fun B=>some (.inl ((w64 (d+1)),B))else some (.inr k)) B64 (0,j)).bind fun C=>some (.inl ((w64 (c+1)),C))else some (.inr j)) B64 (0,i)).bind fun D=>some (.inl ((w64 (b+1)),D))else some (.inr i)) B64 (0,p)).bind fun F=>some (.inl ((w64 (a+1)),F))else some (.inr h)) B64 (0,W)).bind fun G=>(aO (E:=List Zz) (fun(⟨e,l⟩:Int×(List Zz))=>if decide (e<(g.Spanners.length:Int))then(lget g.Spanners e).bind fun H=>(Fy107_5_5 5 0 0 0 0 0 e H l).bind fun J=>some (.inl ((w64 (e+1)),J))else some (.inr l)) B64 (0,G)).bind fun K=>some K
theorem okn159 {k} (d) (c:Z0) (L:List Zz):runR (XD k (d+2)) 159 [.yld 4,.ref 3 0] [(4,.loop 16 [(3,.ref 1 0)] [7,8] q107_5a q107_5b false none),(3,.box [.ref 0 0]),(0,.box (Z0.g c)),(2,.lst 48 2 false (I Zz.g L)),(1,.box [.own 2])] 5 false=(Fn159 c L).map (fun(G:List Zz)=>((.tup [],[(4,.loop 16 [(3,.ref 1 0)] [7,8] q107_5a q107_5b false none),(3,.box [.ref 0 0]),(0,.box (Z0.g c)),(2,.lst 48 2 false (I Zz.g G)),(1,.box [.own 2])],0))):=by
 rw[xd (fn:=p159) rfl]
 refine bz lm ?_
 refine bo (aI (S:=Int×Int×(List Zz)) (enc:=fun⟨w,h,x⟩=>(Q [(0,.yld 4),(1,.ref 3 0),(3,i64 w),(15,i64 (c.Parts.length:Int)),(16,i64 h)] [(4,.loop 16 [(3,.ref 1 0)] [7,8] q107_5a q107_5b false none),(3,.box [.ref 0 0]),(0,.box (Z0.g c)),(2,.lst 48 2 false (I Zz.g x)),(1,.box [.own 2])])) (encE:=(fun(A:List Zz)=>(xq 0 [(0,.yld 4),(1,.ref 3 0)] [(4,.loop 16 [(3,.ref 1 0)] [7,8] q107_5a q107_5b false none),(3,.box [.ref 0 0]),(0,.box (Z0.g c)),(2,.lst 48 2 false (I Zz.g A)),(1,.box [.own 2])]))) (fun⟨w,h,x⟩=>?_) B64 (0,0,L)) fun A=>?_
 refine io ?_ (lf rfl)
 refine bo rg fun M=>?_
 refine bo (oky107_5 d 1 h 0 0 0 0 0 M x) fun N=>?_
 refine bo rg fun O=>?_
 refine bz lm ?_
 refine bo (aI (S:=Int×Int×(List Zz)) (enc:=fun⟨y,H,z⟩=>(Q [(0,.yld 4),(1,.ref 3 0),(3,i64 y),(4,i64 h),(15,i64 (c.Parts.length:Int)),(16,i64 h),(39,i64 (O.Staves.length:Int)),(40,i64 H)] [(4,.loop 16 [(3,.ref 1 0)] [7,8] q107_5a q107_5b false none),(2,.lst 48 2 false (I Zz.g z)),(1,.box [.own 2]),(3,.box [.ref 0 0]),(0,.box (Z0.g c))])) (encE:=(fun(⟨J,K⟩:Int×(List Zz))=>(xq 2 [(0,.yld 4),(1,.ref 3 0),(3,i64 J),(15,i64 (c.Parts.length:Int)),(16,i64 h)] [(4,.loop 16 [(3,.ref 1 0)] [7,8] q107_5a q107_5b false none),(2,.lst 48 2 false (I Zz.g K)),(1,.box [.own 2]),(3,.box [.ref 0 0]),(0,.box (Z0.g c))]))) (fun⟨y,H,z⟩=>?_) B64 (w,0,N)) fun⟨J,K⟩=>?_
 refine io ?_ (lf rfl)
 refine bo rg fun a0=>?_
 refine bo rg fun P=>?_
 refine bo (oky107_5_2 d 2 0 y 0 0 0 0 P z) fun b0=>?_
 exact lf rfl
 exact lf rfl
 refine bz lm ?_
 refine bo (aI (S:=Int×(List Zz)) (enc:=fun⟨a,i⟩=>(Q [(0,.yld 4),(1,.ref 3 0),(67,i64 (c.Measures.length:Int)),(68,i64 a)] [(4,.loop 16 [(3,.ref 1 0)] [7,8] q107_5a q107_5b false none),(3,.box [.ref 0 0]),(0,.box (Z0.g c)),(2,.lst 48 2 false (I Zz.g i)),(1,.box [.own 2])])) (encE:=(fun(p:List Zz)=>(xq 4 [(0,.yld 4),(1,.ref 3 0)] [(4,.loop 16 [(3,.ref 1 0)] [7,8] q107_5a q107_5b false none),(3,.box [.ref 0 0]),(0,.box (Z0.g c)),(2,.lst 48 2 false (I Zz.g p)),(1,.box [.own 2])]))) (fun⟨a,i⟩=>?_) B64 (0,A)) fun p=>?_
 refine io ?_ (lf rfl)
 refine bo rg fun B=>?_
 refine bo (oky107_5_3 d 3 0 0 a 0 0 0 B i) fun C=>?_
 refine bo rg fun f=>?_
 refine bz lm ?_
 refine bo (aI (S:=Int×(List Zz)) (enc:=fun⟨b,j⟩=>(Q [(0,.yld 4),(1,.ref 3 0),(6,i64 a),(67,i64 (c.Measures.length:Int)),(68,i64 a),(91,i64 (f.Cells.length:Int)),(92,i64 b)] [(4,.loop 16 [(3,.ref 1 0)] [7,8] q107_5a q107_5b false none),(2,.lst 48 2 false (I Zz.g j)),(1,.box [.own 2]),(3,.box [.ref 0 0]),(0,.box (Z0.g c))])) (encE:=(fun(u:List Zz)=>(xq 6 [(0,.yld 4),(1,.ref 3 0),(67,i64 (c.Measures.length:Int)),(68,i64 a)] [(4,.loop 16 [(3,.ref 1 0)] [7,8] q107_5a q107_5b false none),(2,.lst 48 2 false (I Zz.g u)),(1,.box [.own 2]),(3,.box [.ref 0 0]),(0,.box (Z0.g c))]))) (fun⟨b,j⟩=>?_) B64 (0,C)) fun u=>?_
 refine io ?_ (lf rfl)
 refine bo rg fun R=>?_
 refine bo rg fun l=>?_
 refine bz lm ?_
 refine bo (aI (S:=Int×(List Zz)) (enc:=fun⟨e,m⟩=>(Q [(0,.yld 4),(1,.ref 3 0),(6,i64 a),(7,i64 b),(67,i64 (c.Measures.length:Int)),(68,i64 a),(91,i64 (f.Cells.length:Int)),(92,i64 b),(107,i64 (l.Voices.length:Int)),(108,i64 e)] [(4,.loop 16 [(3,.ref 1 0)] [7,8] q107_5a q107_5b false none),(2,.lst 48 2 false (I Zz.g m)),(1,.box [.own 2]),(3,.box [.ref 0 0]),(0,.box (Z0.g c))])) (encE:=(fun(t:List Zz)=>(xq 8 [(0,.yld 4),(1,.ref 3 0),(6,i64 a),(67,i64 (c.Measures.length:Int)),(68,i64 a),(91,i64 (f.Cells.length:Int)),(92,i64 b)] [(4,.loop 16 [(3,.ref 1 0)] [7,8] q107_5a q107_5b false none),(2,.lst 48 2 false (I Zz.g t)),(1,.box [.own 2]),(3,.box [.ref 0 0]),(0,.box (Z0.g c))]))) (fun⟨e,m⟩=>?_) B64 (0,j)) fun t=>?_
 refine io ?_ (lf rfl)
 refine bo rg fun T=>?_
 refine bo rg fun U=>?_
 refine bo rg fun D=>?_
 refine bz lm ?_
 refine bo (aI (S:=Int×(List Zz)) (enc:=fun⟨n,o⟩=>(Q [(0,.yld 4),(1,.ref 3 0),(6,i64 a),(7,i64 b),(8,i64 e),(67,i64 (c.Measures.length:Int)),(68,i64 a),(91,i64 (f.Cells.length:Int)),(92,i64 b),(107,i64 (l.Voices.length:Int)),(108,i64 e),(127,i64 (D.Events.length:Int)),(128,i64 n)] [(4,.loop 16 [(3,.ref 1 0)] [7,8] q107_5a q107_5b false none),(2,.lst 48 2 false (I Zz.g o)),(1,.box [.own 2]),(3,.box [.ref 0 0]),(0,.box (Z0.g c))])) (encE:=(fun(s:List Zz)=>(xq 10 [(0,.yld 4),(1,.ref 3 0),(6,i64 a),(7,i64 b),(67,i64 (c.Measures.length:Int)),(68,i64 a),(91,i64 (f.Cells.length:Int)),(92,i64 b),(107,i64 (l.Voices.length:Int)),(108,i64 e)] [(4,.loop 16 [(3,.ref 1 0)] [7,8] q107_5a q107_5b false none),(2,.lst 48 2 false (I Zz.g s)),(1,.box [.own 2]),(3,.box [.ref 0 0]),(0,.box (Z0.g c))]))) (fun⟨n,o⟩=>?_) B64 (0,m)) fun s=>?_
 refine io ?_ (lf rfl)
 refine bo rg fun V=>?_
 refine bo rg fun W=>?_
 refine bo rg fun X=>?_
 refine bo rg fun E=>?_
 refine bo (oky107_5_4 d 4 0 b a e n 0 E o) fun Y=>?_
 exact lf rfl
 exact lf rfl
 exact lf rfl
 exact lf rfl
 refine bz lm ?_
 refine bo (aI (S:=Int×(List Zz)) (enc:=fun⟨q,r⟩=>(Q [(0,.yld 4),(1,.ref 3 0),(166,i64 (c.Spanners.length:Int)),(167,i64 q)] [(4,.loop 16 [(3,.ref 1 0)] [7,8] q107_5a q107_5b false none),(3,.box [.ref 0 0]),(0,.box (Z0.g c)),(2,.lst 48 2 false (I Zz.g r)),(1,.box [.own 2])])) (encE:=(fun(v:List Zz)=>(xq 12 [] [(4,.loop 16 [(3,.ref 1 0)] [7,8] q107_5a q107_5b false none),(3,.box [.ref 0 0]),(0,.box (Z0.g c)),(2,.lst 48 2 false (I Zz.g v)),(1,.box [.own 2])]))) (fun⟨q,r⟩=>?_) B64 (0,p)) fun v=>?_
 refine io ?_ (lf rfl)
 refine bo rg fun F=>?_
 refine bo (oky107_5_5 d 5 0 0 0 0 0 q F r) fun Z=>?_
 exact lf rfl
 exact lf rfl
def F107 (a:Z0):Option (List Zz):=
 (Fn80 a).bind fun _=>(Fn159 a []).bind fun b=>some b
theorem ok107 {k} (d) (a:Z0):OD k (d+3) 107 [.agg (Z0.g a)]=(F107 a).map (fun b=>.is 2 (I Zz.g b)):=by
 rw[od (fn:=p107) rfl rfl rfl]
 refine bo (okn80 (d+1) a) fun _=>?_
 refine bo (okn159 d a []) fun c=>?_
 exact lf rfl
def F108 (a:Zz):Option Bool:=
 (F105 a.Site 0 99).bind fun b=>((if b then(F105 a.Number 1 1073741824).bind fun c=>some c else some false:Option (Bool))).bind fun d=>some d
theorem ok108 {k} (d) (a:Zz):OD k (d+2) 108 [.agg (Zz.g a)]=(F108 a).map (fun b=>bv b):=by
 rw[od (fn:=p108) rfl rfl rfl]
 refine bo (ok105 d a.Site 0 99) fun c=>?_
 refine bo (e:=id) ?_ fun h=>?_
 refine io ?_ (lf rfl)
 refine bo (ok105 d a.Number 1 1073741824) fun f=>?_
 exact lf rfl
 exact lf rfl
def F82 (b:Z0) (d:Int):Option Int:=
 (aO (E:=Int⊕Unit) (fun(a:Int)=>if decide (a<(b.Last.length:Int))then(lget b.Last a).bind fun c=>if c.Site==d then some (.inr (.inl c.Number))else some (.inl (w64 (a+1)))else some (.inr (.inr ()))) B64 0).bind fun e=>(match e with|.inl x6=>some x6|.inr _=>some 0)
theorem ok82 {k} (d) (a:Z0) (b:Int):OD k (d+1) 82 [.agg (Z0.g a),i64 b]=(F82 a b).map (fun h=>i64 h):=by
 rw[od (fn:=p82) rfl rfl rfl]
 refine bz lm ?_
 refine bo (aI (S:=Int) (enc:=fun c=>(Q [(1,i64 b),(8,.is 2 (I Zz.g a.Last)),(9,i64 (a.Last.length:Int)),(10,i64 c)] [(0,.box (Z0.g a))])) (encE:=(fun|.inl e=>(rq [(4,i64 e)] [(0,.box (Z0.g a))])|.inr _=>(xq 0 [] [(0,.box (Z0.g a))]))) (fun c=>?_) B64 0) fun f=>?_
 refine io ?_ (lf rfl)
 refine bo rg fun i=>?_
 refine io (lf rfl) (lf rfl)
 rcases f with e|_
 exact lf rfl
 exact lf rfl
def Fn48 (w:List Zv) (e:Z0) (u:Int):Option (List Zv):=
 (F107 e).bind fun v=>(aO (E:=(List (Zz×Bool))×(List Zv)) (fun(⟨c,d,f⟩:Int×(List (Zz×Bool))×(List Zv))=>if decide (c<(v.length:Int))then(lget v c).bind fun a=>(F108 a).bind fun i=>((if(!i)||(mget d a false)then some true else(F82 e a.Site).bind fun j=>some (decide (a.Number>j)):Option (Bool))).bind fun k=>(Fn103 k a f e u).bind fun l=>some (.inl ((w64 (c+1)),(mput d a true),l))else some (.inr (d,f))) B64 (0,[],w)).bind fun⟨x,m⟩=>(aO (E:=Bool) (fun(⟨g,b⟩:Bool×Int)=>if decide (b<(e.Last.length:Int))then(lget e.Last b).bind fun h=>((if g then some true else(F108 h).bind fun n=>some (!n):Option (Bool))).bind fun o=>((if o then some true else((if decide (b>0)then(lget e.Last (w64 (b-1))).bind fun p=>some (decide (h.Site<=p.Site))else some false:Option (Bool))).bind fun q=>some q:Option (Bool))).bind fun r=>some (.inl (r,(w64 (b+1))))else some (.inr g)) B64 (false,0)).bind fun s=>(Fn103 s (Zz.mk 0 0) m e u).bind fun t=>some t
theorem okn48 {k} (d) (p:List Zv) (a:Z0) (i:Int):runR (XD k (d+4)) 48 [.ref 1 0] [(2,.lst 129 3 false (I Zv.g p)),(1,.box (ck a i (.own 2)))] 3 false=(Fn48 p a i).map (fun(s:List Zv)=>((.tup [],[(2,.lst 129 3 false (I Zv.g s)),(1,.box (ck a i (.own 2)))],0))):=by
 rw[xd (fn:=p48) rfl]
 refine bo (ok107 d a) fun t=>?_
 refine bz lm ?_
 refine bo (aI (S:=Int×(List (Zz×Bool))×(List Zv)) (enc:=fun⟨m,f,j⟩=>(Q [(0,.ref 1 0),(2,.map 3),(13,.is 2 (I Zz.g t)),(14,i64 (t.length:Int)),(15,i64 m)] [(3,.mp (I (mEnt (eA Zz.g) bv) f)),(2,.lst 129 3 false (I Zv.g j)),(1,.box (ck a i (.own 2)))])) (encE:=(fun(⟨h,c⟩:(List (Zz×Bool))×(List Zv))=>(xq 0 [(0,.ref 1 0)] [(3,.mp (I (mEnt (eA Zz.g) bv) h)),(2,.lst 129 3 false (I Zv.g c)),(1,.box (ck a i (.own 2)))]))) (fun⟨m,f,j⟩=>?_) B64 (0,[],p)) fun⟨h,c⟩=>?_
 refine io ?_ (lf rfl)
 refine bo rg fun b=>?_
 refine bo (ok108 (d+1) b) fun u=>?_
 refine bz (gor (bz (qD cT1 bv f b false) rfl)) ?_
 refine bo (e:=id) ?_ fun q=>?_
 refine io (lf rfl) ?_
 refine bo (ok82 (d+2) a b.Site) fun v=>?_
 exact lf rfl
 refine bo (okn103 (d+2) q b j a i) fun w=>?_
 refine bz (iU cT1 bv f b true) ?_
 exact lf rfl
 refine bz lm ?_
 refine bo (aI (S:=Bool×Int) (enc:=fun⟨n,o⟩=>(Q [(0,.ref 1 0),(5,bv n),(49,.is 2 (I Zz.g a.Last)),(50,i64 (a.Last.length:Int)),(51,i64 o)] [(3,.mp (I (mEnt (eA Zz.g) bv) h)),(2,.lst 129 3 false (I Zv.g c)),(1,.box (ck a i (.own 2)))])) (encE:=(fun(l:Bool)=>(xq 2 [(0,.ref 1 0),(5,bv l)] [(3,.mp (I (mEnt (eA Zz.g) bv) h)),(2,.lst 129 3 false (I Zv.g c)),(1,.box (ck a i (.own 2)))]))) (fun⟨n,o⟩=>?_) B64 (false,0)) fun l=>?_
 refine io ?_ (lf rfl)
 refine bo rg fun r=>?_
 refine bo (e:=id) ?_ fun y=>?_
 refine io (lf rfl) ?_
 refine bo (ok108 (d+1) r) fun x=>?_
 exact lf rfl
 refine bo (e:=id) ?_ fun B=>?_
 refine io (lf rfl) ?_
 refine bo (e:=id) ?_ fun A=>?_
 refine io ?_ (lf rfl)
 refine bo rg fun z=>?_
 exact lf rfl
 exact lf rfl
 exact lf rfl
 refine bo (okn103 (d+2) l (Zz.mk 0 0) c a i) fun C=>?_
 exact lf rfl
def F75 (b:Z0):Option Int:=
 (aO (E:=Int) (fun(⟨c,a⟩:Int×Int)=>if decide (a<(b.Parts.length:Int))then(lget b.Parts a).bind fun d=>some (.inl ((w64 (c+(d.Staves.length:Int))),(w64 (a+1))))else some (.inr c)) B64 (0,0)).bind fun e=>some e
theorem ok75 {k} (d) (a:Z0):OD k (d+1) 75 [.agg (Z0.g a)]=(F75 a).map (fun f=>i64 f):=by
 rw[od (fn:=p75) rfl rfl rfl]
 refine bz lm ?_
 refine bo (aI (S:=Int×Int) (enc:=fun⟨b,c⟩=>(Q [(3,i64 b),(7,.is 6 (I Zj.g a.Parts)),(8,i64 (a.Parts.length:Int)),(9,i64 c)] [(0,.box (Z0.g a))])) (encE:=(fun(e:Int)=>(xq 0 [(3,i64 e)] [(0,.box (Z0.g a))]))) (fun⟨b,c⟩=>?_) B64 (0,0)) fun e=>?_
 refine io ?_ (lf rfl)
 refine bo rg fun h=>?_
 refine bz lm ?_
 exact lf rfl
 exact lf rfl
def F110 (o:Int) (j:Zm) (n:Int):Option Bool:=
 (aO (E:=Bool) (fun(⟨d,b⟩:Bool×Int)=>if decide (b<(j.Cells.length:Int))then(lget j.Cells b).bind fun a=>((if d||((a.Voices.length:Int)==0)then some true else(lget a.Voices 0).bind fun g=>some ((g.Events.length:Int)==0):Option (Bool))).bind fun h=>((if h then some true else(lget a.Voices (w64 ((a.Voices.length:Int)-1))).bind fun i=>some ((i.Events.length:Int)==0):Option (Bool))).bind fun k=>(aO (E:=Bool) (fun(⟨e,c⟩:Bool×Int)=>if decide (c<(a.Voices.length:Int))then(lget a.Voices c).bind fun f=>some (.inl ((e||(((f.Events.length:Int)==0)&&(decide ((f.Tuplets.length:Int)>0)))),(w64 (c+1))))else some (.inr e)) B64 (k,0)).bind fun l=>some (.inl (l,(w64 (b+1))))else some (.inr d)) B64 (((j.Cells.length:Int)!=n),0)).bind fun m=>some m
theorem ok110 {k} (d) (o:Int) (a:Zm) (n:Int):OD k (d+1) 110 [i64 o,.agg (Zm.g a),.ip [i64 n]]=(F110 o a n).map (fun t=>bv t):=by
 rw[od (fn:=p110) rfl rfl rfl]
 refine bz lm ?_
 refine bz lm ?_
 refine bo (aI (S:=Bool×Int) (enc:=fun⟨f,b⟩=>(Q [(6,bv f),(18,.is 2 (I Zw.g a.Cells)),(19,i64 (a.Cells.length:Int)),(20,i64 b)] [(0,.box (Zm.g a))])) (encE:=(fun(l:Bool)=>(xq 0 [(6,bv l)] [(0,.box (Zm.g a))]))) (fun⟨f,b⟩=>?_) B64 (((a.Cells.length:Int)!=n),0)) fun l=>?_
 refine io ?_ (lf rfl)
 refine bo rg fun c=>?_
 refine bz (gor (bz lm rfl)) ?_
 refine bo (e:=id) ?_ fun q=>?_
 refine io (lf rfl) ?_
 refine bo rg fun p=>?_
 refine bz lm ?_
 exact lf rfl
 refine bo (e:=id) ?_ fun m=>?_
 refine io (lf rfl) ?_
 refine bz lm ?_
 refine bo rg fun r=>?_
 refine bz lm ?_
 exact lf rfl
 refine bz lm ?_
 refine bo (aI (S:=Bool×Int) (enc:=fun⟨h,i⟩=>(Q [(6,bv h),(18,.is 2 (I Zw.g a.Cells)),(19,i64 (a.Cells.length:Int)),(20,i64 b),(51,.is 2 (I Zo.g c.Voices)),(52,i64 (c.Voices.length:Int)),(53,i64 i)] [(1,.box (Zw.g c)),(0,.box (Zm.g a))])) (encE:=(fun(j:Bool)=>(xq 2 [(6,bv j),(18,.is 2 (I Zw.g a.Cells)),(19,i64 (a.Cells.length:Int)),(20,i64 b)] [(1,.box (Zw.g c)),(0,.box (Zm.g a))]))) (fun⟨h,i⟩=>?_) B64 (m,0)) fun j=>?_
 refine io ?_ (lf rfl)
 refine bo rg fun s=>?_
 refine bz (gor (bz lm (bz (gand (bz lm rfl)) rfl))) ?_
 exact lf rfl
 exact lf rfl
 exact lf rfl
def Fn109 (h:Int) (i:List Zv) (f:Z0) (j:Int):Option (List Zv):=
 (aO (E:=List Zv) (fun(⟨b,g⟩:Int×(List Zv))=>if decide (b<(f.Measures.length:Int))then(lget f.Measures b).bind fun a=>(F110 b a h).bind fun c=>(Fn103 c a.ID g f j).bind fun d=>some (.inl ((w64 (b+1)),d))else some (.inr g)) B64 (0,i)).bind fun e=>some e
theorem okn109 {k} (d) (b:Int) (j:List Zv) (a:Z0) (c:Int):runR (XD k (d+2)) 109 [.ref 1 0,.fn 110 [] [.ref 3 0]] [(3,.box [i64 b]),(2,.lst 129 3 false (I Zv.g j)),(1,.box (ck a c (.own 2)))] 4 false=(Fn109 b j a c).map (fun(i:List Zv)=>((.tup [],[(3,.box [i64 b]),(2,.lst 129 3 false (I Zv.g i)),(1,.box (ck a c (.own 2)))],0))):=by
 rw[xd (fn:=p109) rfl]
 refine bz lm ?_
 refine bo (aI (S:=Int×(List Zv)) (enc:=fun⟨l,m⟩=>(Q [(0,.ref 1 0),(1,.fn 110 [] [.ref 3 0]),(10,.is 22 (I Zm.g a.Measures)),(11,i64 (a.Measures.length:Int)),(12,i64 l)] [(3,.box [i64 b]),(2,.lst 129 3 false (I Zv.g m)),(1,.box (ck a c (.own 2)))])) (encE:=(fun(f:List Zv)=>(xq 0 [] [(3,.box [i64 b]),(2,.lst 129 3 false (I Zv.g f)),(1,.box (ck a c (.own 2)))]))) (fun⟨l,m⟩=>?_) B64 (0,j)) fun f=>?_
 refine io ?_ (lf rfl)
 refine bo rg fun e=>?_
 refine bo (ok110 d l e b) fun h=>?_
 refine bo (okn103 d h e.ID m a c) fun n=>?_
 exact lf rfl
 exact lf rfl
def Fn49 (b:List Zv) (a:Z0) (c:Int):Option (List Zv):=
 (F75 a).bind fun d=>(Fn109 d b a c).bind fun e=>some e
theorem okn49 {k} (d) (c:List Zv) (a:Z0) (b:Int):runR (XD k (d+3)) 49 [.ref 1 0] [(2,.lst 129 3 false (I Zv.g c)),(1,.box (ck a b (.own 2)))] 3 false=(Fn49 c a b).map (fun(f:List Zv)=>((.tup [],[(2,.lst 129 3 false (I Zv.g f)),(1,.box (ck a b (.own 2)))],0))):=by
 rw[xd (fn:=p49) rfl]
 refine bo (ok75 (d+1) a) fun e=>?_
 refine bo (okn109 d e c a b) fun h=>?_
 exact lf rfl
def F235:Option Z9:=
 some (Z9.mk (Zi.mk (⟨#[116,114,101,98,108,101]⟩:ByteArray) 71 (-2) 0 34 (-1) (-3)) (Zi.mk (⟨#[98,97,115,115]⟩:ByteArray) 70 2 0 22 (-3) (-5)) (Zi.mk (⟨#[97,108,116,111]⟩:ByteArray) 67 0 0 28 (-2) (-4)) (Zi.mk (⟨#[116,101,110,111,114]⟩:ByteArray) 67 2 0 26 (-2) (-2)) (Zi.mk (⟨#[115,111,112,114,97,110,111]⟩:ByteArray) 67 (-4) 0 32 (-2) (-3)) (Zi.mk (⟨#[109,101,122,122,111,115,111,112,114,97,110,111]⟩:ByteArray) 67 (-2) 0 30 (-2) (-3)) (Zi.mk (⟨#[98,97,114,105,116,111,110,101]⟩:ByteArray) 70 0 0 24 (-2) (-3)) (Zi.mk (⟨#[116,114,101,98,108,101,56]⟩:ByteArray) 71 (-2) (-1) 27 (-1) (-3)) (Zi.mk (⟨#[98,97,115,115,56]⟩:ByteArray) 70 2 (-1) 15 (-3) (-5)))
theorem ok235 {k} (d):OD k (d+1) 235 []=(F235).map (fun a=>.agg (Z9.g a)):=by
 rw[od (fn:=p235) rfl rfl rfl]
 exact lf rfl
def F174 (b:Int):Option (Zi×Int):=
 if(decide (b<1))||(decide (b>9))then some ((Zi.mk (⟨#[]⟩:ByteArray) 0 0 0 0 0 0),11)else(F235).bind fun a=>(lget [a.c0,a.c1,a.c2,a.c3,a.c4,a.c5,a.c6,a.c7,a.c8] (w64 (b-1))).bind fun c=>some (c,0)
theorem ok174 {k} (d) (b:Int):OD k (d+2) 174 [i64 b]=(F174 b).map (fun⟨c,e⟩=>.tup [.agg (Zi.g c),i64 e]):=by
 rw[od (fn:=p174) rfl rfl rfl]
 refine bz (gor rfl) ?_
 refine io (lf rfl) ?_
 refine bo (ok235 d) fun a=>?_
 refine bo (vX (A:=Zi) Zi.g [a.c0,a.c1,a.c2,a.c3,a.c4,a.c5,a.c6,a.c7,a.c8] (w64 (b-1)) rfl (fun _=>rfl) rfl) fun f=>?_
 exact lf rfl
def F111 (a:Int):Option Int:=
 (F174 a).bind fun⟨c,b⟩=>some b
theorem ok111 {k} (d) (a:Int):OD k (d+3) 111 [i64 a]=(F111 a).map (fun b=>i64 b):=by
 rw[od (fn:=p111) rfl rfl rfl]
 refine bo (ok174 d a) fun⟨c,e⟩=>?_
 exact lf rfl
def F258 (a:Zx):Option Bool:=
 if((a.Groups.c0==0)&&((a.Groups.c1==0)&&((a.Groups.c2==0)&&((a.Groups.c3==0)&&((a.Groups.c4==0)&&((a.Groups.c5==0)&&true))))))!=false then some true else(aO (E:=(Int×Int)⊕(Int×Int)) (fun(⟨d,b,e⟩:Int×Int×Int)=>if decide (e<6)then(lget [a.Groups.c0,a.Groups.c1,a.Groups.c2,a.Groups.c3,a.Groups.c4,a.Groups.c5] e).bind fun c=>if((decide (c<0))||(decide (c>64)))||((decide (c>0))&&(e !=b))then some (.inr (.inl (d,b)))else((if decide (c>0)then some ((w64 (d+c)),(w64 (b+1)))else some (d,b):Option (Int×Int))).bind fun⟨h,f⟩=>some (.inl (h,f,(w64 (e+1))))else some (.inr (.inr (d,b)))) B64 (0,0,0)).bind fun g=>(match g with|.inl ⟨x11,x12⟩=>some false|.inr ⟨x13,x14⟩=>some ((x13==a.Count)&&(decide (x14>=2))))
theorem ok258 {k} (d) (a:Zx):OD k (d+1) 258 [.agg (Zx.g a)]=(F258 a).map (fun n=>bv n):=by
 rw[od (fn:=p258) rfl rfl rfl]
 refine io (lf rfl) ?_
 refine bo (aI (S:=Int×Int×Int) (enc:=fun⟨j,l,h⟩=>(Q [(1,.ref 0 0),(3,i64 j),(4,i64 l),(12,.agg (Z6.g a.Groups)),(13,i64 h)] [(0,.box (Zx.g a))])) (encE:=(fun|.inl ⟨c,f⟩=>(rq [(1,.ref 0 0),(2,bv false),(3,i64 c),(4,i64 f)] [(0,.box (Zx.g a))])|.inr ⟨x13,x14⟩=>(xq 0 [(1,.ref 0 0),(3,i64 x13),(4,i64 x14)] [(0,.box (Zx.g a))]))) (fun⟨j,l,h⟩=>?_) B64 (0,0,0)) fun i=>?_
 refine io ?_ (lf rfl)
 refine bo (lA .i64 [a.Groups.c0,a.Groups.c1,a.Groups.c2,a.Groups.c3,a.Groups.c4,a.Groups.c5] h rfl) fun o=>?_
 refine bz (gor rfl) ?_
 refine bz (gor (bz (gand rfl) rfl)) ?_
 refine io (lf rfl) ?_
 refine bo (e:=(fun(⟨m,b⟩:Int×Int)=>(nq [(1,.ref 0 0),(3,i64 m),(4,i64 b),(12,.agg (Z6.g a.Groups)),(13,i64 h)] [(0,.box (Zx.g a))]))) ?_ fun⟨m,b⟩=>?_
 refine io (lf rfl) (lf rfl)
 exact lf rfl
 rcases i with⟨c,f⟩|⟨x13,x14⟩
 exact lf rfl
 refine bz (gand rfl) ?_
 exact lf rfl
def F236 (a:Zx):Option Int:=
 if(decide (a.Count<1))||(decide (a.Count>64))then some 2 else if((decide (a.Unit<1))||(decide (a.Unit>64)))||((iand .i64 a.Unit (w64 (a.Unit-1)))!=0)then some 17 else(F258 a).bind fun b=>if !b then some 19 else some 0
theorem ok236 {k} (d) (a:Zx):OD k (d+2) 236 [.agg (Zx.g a)]=(F236 a).map (fun b=>i64 b):=by
 rw[od (fn:=p236) rfl rfl rfl]
 refine bz (gor rfl) ?_
 refine io (lf rfl) ?_
 refine bz (gor rfl) ?_
 refine bz (gor rfl) ?_
 refine io (lf rfl) ?_
 refine bo (ok258 d a) fun c=>?_
 refine io (lf rfl) (lf rfl)
def F259 (a:Zx):Option Int:=
 (quoO .i64 1935360 a.Unit).bind fun b=>some b
theorem ok259 {k} (d) (a:Zx):OD k (d+1) 259 [.agg (Zx.g a)]=(F259 a).map (fun b=>i64 b):=by
 rw[od (fn:=p259) rfl rfl rfl]
 refine bo oi fun c=>?_
 exact lf rfl
def F237 (a:Zx):Option Int:=
 (F259 a).bind fun b=>some (w64 (a.Count*b))
theorem ok237 {k} (d) (a:Zx):OD k (d+2) 237 [.agg (Zx.g a)]=(F237 a).map (fun b=>i64 b):=by
 rw[od (fn:=p237) rfl rfl rfl]
 refine bo (ok259 d a) fun c=>?_
 exact lf rfl
def F175 (a:Zx):Option (Int×Int):=
 (F236 a).bind fun b=>if b !=0 then some (0,b)else(F237 a).bind fun c=>some (c,0)
theorem ok175 {k} (d) (a:Zx):OD k (d+3) 175 [.agg (Zx.g a)]=(F175 a).map (fun⟨b,c⟩=>.tup [i64 b,i64 c]):=by
 rw[od (fn:=p175) rfl rfl rfl]
 refine bo (ok236 d a) fun e=>?_
 refine io (lf rfl) ?_
 refine bo (ok237 d a) fun f=>?_
 exact lf rfl
def F113 (a:Zm):Option (Int×Int):=
 (F175 a.Metre).bind fun⟨d,c⟩=>if c !=0 then some (0,c)else if decide (a.Length<0)then some (0,2)else((if decide (a.Length>0)then some a.Length else some d:Option (Int))).bind fun b=>(remO .i64 b 7560).bind fun e=>if e !=0 then some (0,16)else if decide (b>15482880)then some (0,5)else some (b,0)
theorem ok113 {k} (d) (a:Zm):OD k (d+4) 113 [.agg (Zm.g a)]=(F113 a).map (fun⟨c,f⟩=>.tup [i64 c,i64 f]):=by
 rw[od (fn:=p113) rfl rfl rfl]
 refine bo (ok175 d a.Metre) fun⟨h,i⟩=>?_
 refine io (lf rfl) ?_
 refine io (lf rfl) ?_
 refine bo (e:=(fun(b:Int)=>(nq [(4,i64 b)] [(0,.box (Zm.g a))]))) ?_ fun b=>?_
 refine io (lf rfl) (lf rfl)
 refine bo oi fun j=>?_
 refine io (lf rfl) ?_
 refine io (lf rfl) (lf rfl)
def F112 (s:Int) (g:Zm):Option Bool:=
 (F113 g).bind fun⟨q,r⟩=>(aO (E:=Bool) (fun(⟨e,b⟩:Bool×Int)=>if decide (b<(g.Cells.length:Int))then(lget g.Cells b).bind fun c=>(aO (E:=Bool) (fun(⟨f,a⟩:Bool×Int)=>if decide (a<(c.Clefs.length:Int))then(lget c.Clefs a).bind fun d=>((if f then some true else(F111 d.Clef).bind fun h=>some (h !=0):Option (Bool))).bind fun i=>((if i then some true else(F105 d.At 0 (w64 (q-1))).bind fun j=>some (!j):Option (Bool))).bind fun k=>((if k then some true else((if decide (a>0)then(lget c.Clefs (w64 (a-1))).bind fun l=>some (decide (d.At<=l.At))else some false:Option (Bool))).bind fun m=>some m:Option (Bool))).bind fun n=>some (.inl (n,(w64 (a+1))))else some (.inr f)) B64 (e,0)).bind fun o=>some (.inl (o,(w64 (b+1))))else some (.inr e)) B64 (false,0)).bind fun p=>some (p&&(r==0))
theorem ok112 {k} (d) (p:Int) (a:Zm):OD k (d+5) 112 [i64 p,.agg (Zm.g a)]=(F112 p a).map (fun x=>bv x):=by
 rw[od (fn:=p112) rfl rfl rfl]
 refine bo (ok113 d a) fun⟨n,o⟩=>?_
 refine bz lm ?_
 refine bo (aI (S:=Bool×Int) (enc:=fun⟨f,b⟩=>(Q [(5,i64 n),(6,i64 o),(7,bv f),(18,.is 2 (I Zw.g a.Cells)),(19,i64 (a.Cells.length:Int)),(20,i64 b)] [(0,.box (Zm.g a))])) (encE:=(fun(m:Bool)=>(xq 0 [(6,i64 o),(7,bv m)] [(0,.box (Zm.g a))]))) (fun⟨f,b⟩=>?_) B64 (false,0)) fun m=>?_
 refine io ?_ (lf rfl)
 refine bo rg fun c=>?_
 refine bz lm ?_
 refine bo (aI (S:=Bool×Int) (enc:=fun⟨h,i⟩=>(Q [(5,i64 n),(6,i64 o),(7,bv h),(9,.ref 1 0),(18,.is 2 (I Zw.g a.Cells)),(19,i64 (a.Cells.length:Int)),(20,i64 b),(25,.is 2 (I Zc.g c.Clefs)),(26,i64 (c.Clefs.length:Int)),(27,i64 i)] [(1,.box (Zw.g c)),(0,.box (Zm.g a))])) (encE:=(fun(l:Bool)=>(xq 2 [(5,i64 n),(6,i64 o),(7,bv l),(18,.is 2 (I Zw.g a.Cells)),(19,i64 (a.Cells.length:Int)),(20,i64 b)] [(1,.box (Zw.g c)),(0,.box (Zm.g a))]))) (fun⟨h,i⟩=>?_) B64 (f,0)) fun l=>?_
 refine io ?_ (lf rfl)
 refine bo rg fun j=>?_
 refine bo (e:=id) ?_ fun r=>?_
 refine io (lf rfl) ?_
 refine bo (ok111 (d+1) j.Clef) fun q=>?_
 exact lf rfl
 refine bo (e:=id) ?_ fun t=>?_
 refine io (lf rfl) ?_
 refine bo (ok105 (d+3) j.At 0 (w64 (n-1))) fun s=>?_
 exact lf rfl
 refine bo (e:=id) ?_ fun w=>?_
 refine io (lf rfl) ?_
 refine bo (e:=id) ?_ fun v=>?_
 refine io ?_ (lf rfl)
 refine bo rg fun u=>?_
 exact lf rfl
 exact lf rfl
 exact lf rfl
 exact lf rfl
 refine bz (gand rfl) ?_
 exact lf rfl
def Fn109_2 (h:List Zv) (e:Z0) (i:Int):Option (List Zv):=
 (aO (E:=List Zv) (fun(⟨a,f⟩:Int×(List Zv))=>if decide (a<(e.Measures.length:Int))then(lget e.Measures a).bind fun g=>(F112 a g).bind fun b=>(Fn103 b g.ID f e i).bind fun c=>some (.inl ((w64 (a+1)),c))else some (.inr f)) B64 (0,h)).bind fun d=>some d
theorem okn109_2 {k} (d) (e:List Zv) (a:Z0) (b:Int):runR (XD k (d+6)) 109 [.ref 1 0,.fn 112 [] []] [(2,.lst 129 3 false (I Zv.g e)),(1,.box (ck a b (.own 2)))] 3 false=(Fn109_2 e a b).map (fun(h:List Zv)=>((.tup [],[(2,.lst 129 3 false (I Zv.g h)),(1,.box (ck a b (.own 2)))],0))):=by
 rw[xd (fn:=p109) rfl]
 refine bz lm ?_
 refine bo (aI (S:=Int×(List Zv)) (enc:=fun⟨i,j⟩=>(Q [(0,.ref 1 0),(1,.fn 112 [] []),(10,.is 22 (I Zm.g a.Measures)),(11,i64 (a.Measures.length:Int)),(12,i64 i)] [(2,.lst 129 3 false (I Zv.g j)),(1,.box (ck a b (.own 2)))])) (encE:=(fun(c:List Zv)=>(xq 0 [] [(2,.lst 129 3 false (I Zv.g c)),(1,.box (ck a b (.own 2)))]))) (fun⟨i,j⟩=>?_) B64 (0,e)) fun c=>?_
 refine io ?_ (lf rfl)
 refine bo rg fun l=>?_
 refine bo (ok112 d i l) fun f=>?_
 refine bo (okn103 (d+4) f l.ID j a b) fun m=>?_
 exact lf rfl
 exact lf rfl
def Fn50 (n:List Zv) (g:Z0) (m:Int):Option (List Zv):=
 (aO (E:=List Zv) (fun(⟨a,c⟩:Int×(List Zv))=>if decide (a<(g.Parts.length:Int))then(lget g.Parts a).bind fun d=>(aO (E:=List Zv) (fun(⟨b,e⟩:Int×(List Zv))=>if decide (b<(d.Staves.length:Int))then(lget d.Staves b).bind fun f=>(F111 f.Clef).bind fun h=>(Fn103 (h !=0) f.ID e g m).bind fun i=>some (.inl ((w64 (b+1)),i))else some (.inr e)) B64 (0,c)).bind fun j=>some (.inl ((w64 (a+1)),j))else some (.inr c)) B64 (0,n)).bind fun k=>(Fn109_2 k g m).bind fun l=>some l
theorem okn50 {k} (d) (n:List Zv) (a:Z0) (e:Int):runR (XD k (d+7)) 50 [.ref 1 0] [(2,.lst 129 3 false (I Zv.g n)),(1,.box (ck a e (.own 2)))] 3 false=(Fn50 n a e).map (fun(p:List Zv)=>((.tup [],[(2,.lst 129 3 false (I Zv.g p)),(1,.box (ck a e (.own 2)))],0))):=by
 rw[xd (fn:=p50) rfl]
 refine bz lm ?_
 refine bo (aI (S:=Int×(List Zv)) (enc:=fun⟨b,f⟩=>(Q [(0,.ref 1 0),(10,.is 6 (I Zj.g a.Parts)),(11,i64 (a.Parts.length:Int)),(12,i64 b)] [(2,.lst 129 3 false (I Zv.g f)),(1,.box (ck a e (.own 2)))])) (encE:=(fun(i:List Zv)=>(xq 0 [(0,.ref 1 0)] [(2,.lst 129 3 false (I Zv.g i)),(1,.box (ck a e (.own 2)))]))) (fun⟨b,f⟩=>?_) B64 (0,n)) fun i=>?_
 refine io ?_ (lf rfl)
 refine bo rg fun c=>?_
 refine bz lm ?_
 refine bo (aI (S:=Int×(List Zv)) (enc:=fun⟨j,h⟩=>(Q [(0,.ref 1 0),(10,.is 6 (I Zj.g a.Parts)),(11,i64 (a.Parts.length:Int)),(12,i64 b),(17,.is 3 (I Zf.g c.Staves)),(18,i64 (c.Staves.length:Int)),(19,i64 j)] [(3,.box (Zj.g c)),(2,.lst 129 3 false (I Zv.g h)),(1,.box (ck a e (.own 2)))])) (encE:=(fun(m:List Zv)=>(xq 2 [(0,.ref 1 0),(10,.is 6 (I Zj.g a.Parts)),(11,i64 (a.Parts.length:Int)),(12,i64 b)] [(3,.box (Zj.g c)),(2,.lst 129 3 false (I Zv.g m)),(1,.box (ck a e (.own 2)))]))) (fun⟨j,h⟩=>?_) B64 (0,f)) fun m=>?_
 refine io ?_ (lf rfl)
 refine bo rg fun l=>?_
 refine bo (ok111 (d+3) l.Clef) fun o=>?_
 refine bo (okn103 (d+5) (o !=0) l.ID h a e) fun q=>?_
 exact lf rfl
 exact lf rfl
 refine bo (okn109_2 d i a e) fun r=>?_
 exact lf rfl
def F176 (a:Int):Option Int:=
 if(decide (a<(-7)))||(decide (a>7))then some 2 else some 0
theorem ok176 {k} (d) (a:Int):OD k (d+1) 176 [i64 a]=(F176 a).map (fun b=>i64 b):=by
 rw[od (fn:=p176) rfl rfl rfl]
 refine bz (gor rfl) ?_
 refine io (lf rfl) (lf rfl)
def F115 (d:Int) (a:Zl):Option (Int×Int):=
 (F176 d).bind fun e=>if e !=0 then some (0,e)else if(((decide (a.Steps<(-77)))||(decide (a.Steps>77)))||(decide (a.Semitones<(-140))))||(decide (a.Semitones>140))then some (0,2)else(aO (E:=Int) (fun(b:Int)=>if decide (b>7)then some (.inl (w64 (b-12)))else some (.inr b)) B64 (w64 (d+(w64 ((w64 (7*a.Semitones))-(w64 (12*a.Steps))))))).bind fun f=>(aO (E:=Int) (fun(c:Int)=>if decide (c<(-7))then some (.inl (w64 (c+12)))else some (.inr c)) B64 f).bind fun g=>some (g,0)
theorem ok115 {k} (d) (b:Int) (a:Zl):OD k (d+2) 115 [i64 b,.agg (Zl.g a)]=(F115 b a).map (fun⟨i,j⟩=>.tup [i64 i,i64 j]):=by
 rw[od (fn:=p115) rfl rfl rfl]
 refine bo (ok176 d b) fun l=>?_
 refine io (lf rfl) ?_
 refine bz (gor rfl) ?_
 refine bz (gor rfl) ?_
 refine bz (gor rfl) ?_
 refine io (lf rfl) ?_
 refine bo (aI (S:=Int) (enc:=fun e=>(Q [(0,i64 e)] [(0,.box (Zl.g a))])) (encE:=(fun(c:Int)=>(xq 0 [(0,i64 c)] [(0,.box (Zl.g a))]))) (fun e=>?_) B64 (w64 (b+(w64 ((w64 (7*a.Semitones))-(w64 (12*a.Steps))))))) fun c=>?_
 refine io (lf rfl) (lf rfl)
 refine bo (aI (S:=Int) (enc:=fun f=>(Q [(0,i64 f)] [(0,.box (Zl.g a))])) (encE:=(fun(h:Int)=>(xq 2 [(0,i64 h)] [(0,.box (Zl.g a))]))) (fun f=>?_) B64 c) fun h=>?_
 refine io (lf rfl) (lf rfl)
 exact lf rfl
def F114 (m:Int) (g:Zm) (h:Zk):Option Bool:=
 (F113 g).bind fun⟨n,j⟩=>((if j !=0 then some true else(F105 g.Fifths (-7) 7).bind fun k=>some (!k):Option (Bool))).bind fun l=>(aO (E:=Bool) (fun(⟨a,b⟩:Bool×Int)=>if decide (b<(h.s'.Parts.length:Int))then(lget h.s'.Parts b).bind fun c=>((if h.s'.Written&&(!a)then(F115 g.Fifths c.Transpose).bind fun⟨i,d⟩=>some (d !=0)else some a:Option (Bool))).bind fun e=>some (.inl (e,(w64 (b+1))))else some (.inr a)) B64 (l,0)).bind fun f=>some f
theorem ok114 {k} (d) (l:Int) (a:Zm) (b:Zk):OD k (d+5) 114 [i64 l,.agg (Zm.g a),.ip [.ip (Zk.g b)]]=(F114 l a b).map (fun p=>bv p):=by
 rw[od (fn:=p114) rfl rfl rfl]
 refine bo (ok113 d a) fun⟨q,r⟩=>?_
 refine bo (e:=id) ?_ fun o=>?_
 refine io (lf rfl) ?_
 refine bo (ok105 (d+3) a.Fifths (-7) 7) fun s=>?_
 exact lf rfl
 refine bz lm ?_
 refine bo (aI (S:=Bool×Int) (enc:=fun⟨f,c⟩=>(Q [(2,.ip [.ip (Zk.g b)]),(4,.ref 0 0),(8,bv f),(28,.is 6 (I Zj.g b.s'.Parts)),(29,i64 (b.s'.Parts.length:Int)),(30,i64 c)] [(0,.box (Zm.g a))])) (encE:=(fun(j:Bool)=>(xq 0 [(8,bv j)] [(0,.box (Zm.g a))]))) (fun⟨f,c⟩=>?_) B64 (o,0)) fun j=>?_
 refine io ?_ (lf rfl)
 refine bo rg fun h=>?_
 refine bz (gand rfl) ?_
 refine bo (e:=(fun(i:Bool)=>(nq [(2,.ip [.ip (Zk.g b)]),(4,.ref 0 0),(8,bv i),(28,.is 6 (I Zj.g b.s'.Parts)),(29,i64 (b.s'.Parts.length:Int)),(30,i64 c)] [(1,.box (Zj.g h)),(0,.box (Zm.g a))]))) ?_ fun i=>?_
 refine io ?_ (lf rfl)
 refine bo (ok115 (d+2) a.Fifths h.Transpose) fun⟨m,n⟩=>?_
 exact lf rfl
 exact lf rfl
 exact lf rfl
def Fn109_3 (i:List Zv) (a:Z0) (g:Int):Option (List Zv):=
 (aO (E:=List Zv) (fun(⟨b,f⟩:Int×(List Zv))=>if decide (b<(a.Measures.length:Int))then(lget a.Measures b).bind fun h=>(F114 b h (Zk.mk a g f)).bind fun c=>(Fn103 c h.ID f a g).bind fun d=>some (.inl ((w64 (b+1)),d))else some (.inr f)) B64 (0,i)).bind fun e=>some e
theorem okn109_3 {k} (d) (f:List Zv) (a:Z0) (b:Int):runR (XD k (d+6)) 109 [.ref 1 0,.fn 114 [] [.ref 3 0]] [(3,.box [.ref 1 0]),(2,.lst 129 3 false (I Zv.g f)),(1,.box (ck a b (.own 2)))] 4 false=(Fn109_3 f a b).map (fun(i:List Zv)=>((.tup [],[(3,.box [.ref 1 0]),(2,.lst 129 3 false (I Zv.g i)),(1,.box (ck a b (.own 2)))],0))):=by
 rw[xd (fn:=p109) rfl]
 refine bz lm ?_
 refine bo (aI (S:=Int×(List Zv)) (enc:=fun⟨j,e⟩=>(Q [(0,.ref 1 0),(1,.fn 114 [] [.ref 3 0]),(10,.is 22 (I Zm.g a.Measures)),(11,i64 (a.Measures.length:Int)),(12,i64 j)] [(3,.box [.ref 1 0]),(2,.lst 129 3 false (I Zv.g e)),(1,.box (ck a b (.own 2)))])) (encE:=(fun(c:List Zv)=>(xq 0 [] [(3,.box [.ref 1 0]),(2,.lst 129 3 false (I Zv.g c)),(1,.box (ck a b (.own 2)))]))) (fun⟨j,e⟩=>?_) B64 (0,f)) fun c=>?_
 refine io ?_ (lf rfl)
 refine bo rg fun l=>?_
 refine bo (ok114 d j l (Zk.mk a b e)) fun h=>?_
 refine bo (okn103 (d+4) h l.ID e a b) fun m=>?_
 exact lf rfl
 exact lf rfl
def Fn51 (a:List Zv) (b:Z0) (c:Int):Option (List Zv):=
 (Fn109_3 a b c).bind fun d=>some d
theorem okn51 {k} (d) (c:List Zv) (a:Z0) (b:Int):runR (XD k (d+7)) 51 [.ref 1 0] [(2,.lst 129 3 false (I Zv.g c)),(1,.box (ck a b (.own 2)))] 3 false=(Fn51 c a b).map (fun(e:List Zv)=>((.tup [],[(2,.lst 129 3 false (I Zv.g e)),(1,.box (ck a b (.own 2)))],0))):=by
 rw[xd (fn:=p51) rfl]
 refine bo (okn109_3 d c a b) fun f=>?_
 exact lf rfl
def F186 (a b:Int):Option Int:=
 if(decide (a<0))||(decide (a>b))then some 2 else some 0
theorem ok186 {k} (d) (a b:Int):OD k (d+1) 186 [i64 a,i64 b]=(F186 a b).map (fun c=>i64 c):=by
 rw[od (fn:=p186) rfl rfl rfl]
 refine bz (gor rfl) ?_
 refine io (lf rfl) (lf rfl)
def F185 (b:List Int):Option Int:=
 (aO (E:=Int⊕Unit) (fun(a:Int)=>if decide (a<(b.length:Int))then(lget b a).bind fun c=>if c !=0 then some (.inr (.inl c))else some (.inl (w64 (a+1)))else some (.inr (.inr ()))) B64 0).bind fun d=>(match d with|.inl x5=>some x5|.inr _=>some 0)
theorem ok185 {k} (d) (a:List Int):OD k (d+1) 185 [.is 1 (I cI a)]=(F185 a).map (fun f=>i64 f):=by
 rw[od (fn:=p185) rfl rfl rfl]
 refine bz lm ?_
 refine bo (aI (S:=Int) (enc:=fun b=>(Q [(5,.is 1 (I cI a)),(6,i64 (a.length:Int)),(7,i64 b)] [])) (encE:=(fun|.inl c=>(rq [(2,i64 c)] [])|.inr _=>(xq 0 [] []))) (fun b=>?_) B64 0) fun e=>?_
 refine io ?_ (lf rfl)
 refine bo rg fun g=>?_
 refine io (lf rfl) (lf rfl)
 rcases e with c|_
 exact lf rfl
 exact lf rfl
def F187 (a:Int):Option Bool:=
 some ((decide (a>=1))&&(decide (a<=4)))
theorem ok187 {k} (d) (a:Int):OD k (d+1) 187 [i64 a]=(F187 a).map (fun b=>bv b):=by
 rw[od (fn:=p187) rfl rfl rfl]
 refine bz (gand rfl) ?_
 exact lf rfl
def F242 (a:Int):Option Int:=
 if decide (a<0)then some 0 else some (iand .i64 a 16)
theorem ok242 {k} (d) (a:Int):OD k (d+1) 242 [i64 a]=(F242 a).map (fun b=>i64 b):=by
 rw[od (fn:=p242) rfl rfl rfl]
 refine io (lf rfl) (lf rfl)
def F188 (a:Ze):Option Ze:=
 ((if a.Kind==1 then some true else(F187 a.Kind).bind fun b=>some (!b):Option (Bool))).bind fun c=>if c then some a else((if a.Kind !=3 then some a.Value else some (Za.mk 0 0):Option (Za))).bind fun d=>((if a.Kind !=4 then(F242 a.Articulations).bind fun e=>some e else some 0:Option (Int))).bind fun f=>some (Ze.mk a.ID a.Kind d [] [] f 0 a.Dynamic [] 0 0)
theorem ok188 {k} (d) (a:Ze):OD k (d+2) 188 [.agg (Ze.g a)]=(F188 a).map (fun f=>.agg (Ze.g f)):=by
 rw[od (fn:=p188) rfl rfl rfl]
 refine bo (e:=id) ?_ fun i=>?_
 refine io (lf rfl) ?_
 refine bo (ok187 d a.Kind) fun h=>?_
 exact lf rfl
 refine io (lf rfl) ?_
 refine bo (e:=(fun(b:Za)=>(nq [(1,.ref 0 0),(2,.ref 1 0),(3,.ref 2 0)] [(2,.box [i64 a.ID.Site,i64 a.ID.Number,i64 a.Kind,i64 b.Log,i64 b.Dots,.v (.slice none 0 0),.v (.slice none 0 0),i64 0,i64 0,i64 a.Dynamic,.v (.slice none 0 0),i64 0,i64 0]),(1,.box [i64 0,i64 0,i64 0,i64 0,i64 0,.v (.slice none 0 0),.v (.slice none 0 0),i64 0,i64 0,i64 0,.v (.slice none 0 0),i64 0,i64 0]),(0,.box (Ze.g a))]))) ?_ fun b=>?_
 refine io (lf rfl) (lf rfl)
 refine bo (e:=(fun(c:Int)=>(nq [(2,.ref 1 0),(3,.ref 2 0)] [(2,.box [i64 a.ID.Site,i64 a.ID.Number,i64 a.Kind,i64 b.Log,i64 b.Dots,.v (.slice none 0 0),.v (.slice none 0 0),i64 c,i64 0,i64 a.Dynamic,.v (.slice none 0 0),i64 0,i64 0]),(1,.box [i64 0,i64 0,i64 0,i64 0,i64 0,.v (.slice none 0 0),.v (.slice none 0 0),i64 0,i64 0,i64 0,.v (.slice none 0 0),i64 0,i64 0]),(0,.box (Ze.g a))]))) ?_ fun c=>?_
 refine io ?_ (lf rfl)
 refine bo (ok242 d a.Articulations) fun j=>?_
 exact lf rfl
 exact lf rfl
def F218 (d e:List Zb):Option Bool:=
 if(d.length:Int)!=(e.length:Int)then some false else(aO (E:=Unit⊕Unit) (fun(c:Int)=>if decide (c<(d.length:Int))then(lget d c).bind fun a=>(lget e c).bind fun b=>if((a.Pitch.Step==b.Pitch.Step)&&((a.Pitch.Alter==b.Pitch.Alter)&&((a.Pitch.Octave==b.Pitch.Octave)&&((a.Tied==b.Tied)&&((a.Show==b.Show)&&true)))))!=true then some (.inr (.inl ()))else some (.inl (w64 (c+1)))else some (.inr (.inr ()))) B64 0).bind fun f=>(match f with|.inl _=>some false|.inr _=>some true)
theorem ok218 {k} (d) (a b:List Zb):OD k (d+1) 218 [.is 5 (I Zb.g a),.is 5 (I Zb.g b)]=(F218 a b).map (fun f=>bv f):=by
 rw[od (fn:=p218) rfl rfl rfl]
 refine bz lm ?_
 refine bz lm ?_
 refine io (lf rfl) ?_
 refine bz lm ?_
 refine bo (aI (S:=Int) (enc:=fun c=>(Q [(0,.is 5 (I Zb.g a)),(1,.is 5 (I Zb.g b)),(12,i64 (a.length:Int)),(13,i64 c)] [])) (encE:=(fun|.inl _=>(rq [(4,bv false)] [])|.inr _=>(xq 0 [] []))) (fun c=>?_) B64 0) fun e=>?_
 refine io ?_ (lf rfl)
 refine bo rg fun h=>?_
 refine bo rg fun i=>?_
 refine io (lf rfl) (lf rfl)
 rcases e with _|_
 exact lf rfl
 exact lf rfl
def F219 (d e:List Zd):Option Bool:=
 if(d.length:Int)!=(e.length:Int)then some false else(aO (E:=Unit⊕Unit) (fun(c:Int)=>if decide (c<(d.length:Int))then(lget d c).bind fun a=>(lget e c).bind fun b=>if((a.Pitch.Step==b.Pitch.Step)&&((a.Pitch.Alter==b.Pitch.Alter)&&((a.Pitch.Octave==b.Pitch.Octave)&&((a.Log==b.Log)&&((a.Slash==b.Slash)&&true)))))!=true then some (.inr (.inl ()))else some (.inl (w64 (c+1)))else some (.inr (.inr ()))) B64 0).bind fun f=>(match f with|.inl _=>some false|.inr _=>some true)
theorem ok219 {k} (d) (a b:List Zd):OD k (d+1) 219 [.is 5 (I Zd.g a),.is 5 (I Zd.g b)]=(F219 a b).map (fun f=>bv f):=by
 rw[od (fn:=p219) rfl rfl rfl]
 refine bz lm ?_
 refine bz lm ?_
 refine io (lf rfl) ?_
 refine bz lm ?_
 refine bo (aI (S:=Int) (enc:=fun c=>(Q [(0,.is 5 (I Zd.g a)),(1,.is 5 (I Zd.g b)),(12,i64 (a.length:Int)),(13,i64 c)] [])) (encE:=(fun|.inl _=>(rq [(4,bv false)] [])|.inr _=>(xq 0 [] []))) (fun c=>?_) B64 0) fun e=>?_
 refine io ?_ (lf rfl)
 refine bo rg fun h=>?_
 refine bo rg fun i=>?_
 refine io (lf rfl) (lf rfl)
 rcases e with _|_
 exact lf rfl
 exact lf rfl
end Go.P
namespace Go.P
open Go.Sim (Ex OpK CK)
open K (I Q rq nq xq ck)
def F220 (b c:List Zy):Option Bool:=
 if(b.length:Int)!=(c.length:Int)then some false else(aO (E:=Unit⊕Unit) (fun(a:Int)=>if decide (a<(b.length:Int))then(lget b a).bind fun d=>(lget c a).bind fun e=>if((d.Text==e.Text)&&((d.Link==e.Link)&&true))!=true then some (.inr (.inl ()))else some (.inl (w64 (a+1)))else some (.inr (.inr ()))) B64 0).bind fun f=>(match f with|.inl _=>some false|.inr _=>some true)
theorem ok220 {k} (d) (a b:List Zy):OD k (d+1) 220 [.is 2 (I Zy.g a),.is 2 (I Zy.g b)]=(F220 a b).map (fun f=>bv f):=by
 rw[od (fn:=p220) rfl rfl rfl]
 refine bz lm ?_
 refine bz lm ?_
 refine io (lf rfl) ?_
 refine bz lm ?_
 refine bo (aI (S:=Int) (enc:=fun c=>(Q [(0,.is 2 (I Zy.g a)),(1,.is 2 (I Zy.g b)),(12,i64 (a.length:Int)),(13,i64 c)] [])) (encE:=(fun|.inl _=>(rq [(4,bv false)] [])|.inr _=>(xq 0 [] []))) (fun c=>?_) B64 0) fun e=>?_
 refine io ?_ (lf rfl)
 refine bo rg fun h=>?_
 refine bo rg fun i=>?_
 refine io (lf rfl) (lf rfl)
 rcases e with _|_
 exact lf rfl
 exact lf rfl
def F151 (a b:Ze):Option Bool:=
 ((if((((((a.Kind==b.Kind)&&(((a.Value.Log==b.Value.Log)&&((a.Value.Dots==b.Value.Dots)&&true))!=false))&&(a.Articulations==b.Articulations))&&(a.Ornament==b.Ornament))&&(a.Dynamic==b.Dynamic))&&(a.Stem==b.Stem))&&(a.Beam==b.Beam)then(F218 a.Heads b.Heads).bind fun c=>some c else some false:Option (Bool))).bind fun d=>((if d then(F219 a.Graces b.Graces).bind fun e=>some e else some false:Option (Bool))).bind fun f=>((if f then(F220 a.Lyrics b.Lyrics).bind fun g=>some g else some false:Option (Bool))).bind fun h=>some h
theorem ok151 {k} (d) (a b:Ze):OD k (d+2) 151 [.agg (Ze.g a),.agg (Ze.g b)]=(F151 a b).map (fun c=>bv c):=by
 rw[od (fn:=p151) rfl rfl rfl]
 refine bz (gand rfl) ?_
 refine bz (gand rfl) ?_
 refine bz (gand rfl) ?_
 refine bz (gand rfl) ?_
 refine bz (gand rfl) ?_
 refine bz (gand rfl) ?_
 refine bo (e:=id) ?_ fun h=>?_
 refine io ?_ (lf rfl)
 refine bo (ok218 d a.Heads b.Heads) fun f=>?_
 exact lf rfl
 refine bo (e:=id) ?_ fun j=>?_
 refine io ?_ (lf rfl)
 refine bo (ok219 d a.Graces b.Graces) fun i=>?_
 exact lf rfl
 refine bo (e:=id) ?_ fun m=>?_
 refine io ?_ (lf rfl)
 refine bo (ok220 d a.Lyrics b.Lyrics) fun l=>?_
 exact lf rfl
 exact lf rfl
def F189 (a:Za):Option Int:=
 if(((decide (a.Log<(-1)))||(decide (a.Log>8)))||(decide (a.Dots<0)))||(decide (a.Dots>3))then some 17 else some 0
theorem ok189 {k} (d) (a:Za):OD k (d+1) 189 [.agg (Za.g a)]=(F189 a).map (fun b=>i64 b):=by
 rw[od (fn:=p189) rfl rfl rfl]
 refine bz (gor rfl) ?_
 refine bz (gor rfl) ?_
 refine bz (gor rfl) ?_
 refine io (lf rfl) (lf rfl)
def F245:Option uD:=
 some (uD.mk 0 2 4 5 7 9 11)
theorem ok245 {k} (d):OD k (d+1) 245 []=(F245).map (fun a=>.agg (uD.g a)):=by
 rw[od (fn:=p245) rfl rfl rfl]
 exact lf rfl
def F194 (b:Zh):Option Int:=
 (F245).bind fun a=>(lget [a.c0,a.c1,a.c2,a.c3,a.c4,a.c5,a.c6] b.Step).bind fun c=>some (w64 ((w64 ((w64 (12*(w64 (b.Octave+1))))+c))+b.Alter))
theorem ok194 {k} (d) (b:Zh):OD k (d+2) 194 [.agg (Zh.g b)]=(F194 b).map (fun c=>i64 c):=by
 rw[od (fn:=p194) rfl rfl rfl]
 refine bo (ok245 d) fun a=>?_
 refine bo (lA .i64 [a.c0,a.c1,a.c2,a.c3,a.c4,a.c5,a.c6] b.Step rfl) fun e=>?_
 exact lf rfl
def F193 (a:Zh):Option Int:=
 if(((((decide (a.Step<0))||(decide (a.Step>6)))||(decide (a.Alter<(-2))))||(decide (a.Alter>2)))||(decide (a.Octave<(-1))))||(decide (a.Octave>9))then some 18 else(F194 a).bind fun b=>if(decide (b<0))||(decide (b>127))then some 18 else some 0
theorem ok193 {k} (d) (a:Zh):OD k (d+3) 193 [.agg (Zh.g a)]=(F193 a).map (fun b=>i64 b):=by
 rw[od (fn:=p193) rfl rfl rfl]
 refine bz (gor rfl) ?_
 refine bz (gor rfl) ?_
 refine bz (gor rfl) ?_
 refine bz (gor rfl) ?_
 refine bz (gor rfl) ?_
 refine io (lf rfl) ?_
 refine bo (ok194 d a) fun c=>?_
 refine bz (gor rfl) ?_
 refine io (lf rfl) (lf rfl)
def F125 (a:Zh):Option (Int×Int):=
 (F193 a).bind fun b=>if b !=0 then some (0,b)else(F194 a).bind fun c=>some (c,0)
theorem ok125 {k} (d) (a:Zh):OD k (d+4) 125 [.agg (Zh.g a)]=(F125 a).map (fun⟨b,c⟩=>.tup [i64 b,i64 c]):=by
 rw[od (fn:=p125) rfl rfl rfl]
 refine bo (ok193 d a) fun e=>?_
 refine io (lf rfl) ?_
 refine bo (ok194 (d+1) a) fun f=>?_
 exact lf rfl
def F228 (b:Zh):Option (Int×Int):=
 (F125 b).bind fun⟨a,c⟩=>if((c !=0)||(decide (a<0)))||(decide (a>127))then some (0,18)else some (a,0)
theorem ok228 {k} (d) (a:Zh):OD k (d+5) 228 [.agg (Zh.g a)]=(F228 a).map (fun⟨b,c⟩=>.tup [i64 b,i64 c]):=by
 rw[od (fn:=p228) rfl rfl rfl]
 refine bo (ok125 d a) fun⟨e,f⟩=>?_
 refine bz (gor rfl) ?_
 refine bz (gor rfl) ?_
 refine io (lf rfl) (lf rfl)
def F243 (a:Zb):Option Int:=
 (F228 a.Pitch).bind fun⟨e,b⟩=>(F186 a.Show 2).bind fun c=>(F185 [b,c]).bind fun d=>some d
theorem ok243 {k} (d) (a:Zb):OD k (d+6) 243 [.agg (Zb.g a)]=(F243 a).map (fun e=>i64 e):=by
 rw[od (fn:=p243) rfl rfl rfl]
 refine bo (ok228 d a.Pitch) fun⟨f,b⟩=>?_
 refine bo (ok186 (d+4) a.Show 2) fun c=>?_
 refine bo (ok185 (d+4) [b,c]) fun h=>?_
 exact lf rfl
def F190 (b:List Zb):Option Int:=
 if(b.length:Int)==0 then some 4 else if decide ((b.length:Int)>10)then some 9 else(aO (E:=Int⊕Unit) (fun(⟨h,d⟩:Int×Int)=>if decide (d<(b.length:Int))then(lget b d).bind fun e=>(F243 e).bind fun f=>if f !=0 then some (.inr (.inl f))else(F228 e.Pitch).bind fun⟨a,g⟩=>if decide (a<=h)then some (.inr (.inl 25))else some (.inl (a,(w64 (d+1))))else some (.inr (.inr ()))) B64 ((-1),0)).bind fun c=>(match c with|.inl x12=>some x12|.inr _=>some 0)
theorem ok190 {k} (d) (b:List Zb):OD k (d+7) 190 [.is 5 (I Zb.g b)]=(F190 b).map (fun l=>i64 l):=by
 rw[od (fn:=p190) rfl rfl rfl]
 refine bz lm ?_
 refine io (lf rfl) ?_
 refine bz lm ?_
 refine io (lf rfl) ?_
 refine bz lm ?_
 refine bo (aI (S:=Int×Int) (enc:=fun⟨e,f⟩=>(Q [(3,i64 e),(17,.is 5 (I Zb.g b)),(18,i64 (b.length:Int)),(19,i64 f)] [])) (encE:=(fun|.inl a=>(rq [(2,i64 a)] [])|.inr _=>(xq 1 [] []))) (fun⟨e,f⟩=>?_) B64 ((-1),0)) fun c=>?_
 refine io ?_ (lf rfl)
 refine bo rg fun h=>?_
 refine bo (ok243 d h) fun m=>?_
 refine io (lf rfl) ?_
 refine bo (ok228 (d+1) h.Pitch) fun⟨i,j⟩=>?_
 refine io (lf rfl) (lf rfl)
 rcases c with a|_
 exact lf rfl
 exact lf rfl
def F191 (a:List Zd):Option Int:=
 if decide ((a.length:Int)>8)then some 9 else(aO (E:=Int⊕Unit) (fun(c:Int)=>if decide (c<(a.length:Int))then(lget a c).bind fun d=>(F228 d.Pitch).bind fun⟨f,e⟩=>if e !=0 then some (.inr (.inl e))else if(decide (d.Log<1))||(decide (d.Log>6))then some (.inr (.inl 2))else some (.inl (w64 (c+1)))else some (.inr (.inr ()))) B64 0).bind fun b=>(match b with|.inl x9=>some x9|.inr _=>some 0)
theorem ok191 {k} (d) (a:List Zd):OD k (d+6) 191 [.is 5 (I Zd.g a)]=(F191 a).map (fun h=>i64 h):=by
 rw[od (fn:=p191) rfl rfl rfl]
 refine bz lm ?_
 refine io (lf rfl) ?_
 refine bz lm ?_
 refine bo (aI (S:=Int) (enc:=fun c=>(Q [(10,.is 5 (I Zd.g a)),(11,i64 (a.length:Int)),(12,i64 c)] [])) (encE:=(fun|.inl e=>(rq [(2,i64 e)] [])|.inr _=>(xq 0 [] []))) (fun c=>?_) B64 0) fun b=>?_
 refine io ?_ (lf rfl)
 refine bo rg fun f=>?_
 refine bo (ok228 d f.Pitch) fun⟨i,j⟩=>?_
 refine io (lf rfl) ?_
 refine bz (gor rfl) ?_
 refine io (lf rfl) (lf rfl)
 rcases b with e|_
 exact lf rfl
 exact lf rfl
def F244 (a:Zy):Option Int:=
 if(decide (a.Link<0))||(decide (a.Link>2))then some 2 else if decide ((a.Text.size:Int)>256)then some 5 else(aO (E:=Unit⊕Unit) (fun(b:Int)=>if decide (b<(a.Text.size:Int))then(lI a.Text b).bind fun c=>((if decide (c<32)then some true else(lI a.Text b).bind fun d=>some (d==127):Option (Bool))).bind fun e=>if e then some (.inr (.inl ()))else some (.inl (w64 (b+1)))else some (.inr (.inr ()))) B64 0).bind fun f=>(match f with|.inl _=>some 6|.inr _=>if(a.Text.toList==(⟨#[]⟩:ByteArray).toList)&&(a.Link==1)then some 3 else some 0)
theorem ok244 {k} (d) (a:Zy):OD k (d+1) 244 [.agg (Zy.g a)]=(F244 a).map (fun f=>i64 f):=by
 rw[od (fn:=p244) rfl rfl rfl]
 refine bz (gor rfl) ?_
 refine io (lf rfl) ?_
 refine io (lf rfl) ?_
 refine bo (aI (S:=Int) (enc:=fun b=>(Q [(1,.ref 0 0),(20,i64 (a.Text.size:Int)),(21,i64 b)] [(0,.box (Zy.g a))])) (encE:=(fun|.inl _=>(rq [(1,.ref 0 0),(2,i64 6)] [(0,.box (Zy.g a))])|.inr _=>(xq 1 [(1,.ref 0 0)] [(0,.box (Zy.g a))]))) (fun b=>?_) B64 0) fun c=>?_
 refine io ?_ (lf rfl)
 refine bo oi fun h=>?_
 refine bo (e:=id) ?_ fun j=>?_
 refine io (lf rfl) ?_
 refine bo oi fun i=>?_
 exact lf rfl
 refine io (lf rfl) (lf rfl)
 rcases c with _|_
 exact lf rfl
 refine bz (gand rfl) ?_
 refine io (lf rfl) (lf rfl)
def F233 (a:Zy):Option Bool:=
 some (((a.Text==(⟨#[]⟩:ByteArray))&&((a.Link==0)&&true))!=false)
theorem ok233 {k} (d) (a:Zy):OD k (d+1) 233 [.agg (Zy.g a)]=(F233 a).map (fun b=>bv b):=by
 rw[od (fn:=p233) rfl rfl rfl]
 exact lf rfl
def F192 (a:List Zy):Option Int:=
 if decide ((a.length:Int)>4)then some 9 else(aO (E:=Int⊕Unit) (fun(d:Int)=>if decide (d<(a.length:Int))then(lget a d).bind fun f=>(F244 f).bind fun e=>if e !=0 then some (.inr (.inl e))else some (.inl (w64 (d+1)))else some (.inr (.inr ()))) B64 0).bind fun g=>(match g with|.inl x7=>some x7|.inr _=>((if decide ((a.length:Int)>0)then(lget a (w64 ((a.length:Int)-1))).bind fun h=>(F233 h).bind fun b=>some b else some false:Option (Bool))).bind fun c=>if c then some 3 else some 0)
theorem ok192 {k} (d) (a:List Zy):OD k (d+2) 192 [.is 2 (I Zy.g a)]=(F192 a).map (fun m=>i64 m):=by
 rw[od (fn:=p192) rfl rfl rfl]
 refine bz lm ?_
 refine io (lf rfl) ?_
 refine bz lm ?_
 refine bo (aI (S:=Int) (enc:=fun b=>(Q [(0,.is 2 (I Zy.g a)),(10,.is 2 (I Zy.g a)),(11,i64 (a.length:Int)),(12,i64 b)] [])) (encE:=(fun|.inl c=>(rq [(0,.is 2 (I Zy.g a)),(2,i64 c)] [])|.inr _=>(xq 0 [(0,.is 2 (I Zy.g a))] []))) (fun b=>?_) B64 0) fun j=>?_
 refine io ?_ (lf rfl)
 refine bo rg fun i=>?_
 refine bo (ok244 d i) fun n=>?_
 refine io (lf rfl) (lf rfl)
 rcases j with c|_
 exact lf rfl
 refine bz lm ?_
 refine bo (e:=id) ?_ fun h=>?_
 refine io ?_ (lf rfl)
 refine bo rg fun l=>?_
 refine bo (ok233 d l) fun f=>?_
 exact lf rfl
 refine io (lf rfl) (lf rfl)
def F121 (a:Ze):Option Int:=
 (F186 a.ID.Site 99).bind fun s=>(F186 a.ID.Number 1073741824).bind fun t=>(F185 [s,t]).bind fun r=>if r !=0 then some r else(F187 a.Kind).bind fun u=>if !u then some 11 else(F188 a).bind fun v=>(F151 a v).bind fun w=>if !w then some 3 else((if a.Kind !=3 then(F189 a.Value).bind fun x=>some (x !=0)else some false:Option (Bool))).bind fun y=>if y then some 17 else if a.Kind==1 then(F190 a.Heads).bind fun c=>(F191 a.Graces).bind fun d=>(F192 a.Lyrics).bind fun e=>(F185 [c,d,e]).bind fun b=>if b !=0 then some b else(F186 a.Articulations 31).bind fun f=>(F186 a.Ornament 4).bind fun g=>(F186 a.Dynamic 9).bind fun h=>(F186 a.Stem 2).bind fun i=>(F186 a.Beam 2).bind fun j=>(F185 [f,g,h,i,j]).bind fun k=>some k else(F186 a.Articulations 31).bind fun l=>(F186 a.Ornament 4).bind fun m=>(F186 a.Dynamic 9).bind fun n=>(F186 a.Stem 2).bind fun o=>(F186 a.Beam 2).bind fun p=>(F185 [l,m,n,o,p]).bind fun q=>some q
theorem ok121 {k} (d) (a:Ze):OD k (d+8) 121 [.agg (Ze.g a)]=(F121 a).map (fun y=>i64 y):=by
 rw[od (fn:=p121) rfl rfl rfl]
 refine bo (ok186 (d+6) a.ID.Site 99) fun u=>?_
 refine bo (ok186 (d+6) a.ID.Number 1073741824) fun w=>?_
 refine bo (ok185 (d+6) [u,w]) fun z=>?_
 refine io (lf rfl) ?_
 refine bo (ok187 (d+6) a.Kind) fun A=>?_
 refine io (lf rfl) ?_
 refine bo (ok188 (d+5) a) fun x=>?_
 refine bo (ok151 (d+5) a x) fun B=>?_
 refine io (lf rfl) ?_
 refine bo (e:=id) ?_ fun D=>?_
 refine io ?_ (lf rfl)
 refine bo (ok189 (d+6) a.Value) fun C=>?_
 exact lf rfl
 refine io (lf rfl) ?_
 refine io ?_ ?_
 refine bo (ok190 d a.Heads) fun b=>?_
 refine bo (ok191 (d+1) a.Graces) fun c=>?_
 refine bo (ok192 (d+5) a.Lyrics) fun f=>?_
 refine bo (ok185 (d+6) [b,c,f]) fun s=>?_
 refine io (lf rfl) ?_
 refine bo (ok186 (d+6) a.Articulations 31) fun h=>?_
 refine bo (ok186 (d+6) a.Ornament 4) fun i=>?_
 refine bo (ok186 (d+6) a.Dynamic 9) fun j=>?_
 refine bo (ok186 (d+6) a.Stem 2) fun l=>?_
 refine bo (ok186 (d+6) a.Beam 2) fun m=>?_
 refine bo (ok185 (d+6) [h,i,j,l,m]) fun t=>?_
 exact lf rfl
 refine bo (ok186 (d+6) a.Articulations 31) fun n=>?_
 refine bo (ok186 (d+6) a.Ornament 4) fun o=>?_
 refine bo (ok186 (d+6) a.Dynamic 9) fun p=>?_
 refine bo (ok186 (d+6) a.Stem 2) fun q=>?_
 refine bo (ok186 (d+6) a.Beam 2) fun r=>?_
 refine bo (ok185 (d+6) [n,o,p,q,r]) fun v=>?_
 exact lf rfl
def F178 (a:Ze):Option Bool:=
 (F121 a).bind fun b=>some (b !=0)
theorem ok178 {k} (d) (a:Ze):OD k (d+9) 178 [.agg (Ze.g a)]=(F178 a).map (fun b=>bv b):=by
 rw[od (fn:=p178) rfl rfl rfl]
 refine bo (ok121 d a) fun c=>?_
 exact lf rfl
def F240 (b:List Ze):Option Int:=
 (aO (E:=Int⊕Unit) (fun(a:Int)=>if decide (a<(b.length:Int))then(lget b a).bind fun c=>(F178 c).bind fun d=>if d then some (.inr (.inl a))else some (.inl (w64 (a+1)))else some (.inr (.inr ()))) B64 0).bind fun e=>(match e with|.inl x7=>some x7|.inr _=>some (-1))
theorem ok240 {k} (d) (a:List Ze):OD k (d+10) 240 [.is 13 (I Ze.g a),.fn 178 [] []]=(F240 a).map (fun h=>i64 h):=by
 rw[od (fn:=p240) rfl rfl rfl]
 refine bz lm ?_
 refine bo (aI (S:=Int) (enc:=fun b=>(Q [(0,.is 13 (I Ze.g a)),(1,.fn 178 [] []),(7,i64 (a.length:Int)),(8,i64 b)] [])) (encE:=(fun|.inl c=>(rq [(4,i64 c)] [])|.inr _=>(xq 0 [] []))) (fun b=>?_) B64 0) fun f=>?_
 refine io ?_ (lf rfl)
 refine bo rg fun e=>?_
 refine bo (ok178 d e) fun i=>?_
 refine io (lf rfl) (lf rfl)
 rcases f with c|_
 exact lf rfl
 exact lf rfl
def F183 (a:List Ze):Option Bool:=
 (F240 a).bind fun b=>some (decide (b>=0))
theorem ok183 {k} (d) (a:List Ze):OD k (d+11) 183 [.is 13 (I Ze.g a),.fn 178 [] []]=(F183 a).map (fun b=>bv b):=by
 rw[od (fn:=p183) rfl rfl rfl]
 refine bo (ok240 d a) fun c=>?_
 exact lf rfl
def F270 (a:Zo):Option Bool:=
 ((if decide ((a.Events.length:Int)>0)then(lget a.Events 0).bind fun b=>some (b.Kind==3)else some false:Option (Bool))).bind fun c=>some c
theorem ok270 {k} (d) (a:Zo):OD k (d+1) 270 [.agg (Zo.g a)]=(F270 a).map (fun b=>bv b):=by
 rw[od (fn:=p270) rfl rfl rfl]
 refine bz lm ?_
 refine bo (e:=id) ?_ fun f=>?_
 refine io ?_ (lf rfl)
 refine bo rg fun c=>?_
 exact lf rfl
 exact lf rfl
def F288 (a:Za):Option Int:=
 (shrO .i64 3870720 (w64 (a.Log+1))).bind fun b=>(aO (E:=Int) (fun(⟨f,c,d⟩:Int×Int×Int)=>if decide (d<a.Dots)then(quoO .i64 f 2).bind fun e=>some (.inl (e,(w64 (c+e)),(w64 (d+1))))else some (.inr c)) B64 (b,b,0)).bind fun g=>some g
theorem ok288 {k} (d) (a:Za):OD k (d+1) 288 [.agg (Za.g a)]=(F288 a).map (fun i=>i64 i):=by
 rw[od (fn:=p288) rfl rfl rfl]
 refine bo oi fun b=>?_
 refine bo (aI (S:=Int×Int×Int) (enc:=fun⟨c,e,f⟩=>(Q [(3,i64 c),(4,i64 e),(11,i64 a.Dots),(12,i64 f)] [(0,.box (Za.g a))])) (encE:=(fun(h:Int)=>(xq 0 [(4,i64 h)] [(0,.box (Za.g a))]))) (fun⟨c,e,f⟩=>?_) B64 (b,b,0)) fun h=>?_
 refine io ?_ (lf rfl)
 refine bo oi fun j=>?_
 exact lf rfl
 exact lf rfl
def F282 (a:Za):Option (Int×Int):=
 (F189 a).bind fun b=>if b !=0 then some (0,b)else(F288 a).bind fun c=>some (c,0)
theorem ok282 {k} (d) (a:Za):OD k (d+2) 282 [.agg (Za.g a)]=(F282 a).map (fun⟨b,c⟩=>.tup [i64 b,i64 c]):=by
 rw[od (fn:=p282) rfl rfl rfl]
 refine bo (ok189 d a) fun e=>?_
 refine io (lf rfl) ?_
 refine bo (ok288 d a) fun f=>?_
 exact lf rfl
def F278 (a:Ze):Option (Int×Int):=
 (F121 a).bind fun b=>if(b !=0)||(a.Kind==3)then some (0,b)else(F282 a.Value).bind fun⟨c,d⟩=>some (c,d)
theorem ok278 {k} (d) (a:Ze):OD k (d+9) 278 [.agg (Ze.g a)]=(F278 a).map (fun⟨b,c⟩=>.tup [i64 b,i64 c]):=by
 rw[od (fn:=p278) rfl rfl rfl]
 refine bo (ok121 d a) fun e=>?_
 refine bz (gor rfl) ?_
 refine io (lf rfl) ?_
 refine bo (ok282 (d+6) a.Value) fun⟨f,h⟩=>?_
 exact lf rfl
def F274 (b:List Ze):Option (List Int):=
 (uC (b.length:Int) (b.length:Int) 0).bind fun k=>(aO (E:=List Int) (fun(⟨c,a⟩:Int×(List Int))=>if decide (c<(b.length:Int))then(lget b c).bind fun d=>(F278 d).bind fun⟨e,i⟩=>(lidx a c).bind fun f=>(lput a f (fun j=>e)).bind fun g=>some (.inl ((w64 (c+1)),g))else some (.inr a)) B64 (0,k)).bind fun h=>some h
theorem ok274 {k} (d) (e:List Ze):OD k (d+10) 274 [.is 13 (I Ze.g e)]=(F274 e).map (fun r=>.is 1 (I cI r)):=by
 rw[od (fn:=p274) rfl rfl rfl]
 refine bz lm ?_
 refine bo (fK cI _ _ 0) fun q=>?_
 refine bz lm ?_
 refine bo (aI (S:=Int×(List Int)) (enc:=fun⟨j,a⟩=>(Q [(3,.own 0),(9,.is 13 (I Ze.g e)),(10,i64 (e.length:Int)),(11,i64 j)] [(0,.lst 3 1 true (I cI a))])) (encE:=(fun(b:List Int)=>(xq 0 [(3,.own 0)] [(0,.lst 3 1 true (I cI b))]))) (fun⟨j,a⟩=>?_) B64 (0,q)) fun b=>?_
 refine io ?_ (lf rfl)
 refine bo rg fun h=>?_
 refine bo (ok278 d h) fun⟨i,l⟩=>?_
 refine bo (aT cI a _) fun n=>?_
 refine bo (oM (A:=Int) (c:=cI) (m:=1) (f:=fun o=>i) (fun _=>⟨rfl,rfl⟩) (nV1 rfl) a _) fun p=>?_
 exact lf rfl
 exact lf rfl
def F285 (a:Int):Option Bool:=
 some ((decide (a>=1))&&(decide (a<=32)))
theorem ok285 {k} (d) (a:Int):OD k (d+1) 285 [i64 a]=(F285 a).map (fun b=>bv b):=by
 rw[od (fn:=p285) rfl rfl rfl]
 refine bz (gand rfl) ?_
 exact lf rfl
def F286 (a b:Zu):Option Int:=
 if a.First !=b.First then if decide (a.First<b.First)then some (-1)else some 1 else if a.Count !=b.Count then if decide (a.Count>b.Count)then some (-1)else some 1 else some 0
theorem ok286 {k} (d) (a b:Zu):OD k (d+1) 286 [.agg (Zu.g a),.agg (Zu.g b)]=(F286 a b).map (fun c=>i64 c):=by
 rw[od (fn:=p286) rfl rfl rfl]
 refine io ?_ ?_
 refine io (lf rfl) (lf rfl)
 refine io ?_ (lf rfl)
 refine io (lf rfl) (lf rfl)
def F284 (a:Zu):Option Int:=
 some (w64 (a.First+a.Count))
theorem ok284 {k} (d) (a:Zu):OD k (d+1) 284 [.agg (Zu.g a)]=(F284 a).map (fun b=>i64 b):=by
 rw[od (fn:=p284) rfl rfl rfl]
 exact lf rfl
def Fn283 (c:Zu) (o:List Zu):Option (Bool×(List Zu)):=
 (aO (E:=List Zu) (fun(b:List Zu)=>((if decide ((b.length:Int)>0)then(lidx b (w64 ((b.length:Int)-1))).bind fun p=>(lnth b p).bind fun d=>(F284 d).bind fun e=>some (decide (e<=c.First))else some false:Option (Bool))).bind fun f=>if f then(lQ b (w64 ((b.length:Int)-1))).bind fun g=>some (.inl g)else some (.inr b)) B64 o).bind fun a=>((if(a.length:Int)==3 then some true else((if decide ((a.length:Int)>0)then(F284 c).bind fun h=>(lidx a (w64 ((a.length:Int)-1))).bind fun i=>(lnth a i).bind fun j=>(F284 j).bind fun k=>some (decide (h>k))else some false:Option (Bool))).bind fun l=>some l:Option (Bool))).bind fun m=>if m then some (false,a)else(lapp true a [c]).bind fun n=>some (true,n)
theorem okn283 {k} (d) (i:Zu) (j:List Zu):runR (XD k (d+2)) 283 [.agg (Zu.g i),.ref 0 0] [(1,.lst 226 4 true (I Zu.g j)),(0,.box [.own 1])] 2 false=(Fn283 i j).map (fun(⟨l,n⟩:Bool×(List Zu))=>((bv l,[(1,.lst 226 4 true (I Zu.g n)),(0,.box [.own 1])],0))):=by
 rw[xd (fn:=p283) rfl]
 refine bo (aI (S:=List Zu) (enc:=fun h=>(Q [(1,.ref 0 0),(2,.ref 2 0)] [(2,.box (Zu.g i)),(1,.lst 226 4 true (I Zu.g h)),(0,.box [.own 1])])) (encE:=(fun(b:List Zu)=>(xq 0 [(1,.ref 0 0),(2,.ref 2 0)] [(2,.box (Zu.g i)),(1,.lst 226 4 true (I Zu.g b)),(0,.box [.own 1])]))) (fun h=>?_) B64 j) fun b=>?_
 refine bz (bP Zu.g h) ?_
 refine bo (e:=id) ?_ fun p=>?_
 refine io ?_ (lf rfl)
 refine bz (bP Zu.g h) ?_
 refine bo (aT Zu.g h _) fun x=>?_
 refine bo (iT (A:=Zu) (c:=Zu.g) (m:=4) (g:=fun a=>[i64 a.First,i64 a.Count,i64 a.Actual,i64 a.Normal]) (fun _=>⟨rfl,rfl⟩) (nV1 rfl) h _) fun a=>?_
 refine bo (ok284 d a) fun o=>?_
 exact lf rfl
 refine io ?_ (lf rfl)
 refine bz (bP Zu.g h) ?_
 refine bo (kJ Zu.g h (w64 ((h.length:Int)-1))) fun q=>?_
 exact lf rfl
 refine bz (bP Zu.g b) ?_
 refine bo (e:=id) ?_ fun v=>?_
 refine io (lf rfl) ?_
 refine bo (e:=id) ?_ fun u=>?_
 refine io ?_ (lf rfl)
 refine bo (ok284 d i) fun r=>?_
 refine bo (aT Zu.g b _) fun s=>?_
 refine bo (iT (A:=Zu) (c:=Zu.g) (m:=4) (g:=fun f=>[i64 f.First,i64 f.Count,i64 f.Actual,i64 f.Normal]) (fun _=>⟨rfl,rfl⟩) (nV1 rfl) b _) fun f=>?_
 refine bo (ok284 d f) fun t=>?_
 exact lf rfl
 exact lf rfl
 refine io (lf rfl) ?_
 refine bo (aV true Zu.g b [i]) fun w=>?_
 exact lf rfl
def F279 (e:List Zu) (f:Int):Option Int:=
 if(decide (f<0))||(decide (f>128))then some 2 else if decide ((e.length:Int)>16)then some 9 else(aO (E:=(Int×(List Zu))⊕(List Zu)) (fun(⟨b,c⟩:Int×(List Zu))=>if decide (b<(e.length:Int))then(lget e b).bind fun a=>((if(((decide (a.Count<1))||(decide (a.Count>f)))||(decide (a.First<0)))||(decide (a.First>(w64 (f-a.Count))))then some true else(F285 a.Actual).bind fun g=>some (!g):Option (Bool))).bind fun h=>((if h then some true else(F285 a.Normal).bind fun i=>some (!i):Option (Bool))).bind fun j=>if j||(a.Actual==a.Normal)then some (.inr (.inl (2,c)))else((if decide (b>0)then(lget e (w64 (b-1))).bind fun k=>(F286 k a).bind fun l=>some (decide (l>0))else some false:Option (Bool))).bind fun m=>if m then some (.inr (.inl (25,c)))else(Fn283 a c).bind fun⟨n,d⟩=>if !n then some (.inr (.inl (21,d)))else some (.inl ((w64 (b+1)),d))else some (.inr (.inr c))) B64 (0,[])).bind fun o=>(match o with|.inl ⟨x25,x26⟩=>some x25|.inr x27=>some 0)
theorem ok279 {k} (d) (c:List Zu) (j:Int):OD k (d+3) 279 [.is 4 (I Zu.g c),i64 j]=(F279 c j).map (fun v=>i64 v):=by
 rw[od (fn:=p279) rfl rfl rfl]
 refine bz (gor rfl) ?_
 refine io (lf rfl) ?_
 refine bz lm ?_
 refine io (lf rfl) ?_
 refine bz lm ?_
 refine bo (aI (S:=Int×(List Zu)) (enc:=fun⟨f,b⟩=>(Q [(0,.is 4 (I Zu.g c)),(1,i64 j),(6,.fn 283 [] [.ref 0 0]),(19,.is 4 (I Zu.g c)),(20,i64 (c.length:Int)),(21,i64 f)] [(1,.lst 226 4 true (I Zu.g b)),(0,.box [.own 1])])) (encE:=(fun|.inl ⟨h,i⟩=>(rq [(4,i64 h)] [(1,.lst 226 4 true (I Zu.g i)),(0,.box [.own 1])])|.inr x27=>(xq 0 [] [(1,.lst 226 4 true (I Zu.g x27)),(0,.box [.own 1])]))) (fun⟨f,b⟩=>?_) B64 (0,[])) fun m=>?_
 refine io ?_ (lf rfl)
 refine bo rg fun a=>?_
 refine bz (gor rfl) ?_
 refine bz (gor rfl) ?_
 refine bz (gor rfl) ?_
 refine bo (e:=id) ?_ fun o=>?_
 refine io (lf rfl) ?_
 refine bo (ok285 (d+1) a.Actual) fun n=>?_
 exact lf rfl
 refine bo (e:=id) ?_ fun q=>?_
 refine io (lf rfl) ?_
 refine bo (ok285 (d+1) a.Normal) fun p=>?_
 exact lf rfl
 refine bz (gor rfl) ?_
 refine io (lf rfl) ?_
 refine bo (e:=id) ?_ fun s=>?_
 refine io ?_ (lf rfl)
 refine bo rg fun l=>?_
 refine bo (ok286 (d+1) l a) fun r=>?_
 exact lf rfl
 refine io (lf rfl) ?_
 refine bo (okn283 d a b) fun⟨t,u⟩=>?_
 refine io (lf rfl) (lf rfl)
 rcases m with⟨h,i⟩|x27
 exact lf rfl
 exact lf rfl
def F289 (a:Zu) (b:Int):Option Bool:=
 some ((decide (b>=a.First))&&(decide ((w64 (b-a.First))<a.Count)))
theorem ok289 {k} (d) (a:Zu) (b:Int):OD k (d+1) 289 [.agg (Zu.g a),i64 b]=(F289 a b).map (fun c=>bv c):=by
 rw[od (fn:=p289) rfl rfl rfl]
 refine bz (gand rfl) ?_
 exact lf rfl
def F290 (c d:Int):Option Int:=
 (aO (E:=Int) (fun(⟨b,a⟩:Int×Int)=>if decide (a>0)then(remO .i64 b a).bind fun e=>some (.inl (a,e))else some (.inr b)) B64 (c,d)).bind fun f=>some f
theorem ok290 {k} (d) (a b:Int):OD k (d+1) 290 [i64 a,i64 b]=(F290 a b).map (fun g=>i64 g):=by
 rw[od (fn:=p290) rfl rfl rfl]
 refine bo (aI (S:=Int×Int) (enc:=fun⟨c,e⟩=>(Q [(0,i64 c),(1,i64 e)] [])) (encE:=(fun(f:Int)=>(xq 0 [(0,i64 f)] []))) (fun⟨c,e⟩=>?_) B64 (a,b)) fun f=>?_
 refine io ?_ (lf rfl)
 refine bo oi fun h=>?_
 exact lf rfl
 exact lf rfl
def F287 (m:List Zu) (n:Int):Option (Int×Int):=
 (aO (E:=Int×Int) (fun(⟨b,c,d⟩:Int×Int×Int)=>if decide (d<(m.length:Int))then(lget m d).bind fun a=>(F289 a n).bind fun f=>((if f then(F290 (w64 (b*a.Normal)) (w64 (c*a.Actual))).bind fun e=>(quoO .i64 (w64 (b*a.Normal)) e).bind fun g=>(quoO .i64 (w64 (c*a.Actual)) e).bind fun h=>some (g,h)else some (b,c):Option (Int×Int))).bind fun⟨i,j⟩=>some (.inl (i,j,(w64 (d+1))))else some (.inr (b,c))) B64 (1,1,0)).bind fun⟨k,l⟩=>some (k,l)
theorem ok287 {k} (d) (h:List Zu) (l:Int):OD k (d+2) 287 [.is 4 (I Zu.g h),i64 l]=(F287 h l).map (fun⟨s,t⟩=>.tup [i64 s,i64 t]):=by
 rw[od (fn:=p287) rfl rfl rfl]
 refine bz lm ?_
 refine bo (aI (S:=Int×Int×Int) (enc:=fun⟨b,c,f⟩=>(Q [(1,i64 l),(4,i64 b),(5,i64 c),(9,.is 4 (I Zu.g h)),(10,i64 (h.length:Int)),(11,i64 f)] [])) (encE:=(fun(⟨m,n⟩:Int×Int)=>(xq 0 [(4,i64 m),(5,i64 n)] []))) (fun⟨b,c,f⟩=>?_) B64 (1,1,0)) fun⟨m,n⟩=>?_
 refine io ?_ (lf rfl)
 refine bo rg fun a=>?_
 refine bo (ok289 d a l) fun o=>?_
 refine bo (e:=(fun(⟨i,j⟩:Int×Int)=>(nq [(1,i64 l),(4,i64 i),(5,i64 j),(9,.is 4 (I Zu.g h)),(10,i64 (h.length:Int)),(11,i64 f)] [(0,.box (Zu.g a))]))) ?_ fun⟨i,j⟩=>?_
 refine io ?_ (lf rfl)
 refine bo (ok290 d (w64 (b*a.Normal)) (w64 (c*a.Actual))) fun p=>?_
 refine bo oi fun q=>?_
 refine bo oi fun r=>?_
 exact lf rfl
 exact lf rfl
 exact lf rfl
def F280 (d:List Zu) (e a:Int):Option (Int×Int):=
 if(decide (a<0))||(decide (a>7741440))then some (0,2)else(F287 d e).bind fun⟨b,c⟩=>(remO .i64 (w64 (a*b)) c).bind fun f=>if f !=0 then some (0,16)else(quoO .i64 (w64 (a*b)) c).bind fun g=>some (g,0)
theorem ok280 {k} (d) (a:List Zu) (b c:Int):OD k (d+3) 280 [.is 4 (I Zu.g a),i64 b,i64 c]=(F280 a b c).map (fun⟨e,f⟩=>.tup [i64 e,i64 f]):=by
 rw[od (fn:=p280) rfl rfl rfl]
 refine bz (gor rfl) ?_
 refine io (lf rfl) ?_
 refine bo (ok287 d a b) fun⟨h,i⟩=>?_
 refine bo oi fun j=>?_
 refine io (lf rfl) ?_
 refine bo oi fun l=>?_
 exact lf rfl
def F275 (i:List Zu) (c:List Int):Option ((List Int)×Int):=
 (F279 i (c.length:Int)).bind fun j=>if j !=0 then some ([],j)else(uC 0 (c.length:Int) 0).bind fun k=>(aO (E:=(Int×(List Int))⊕(List Int)) (fun(⟨d,a⟩:Int×(List Int))=>if decide (d<(c.length:Int))then(lget c d).bind fun e=>(F280 i d e).bind fun⟨f,b⟩=>if b !=0 then some (.inr (.inl (b,a)))else(lapp true a [f]).bind fun g=>some (.inl ((w64 (d+1)),g))else some (.inr (.inr a))) B64 (0,k)).bind fun h=>(match h with|.inl ⟨x15,x16⟩=>some ([],x15)|.inr x17=>some (x17,0))
theorem ok275 {k} (d) (b:List Zu) (f:List Int):OD k (d+4) 275 [.is 4 (I Zu.g b),.is 1 (I cI f)]=(F275 b f).map (fun⟨p,q⟩=>.tup [.is 1 (I cI p),i64 q]):=by
 rw[od (fn:=p275) rfl rfl rfl]
 refine bz lm ?_
 refine bo (ok279 d b (f.length:Int)) fun r=>?_
 refine io (lf rfl) ?_
 refine bz lm ?_
 refine bo (fK cI _ _ 0) fun o=>?_
 refine bz lm ?_
 refine bo (aI (S:=Int×(List Int)) (enc:=fun⟨l,a⟩=>(Q [(0,.is 4 (I Zu.g b)),(7,.own 0),(22,.is 1 (I cI f)),(23,i64 (f.length:Int)),(24,i64 l)] [(0,.lst 3 1 true (I cI a))])) (encE:=(fun|.inl ⟨c,e⟩=>(rq [(4,.is 1 (I cI [])),(5,i64 c),(7,.own 0)] [(0,.lst 3 1 true (I cI e))])|.inr x17=>(xq 0 [(7,.own 0)] [(0,.lst 3 1 true (I cI x17))]))) (fun⟨l,a⟩=>?_) B64 (0,o)) fun j=>?_
 refine io ?_ (lf rfl)
 refine bo rg fun h=>?_
 refine bo (ok280 d b l h) fun⟨i,m⟩=>?_
 refine io (lf rfl) ?_
 refine bo (aV true cI a [i]) fun n=>?_
 exact lf rfl
 rcases j with⟨c,e⟩|x17
 exact lf rfl
 exact lf rfl
def F281 (d:List Zu) (n:Int) (o:List Int):Option (Int×Bool):=
 (lget d n).bind fun m=>(aO (E:=Int⊕Int) (fun(⟨c,a⟩:Int×Int)=>(F284 m).bind fun e=>if decide (a<e)then(dU d (w64 (n+1)) ((d).length)).bind fun f=>(lget o a).bind fun g=>(F280 f a g).bind fun⟨h,i⟩=>if i !=0 then some (.inr (.inl c))else some (.inl ((w64 (c+h)),(w64 (a+1))))else some (.inr (.inr c))) B64 (0,m.First)).bind fun j=>(match j with|.inl x17=>some (0,false)|.inr x18=>(aO (E:=Int⊕Unit) (fun(b:Int)=>if decide (b<=8)then(shrO .i64 3870720 (w64 (b+1))).bind fun k=>if x18==(w64 (m.Actual*k))then some (.inr (.inl b))else some (.inl (w64 (b+1)))else some (.inr (.inr ()))) B64 (-1)).bind fun l=>(match l with|.inl x23=>some (x23,true)|.inr _=>some (0,false)))
theorem ok281 {k} (d) (i:List Zu) (n:Int) (p:List Int):OD k (d+4) 281 [.is 4 (I Zu.g i),i64 n,.is 1 (I cI p)]=(F281 i n p).map (fun⟨u,v⟩=>.tup [i64 u,bv v]):=by
 rw[od (fn:=p281) rfl rfl rfl]
 refine bo rg fun a=>?_
 refine bo (aI (S:=Int×Int) (enc:=fun⟨c,b⟩=>(Q [(0,.is 4 (I Zu.g i)),(1,i64 n),(2,.is 1 (I cI p)),(8,.ref 0 0),(9,i64 c),(10,i64 b)] [(0,.box (Zu.g a))])) (encE:=(fun|.inl e=>(rq [(6,i64 0),(7,bv false),(8,.ref 0 0),(9,i64 e)] [(0,.box (Zu.g a))])|.inr x18=>(xq 0 [(8,.ref 0 0),(9,i64 x18)] [(0,.box (Zu.g a))]))) (fun⟨c,b⟩=>?_) B64 (0,a.First)) fun m=>?_
 refine bo (ok284 (d+2) a) fun q=>?_
 refine io ?_ (lf rfl)
 refine bo (rS _ _ _) fun j=>?_
 refine bo rg fun l=>?_
 refine bo (ok280 d j b l) fun⟨r,s⟩=>?_
 refine io (lf rfl) (lf rfl)
 rcases m with e|x18
 exact lf rfl
 refine bo (aI (S:=Int) (enc:=fun f=>(Q [(8,.ref 0 0),(9,i64 x18),(13,i64 f)] [(0,.box (Zu.g a))])) (encE:=(fun|.inl h=>(rq [(6,i64 h),(7,bv true)] [(0,.box (Zu.g a))])|.inr _=>(xq 2 [] [(0,.box (Zu.g a))]))) (fun f=>?_) B64 (-1)) fun o=>?_
 refine io ?_ (lf rfl)
 refine bo oi fun t=>?_
 refine io (lf rfl) (lf rfl)
 rcases o with h|_
 exact lf rfl
 exact lf rfl
def F276 (b:List Zu) (h:List Int):Option ((List Int)×Int):=
 (F275 b h).bind fun⟨k,i⟩=>if i !=0 then some ([],i)else(uC 0 (b.length:Int) 0).bind fun j=>(aO (E:=(List Int)⊕(List Int)) (fun(⟨g,a⟩:Int×(List Int))=>if decide (g<(b.length:Int))then(F281 b g h).bind fun⟨c,d⟩=>if !d then some (.inr (.inl a))else(lapp true a [c]).bind fun e=>some (.inl ((w64 (g+1)),e))else some (.inr (.inr a))) B64 (0,j)).bind fun f=>(match f with|.inl x14=>some ([],21)|.inr x15=>some (x15,0))
theorem ok276 {k} (d) (b:List Zu) (e:List Int):OD k (d+5) 276 [.is 4 (I Zu.g b),.is 1 (I cI e)]=(F276 b e).map (fun⟨n,o⟩=>.tup [.is 1 (I cI n),i64 o]):=by
 rw[od (fn:=p276) rfl rfl rfl]
 refine bo (ok275 d b e) fun⟨p,q⟩=>?_
 refine io (lf rfl) ?_
 refine bz lm ?_
 refine bo (fK cI _ _ 0) fun m=>?_
 refine bz lm ?_
 refine bo (aI (S:=Int×(List Int)) (enc:=fun⟨i,a⟩=>(Q [(0,.is 4 (I Zu.g b)),(1,.is 1 (I cI e)),(8,.own 0),(25,i64 (b.length:Int)),(26,i64 i)] [(0,.lst 3 1 true (I cI a))])) (encE:=(fun|.inl c=>(rq [(4,.is 1 (I cI [])),(5,i64 21),(8,.own 0)] [(0,.lst 3 1 true (I cI c))])|.inr x15=>(xq 0 [(8,.own 0)] [(0,.lst 3 1 true (I cI x15))]))) (fun⟨i,a⟩=>?_) B64 (0,m)) fun h=>?_
 refine io ?_ (lf rfl)
 refine bo (ok281 d b i e) fun⟨f,j⟩=>?_
 refine io (lf rfl) ?_
 refine bo (aV true cI a [f]) fun l=>?_
 exact lf rfl
 rcases h with c|x15
 exact lf rfl
 exact lf rfl
def F271 (a:Zo):Option ((List Int)×Int):=
 (aO (E:=Int⊕Unit) (fun(c:Int)=>if decide (c<(a.Events.length:Int))then(lget a.Events c).bind fun f=>(F121 f).bind fun g=>if g !=0 then some (.inr (.inl g))else if(f.Kind==3)&&((decide (c>0))||(decide ((a.Events.length:Int)>1)))then some (.inr (.inl 11))else some (.inl (w64 (c+1)))else some (.inr (.inr ()))) B64 0).bind fun j=>(match j with|.inl x7=>some ([],x7)|.inr _=>(F274 a.Events).bind fun h=>(F275 a.Tuplets h).bind fun⟨d,b⟩=>if b !=0 then some ([],b)else(F276 a.Tuplets h).bind fun⟨i,e⟩=>if e !=0 then some ([],21)else some (d,0))
theorem ok271 {k} (d) (a:Zo):OD k (d+11) 271 [.agg (Zo.g a)]=(F271 a).map (fun⟨n,o⟩=>.tup [.is 1 (I cI n),i64 o]):=by
 rw[od (fn:=p271) rfl rfl rfl]
 refine bz lm ?_
 refine bo (aI (S:=Int) (enc:=fun b=>(Q [(1,.ref 0 0),(13,.is 13 (I Ze.g a.Events)),(14,i64 (a.Events.length:Int)),(15,i64 b)] [(0,.box (Zo.g a))])) (encE:=(fun|.inl c=>(rq [(1,.ref 0 0),(2,.is 1 (I cI [])),(3,i64 c)] [(0,.box (Zo.g a))])|.inr _=>(xq 0 [(1,.ref 0 0)] [(0,.box (Zo.g a))]))) (fun b=>?_) B64 0) fun m=>?_
 refine io ?_ (lf rfl)
 refine bo rg fun l=>?_
 refine bo (ok121 (d+2) l) fun p=>?_
 refine io (lf rfl) ?_
 refine bz (gand (bz (gor (bz lm rfl)) rfl)) ?_
 refine io (lf rfl) (lf rfl)
 rcases m with c|_
 exact lf rfl
 refine bo (ok274 d a.Events) fun e=>?_
 refine bo (ok275 (d+6) a.Tuplets e) fun⟨f,h⟩=>?_
 refine io (lf rfl) ?_
 refine bo (ok276 (d+5) a.Tuplets e) fun⟨i,j⟩=>?_
 refine io (lf rfl) (lf rfl)
def F260 (a:Zo) (b:Int):Option ((List Int)×Int):=
 if(decide (b<1))||(decide (b>15482880))then some ([],2)else if decide ((a.Events.length:Int)>128)then some ([],9)else(F270 a).bind fun d=>if d&&((a.Events.length:Int)==1)then(lget a.Events 0).bind fun e=>(F121 e).bind fun c=>if c !=0 then some ([],c)else if decide ((a.Tuplets.length:Int)>0)then some ([],21)else some ([b],0)else(F271 a).bind fun⟨f,g⟩=>some (f,g)
theorem ok260 {k} (d) (a:Zo) (b:Int):OD k (d+12) 260 [.agg (Zo.g a),i64 b]=(F260 a b).map (fun⟨e,f⟩=>.tup [.is 1 (I cI e),i64 f]):=by
 rw[od (fn:=p260) rfl rfl rfl]
 refine bz (gor rfl) ?_
 refine io (lf rfl) ?_
 refine bz lm ?_
 refine io (lf rfl) ?_
 refine bo (ok270 (d+10) a) fun h=>?_
 refine bz (gand (bz lm rfl)) ?_
 refine io ?_ ?_
 refine bo rg fun c=>?_
 refine bo (ok121 (d+3) c) fun i=>?_
 refine io (lf rfl) ?_
 refine bz lm ?_
 refine io (lf rfl) (lf rfl)
 refine bo (ok271 d a) fun⟨j,l⟩=>?_
 exact lf rfl
def F261 (b:List Int):Option Int:=
 (aO (E:=Int) (fun(⟨c,a⟩:Int×Int)=>if decide (a<(b.length:Int))then(lget b a).bind fun d=>some (.inl ((w64 (c+d)),(w64 (a+1))))else some (.inr c)) B64 (0,0)).bind fun e=>some e
theorem ok261 {k} (d) (a:List Int):OD k (d+1) 261 [.is 1 (I cI a)]=(F261 a).map (fun f=>i64 f):=by
 rw[od (fn:=p261) rfl rfl rfl]
 refine bz lm ?_
 refine bo (aI (S:=Int×Int) (enc:=fun⟨b,c⟩=>(Q [(3,i64 b),(6,.is 1 (I cI a)),(7,i64 (a.length:Int)),(8,i64 c)] [])) (encE:=(fun(e:Int)=>(xq 0 [(3,i64 e)] []))) (fun⟨b,c⟩=>?_) B64 (0,0)) fun e=>?_
 refine io ?_ (lf rfl)
 refine bo rg fun g=>?_
 exact lf rfl
 exact lf rfl
def F241 (e:Zo) (b:Int):Option ((List Int)×Int):=
 (F260 e b).bind fun⟨a,c⟩=>((if(c==0)&&(decide ((a.length:Int)>0))then(F261 a).bind fun f=>some (f !=b)else some false:Option (Bool))).bind fun g=>((if g then some 20 else some c:Option (Int))).bind fun d=>if d !=0 then some ([],d)else some (a,0)
theorem ok241 {k} (d) (a:Zo) (b:Int):OD k (d+13) 241 [.agg (Zo.g a),i64 b]=(F241 a b).map (fun⟨h,i⟩=>.tup [.is 1 (I cI h),i64 i]):=by
 rw[od (fn:=p241) rfl rfl rfl]
 refine bo (ok260 d a b) fun⟨c,j⟩=>?_
 refine bz (gand (bz lm rfl)) ?_
 refine bo (e:=id) ?_ fun m=>?_
 refine io ?_ (lf rfl)
 refine bo (ok261 (d+11) c) fun l=>?_
 exact lf rfl
 refine bo (e:=(fun(f:Int)=>(nq [(6,.is 1 (I cI c)),(7,i64 f)] [(0,.box (Zo.g a))]))) ?_ fun f=>?_
 refine io (lf rfl) (lf rfl)
 refine io (lf rfl) (lf rfl)
def F184 (a:Zo) (b:Int):Option Int:=
 (F241 a b).bind fun⟨d,c⟩=>some c
theorem ok184 {k} (d) (a:Zo) (b:Int):OD k (d+14) 184 [.agg (Zo.g a),i64 b]=(F184 a b).map (fun c=>i64 c):=by
 rw[od (fn:=p184) rfl rfl rfl]
 refine bo (ok241 d a b) fun⟨e,f⟩=>?_
 exact lf rfl
def F117 (a:Int):Option Bool:=
 some ((a==11)||(a==20))
theorem ok117 {k} (d) (a:Int):OD k (d+1) 117 [i64 a]=(F117 a).map (fun b=>bv b):=by
 rw[od (fn:=p117) rfl rfl rfl]
 refine bz (gor rfl) ?_
 exact lf rfl
def F182 (a:Zo) (b:Int):Option Bool:=
 (F183 a.Events).bind fun c=>((if !c then(F184 a b).bind fun d=>(F117 d).bind fun e=>some e else some false:Option (Bool))).bind fun f=>some f
theorem ok182 {k} (d) (a:Zo) (b:Int):OD k (d+15) 182 [.agg (Zo.g a),.ip [.fn 178 [] []],.ip [.fn 117 [] []],.ip [i64 b]]=(F182 a b).map (fun f=>bv f):=by
 rw[od (fn:=p182) rfl rfl rfl]
 refine bo (ok183 (d+3) a.Events) fun h=>?_
 refine bo (e:=id) ?_ fun j=>?_
 refine io ?_ (lf rfl)
 refine bo (ok184 d a b) fun c=>?_
 refine bo (ok117 (d+13) c) fun i=>?_
 exact lf rfl
 exact lf rfl
def F239 (b:List Zo) (c:Int):Option Int:=
 (aO (E:=Int⊕Unit) (fun(a:Int)=>if decide (a<(b.length:Int))then(lget b a).bind fun d=>(F182 d c).bind fun e=>if e then some (.inr (.inl a))else some (.inl (w64 (a+1)))else some (.inr (.inr ()))) B64 0).bind fun f=>(match f with|.inl x8=>some x8|.inr _=>some (-1))
theorem ok239 {k} (d) (a:List Zo) (b:Int):OD k (d+16) 239 [.is 2 (I Zo.g a),.fn 182 [] [.ip [.fn 178 [] []],.ip [.fn 117 [] []],.ip [i64 b]]]=(F239 a b).map (fun i=>i64 i):=by
 rw[od (fn:=p239) rfl rfl rfl]
 refine bz lm ?_
 refine bo (aI (S:=Int) (enc:=fun c=>(Q [(0,.is 2 (I Zo.g a)),(1,.fn 182 [] [.ip [.fn 178 [] []],.ip [.fn 117 [] []],.ip [i64 b]]),(7,i64 (a.length:Int)),(8,i64 c)] [])) (encE:=(fun|.inl e=>(rq [(4,i64 e)] [])|.inr _=>(xq 0 [] []))) (fun c=>?_) B64 0) fun h=>?_
 refine io ?_ (lf rfl)
 refine bo rg fun f=>?_
 refine bo (ok182 d f b) fun j=>?_
 refine io (lf rfl) (lf rfl)
 rcases h with e|_
 exact lf rfl
 exact lf rfl
def F181 (a:List Zo) (b:Int):Option Bool:=
 (F239 a b).bind fun c=>some (decide (c>=0))
theorem ok181 {k} (d) (a:List Zo) (b:Int):OD k (d+17) 181 [.is 2 (I Zo.g a),.fn 182 [] [.ip [.fn 178 [] []],.ip [.fn 117 [] []],.ip [i64 b]]]=(F181 a b).map (fun c=>bv c):=by
 rw[od (fn:=p181) rfl rfl rfl]
 refine bo (ok239 d a b) fun e=>?_
 exact lf rfl
def F180 (a:Zw) (b:Int):Option Bool:=
 (F181 a.Voices b).bind fun c=>some c
theorem ok180 {k} (d) (a:Zw) (b:Int):OD k (d+18) 180 [.agg (Zw.g a),.ip [.fn 178 [] []],.ip [.fn 117 [] []],.ip [i64 b]]=(F180 a b).map (fun c=>bv c):=by
 rw[od (fn:=p180) rfl rfl rfl]
 refine bo (ok181 d a.Voices b) fun e=>?_
 exact lf rfl
def F238 (b:List Zw) (c:Int):Option Int:=
 (aO (E:=Int⊕Unit) (fun(a:Int)=>if decide (a<(b.length:Int))then(lget b a).bind fun d=>(F180 d c).bind fun e=>if e then some (.inr (.inl a))else some (.inl (w64 (a+1)))else some (.inr (.inr ()))) B64 0).bind fun f=>(match f with|.inl x8=>some x8|.inr _=>some (-1))
theorem ok238 {k} (d) (a:List Zw) (b:Int):OD k (d+19) 238 [.is 2 (I Zw.g a),.fn 180 [] [.ip [.fn 178 [] []],.ip [.fn 117 [] []],.ip [i64 b]]]=(F238 a b).map (fun i=>i64 i):=by
 rw[od (fn:=p238) rfl rfl rfl]
 refine bz lm ?_
 refine bo (aI (S:=Int) (enc:=fun c=>(Q [(0,.is 2 (I Zw.g a)),(1,.fn 180 [] [.ip [.fn 178 [] []],.ip [.fn 117 [] []],.ip [i64 b]]),(7,i64 (a.length:Int)),(8,i64 c)] [])) (encE:=(fun|.inl e=>(rq [(4,i64 e)] [])|.inr _=>(xq 0 [] []))) (fun c=>?_) B64 0) fun h=>?_
 refine io ?_ (lf rfl)
 refine bo rg fun f=>?_
 refine bo (ok180 d f b) fun j=>?_
 refine io (lf rfl) (lf rfl)
 rcases h with e|_
 exact lf rfl
 exact lf rfl
def F179 (a:List Zw) (b:Int):Option Bool:=
 (F238 a b).bind fun c=>some (decide (c>=0))
theorem ok179 {k} (d) (a:List Zw) (b:Int):OD k (d+20) 179 [.is 2 (I Zw.g a),.fn 180 [] [.ip [.fn 178 [] []],.ip [.fn 117 [] []],.ip [i64 b]]]=(F179 a b).map (fun c=>bv c):=by
 rw[od (fn:=p179) rfl rfl rfl]
 refine bo (ok238 d a b) fun e=>?_
 exact lf rfl
def F177 (e:Int) (a:Zm):Option Bool:=
 (F113 a).bind fun⟨b,c⟩=>if c !=0 then some false else(F179 a.Cells b).bind fun d=>some d
theorem ok177 {k} (d) (b:Int) (a:Zm):OD k (d+21) 177 [i64 b,.agg (Zm.g a),.ip [.fn 117 [] []]]=(F177 b a).map (fun e=>bv e):=by
 rw[od (fn:=p177) rfl rfl rfl]
 refine bo (ok113 (d+16) a) fun⟨c,f⟩=>?_
 refine io (lf rfl) ?_
 refine bo (ok179 d a.Cells c) fun h=>?_
 exact lf rfl
def Fn109_4 (h:List Zv) (e:Z0) (i:Int):Option (List Zv):=
 (aO (E:=List Zv) (fun(⟨a,f⟩:Int×(List Zv))=>if decide (a<(e.Measures.length:Int))then(lget e.Measures a).bind fun g=>(F177 a g).bind fun b=>(Fn103 b g.ID f e i).bind fun c=>some (.inl ((w64 (a+1)),c))else some (.inr f)) B64 (0,h)).bind fun d=>some d
theorem okn109_4 {k} (d) (e:List Zv) (a:Z0) (b:Int):runR (XD k (d+22)) 109 [.ref 1 0,.fn 177 [] [.ref 3 0]] [(3,.box [.fn 117 [] []]),(2,.lst 129 3 false (I Zv.g e)),(1,.box (ck a b (.own 2)))] 4 false=(Fn109_4 e a b).map (fun(h:List Zv)=>((.tup [],[(3,.box [.fn 117 [] []]),(2,.lst 129 3 false (I Zv.g h)),(1,.box (ck a b (.own 2)))],0))):=by
 rw[xd (fn:=p109) rfl]
 refine bz lm ?_
 refine bo (aI (S:=Int×(List Zv)) (enc:=fun⟨i,j⟩=>(Q [(0,.ref 1 0),(1,.fn 177 [] [.ref 3 0]),(10,.is 22 (I Zm.g a.Measures)),(11,i64 (a.Measures.length:Int)),(12,i64 i)] [(3,.box [.fn 117 [] []]),(2,.lst 129 3 false (I Zv.g j)),(1,.box (ck a b (.own 2)))])) (encE:=(fun(c:List Zv)=>(xq 0 [] [(3,.box [.fn 117 [] []]),(2,.lst 129 3 false (I Zv.g c)),(1,.box (ck a b (.own 2)))]))) (fun⟨i,j⟩=>?_) B64 (0,e)) fun c=>?_
 refine io ?_ (lf rfl)
 refine bo rg fun l=>?_
 refine bo (ok177 d i l) fun f=>?_
 refine bo (okn103 (d+20) f l.ID j a b) fun m=>?_
 exact lf rfl
 exact lf rfl
def Fn116 (a:List Zv) (b:Z0) (c:Int):Option (List Zv):=
 (Fn109_4 a b c).bind fun d=>some d
theorem okn116 {k} (d) (c:List Zv) (a:Z0) (b:Int):runR (XD k (d+23)) 116 [.ref 1 0,.fn 117 [] []] [(2,.lst 129 3 false (I Zv.g c)),(1,.box (ck a b (.own 2)))] 3 false=(Fn116 c a b).map (fun(e:List Zv)=>((.tup [],[(2,.lst 129 3 false (I Zv.g e)),(1,.box (ck a b (.own 2)))],0))):=by
 rw[xd (fn:=p116) rfl]
 refine bo (okn109_4 d c a b) fun f=>?_
 exact lf rfl
def Fn52 (a:List Zv) (b:Z0) (c:Int):Option (List Zv):=
 (Fn116 a b c).bind fun d=>some d
theorem okn52 {k} (d) (c:List Zv) (a:Z0) (b:Int):runR (XD k (d+24)) 52 [.ref 1 0] [(2,.lst 129 3 false (I Zv.g c)),(1,.box (ck a b (.own 2)))] 3 false=(Fn52 c a b).map (fun(e:List Zv)=>((.tup [],[(2,.lst 129 3 false (I Zv.g e)),(1,.box (ck a b (.own 2)))],0))):=by
 rw[xd (fn:=p52) rfl]
 refine bo (okn116 d c a b) fun f=>?_
 exact lf rfl
def F118 (a:Int):Option Bool:=
 ((if a !=0 then(F117 a).bind fun b=>some (!b)else some false:Option (Bool))).bind fun c=>some c
theorem ok118 {k} (d) (a:Int):OD k (d+2) 118 [i64 a]=(F118 a).map (fun b=>bv b):=by
 rw[od (fn:=p118) rfl rfl rfl]
 refine bo (e:=id) ?_ fun f=>?_
 refine io ?_ (lf rfl)
 refine bo (ok117 d a) fun c=>?_
 exact lf rfl
 exact lf rfl
def F182_2 (a:Zo) (b:Int):Option Bool:=
 (F183 a.Events).bind fun c=>((if !c then(F184 a b).bind fun d=>(F118 d).bind fun e=>some e else some false:Option (Bool))).bind fun f=>some f
theorem ok182_2 {k} (d) (a:Zo) (b:Int):OD k (d+15) 182 [.agg (Zo.g a),.ip [.fn 178 [] []],.ip [.fn 118 [] []],.ip [i64 b]]=(F182_2 a b).map (fun f=>bv f):=by
 rw[od (fn:=p182) rfl rfl rfl]
 refine bo (ok183 (d+3) a.Events) fun h=>?_
 refine bo (e:=id) ?_ fun j=>?_
 refine io ?_ (lf rfl)
 refine bo (ok184 d a b) fun c=>?_
 refine bo (ok118 (d+12) c) fun i=>?_
 exact lf rfl
 exact lf rfl
def F239_2 (b:List Zo) (c:Int):Option Int:=
 (aO (E:=Int⊕Unit) (fun(a:Int)=>if decide (a<(b.length:Int))then(lget b a).bind fun d=>(F182_2 d c).bind fun e=>if e then some (.inr (.inl a))else some (.inl (w64 (a+1)))else some (.inr (.inr ()))) B64 0).bind fun f=>(match f with|.inl x8=>some x8|.inr _=>some (-1))
theorem ok239_2 {k} (d) (a:List Zo) (b:Int):OD k (d+16) 239 [.is 2 (I Zo.g a),.fn 182 [] [.ip [.fn 178 [] []],.ip [.fn 118 [] []],.ip [i64 b]]]=(F239_2 a b).map (fun i=>i64 i):=by
 rw[od (fn:=p239) rfl rfl rfl]
 refine bz lm ?_
 refine bo (aI (S:=Int) (enc:=fun c=>(Q [(0,.is 2 (I Zo.g a)),(1,.fn 182 [] [.ip [.fn 178 [] []],.ip [.fn 118 [] []],.ip [i64 b]]),(7,i64 (a.length:Int)),(8,i64 c)] [])) (encE:=(fun|.inl e=>(rq [(4,i64 e)] [])|.inr _=>(xq 0 [] []))) (fun c=>?_) B64 0) fun h=>?_
 refine io ?_ (lf rfl)
 refine bo rg fun f=>?_
 refine bo (ok182_2 d f b) fun j=>?_
 refine io (lf rfl) (lf rfl)
 rcases h with e|_
 exact lf rfl
 exact lf rfl
def F181_2 (a:List Zo) (b:Int):Option Bool:=
 (F239_2 a b).bind fun c=>some (decide (c>=0))
theorem ok181_2 {k} (d) (a:List Zo) (b:Int):OD k (d+17) 181 [.is 2 (I Zo.g a),.fn 182 [] [.ip [.fn 178 [] []],.ip [.fn 118 [] []],.ip [i64 b]]]=(F181_2 a b).map (fun c=>bv c):=by
 rw[od (fn:=p181) rfl rfl rfl]
 refine bo (ok239_2 d a b) fun e=>?_
 exact lf rfl
def F180_2 (a:Zw) (b:Int):Option Bool:=
 (F181_2 a.Voices b).bind fun c=>some c
theorem ok180_2 {k} (d) (a:Zw) (b:Int):OD k (d+18) 180 [.agg (Zw.g a),.ip [.fn 178 [] []],.ip [.fn 118 [] []],.ip [i64 b]]=(F180_2 a b).map (fun c=>bv c):=by
 rw[od (fn:=p180) rfl rfl rfl]
 refine bo (ok181_2 d a.Voices b) fun e=>?_
 exact lf rfl
def F238_2 (b:List Zw) (c:Int):Option Int:=
 (aO (E:=Int⊕Unit) (fun(a:Int)=>if decide (a<(b.length:Int))then(lget b a).bind fun d=>(F180_2 d c).bind fun e=>if e then some (.inr (.inl a))else some (.inl (w64 (a+1)))else some (.inr (.inr ()))) B64 0).bind fun f=>(match f with|.inl x8=>some x8|.inr _=>some (-1))
theorem ok238_2 {k} (d) (a:List Zw) (b:Int):OD k (d+19) 238 [.is 2 (I Zw.g a),.fn 180 [] [.ip [.fn 178 [] []],.ip [.fn 118 [] []],.ip [i64 b]]]=(F238_2 a b).map (fun i=>i64 i):=by
 rw[od (fn:=p238) rfl rfl rfl]
 refine bz lm ?_
 refine bo (aI (S:=Int) (enc:=fun c=>(Q [(0,.is 2 (I Zw.g a)),(1,.fn 180 [] [.ip [.fn 178 [] []],.ip [.fn 118 [] []],.ip [i64 b]]),(7,i64 (a.length:Int)),(8,i64 c)] [])) (encE:=(fun|.inl e=>(rq [(4,i64 e)] [])|.inr _=>(xq 0 [] []))) (fun c=>?_) B64 0) fun h=>?_
 refine io ?_ (lf rfl)
 refine bo rg fun f=>?_
 refine bo (ok180_2 d f b) fun j=>?_
 refine io (lf rfl) (lf rfl)
 rcases h with e|_
 exact lf rfl
 exact lf rfl
def F179_2 (a:List Zw) (b:Int):Option Bool:=
 (F238_2 a b).bind fun c=>some (decide (c>=0))
theorem ok179_2 {k} (d) (a:List Zw) (b:Int):OD k (d+20) 179 [.is 2 (I Zw.g a),.fn 180 [] [.ip [.fn 178 [] []],.ip [.fn 118 [] []],.ip [i64 b]]]=(F179_2 a b).map (fun c=>bv c):=by
 rw[od (fn:=p179) rfl rfl rfl]
 refine bo (ok238_2 d a b) fun e=>?_
 exact lf rfl
def F177_2 (e:Int) (a:Zm):Option Bool:=
 (F113 a).bind fun⟨b,c⟩=>if c !=0 then some false else(F179_2 a.Cells b).bind fun d=>some d
theorem ok177_2 {k} (d) (b:Int) (a:Zm):OD k (d+21) 177 [i64 b,.agg (Zm.g a),.ip [.fn 118 [] []]]=(F177_2 b a).map (fun e=>bv e):=by
 rw[od (fn:=p177) rfl rfl rfl]
 refine bo (ok113 (d+16) a) fun⟨c,f⟩=>?_
 refine io (lf rfl) ?_
 refine bo (ok179_2 d a.Cells c) fun h=>?_
 exact lf rfl
def Fn109_5 (h:List Zv) (e:Z0) (i:Int):Option (List Zv):=
 (aO (E:=List Zv) (fun(⟨a,f⟩:Int×(List Zv))=>if decide (a<(e.Measures.length:Int))then(lget e.Measures a).bind fun g=>(F177_2 a g).bind fun b=>(Fn103 b g.ID f e i).bind fun c=>some (.inl ((w64 (a+1)),c))else some (.inr f)) B64 (0,h)).bind fun d=>some d
theorem okn109_5 {k} (d) (e:List Zv) (a:Z0) (b:Int):runR (XD k (d+22)) 109 [.ref 1 0,.fn 177 [] [.ref 3 0]] [(3,.box [.fn 118 [] []]),(2,.lst 129 3 false (I Zv.g e)),(1,.box (ck a b (.own 2)))] 4 false=(Fn109_5 e a b).map (fun(h:List Zv)=>((.tup [],[(3,.box [.fn 118 [] []]),(2,.lst 129 3 false (I Zv.g h)),(1,.box (ck a b (.own 2)))],0))):=by
 rw[xd (fn:=p109) rfl]
 refine bz lm ?_
 refine bo (aI (S:=Int×(List Zv)) (enc:=fun⟨i,j⟩=>(Q [(0,.ref 1 0),(1,.fn 177 [] [.ref 3 0]),(10,.is 22 (I Zm.g a.Measures)),(11,i64 (a.Measures.length:Int)),(12,i64 i)] [(3,.box [.fn 118 [] []]),(2,.lst 129 3 false (I Zv.g j)),(1,.box (ck a b (.own 2)))])) (encE:=(fun(c:List Zv)=>(xq 0 [] [(3,.box [.fn 118 [] []]),(2,.lst 129 3 false (I Zv.g c)),(1,.box (ck a b (.own 2)))]))) (fun⟨i,j⟩=>?_) B64 (0,e)) fun c=>?_
 refine io ?_ (lf rfl)
 refine bo rg fun l=>?_
 refine bo (ok177_2 d i l) fun f=>?_
 refine bo (okn103 (d+20) f l.ID j a b) fun m=>?_
 exact lf rfl
 exact lf rfl
def Fn116_2 (a:List Zv) (b:Z0) (c:Int):Option (List Zv):=
 (Fn109_5 a b c).bind fun d=>some d
theorem okn116_2 {k} (d) (c:List Zv) (a:Z0) (b:Int):runR (XD k (d+23)) 116 [.ref 1 0,.fn 118 [] []] [(2,.lst 129 3 false (I Zv.g c)),(1,.box (ck a b (.own 2)))] 3 false=(Fn116_2 c a b).map (fun(e:List Zv)=>((.tup [],[(2,.lst 129 3 false (I Zv.g e)),(1,.box (ck a b (.own 2)))],0))):=by
 rw[xd (fn:=p116) rfl]
 refine bo (okn109_5 d c a b) fun f=>?_
 exact lf rfl
def Fn53 (a:List Zv) (b:Z0) (c:Int):Option (List Zv):=
 (Fn116_2 a b c).bind fun d=>some d
theorem okn53 {k} (d) (c:List Zv) (a:Z0) (b:Int):runR (XD k (d+24)) 53 [.ref 1 0] [(2,.lst 129 3 false (I Zv.g c)),(1,.box (ck a b (.own 2)))] 3 false=(Fn53 c a b).map (fun(e:List Zv)=>((.tup [],[(2,.lst 129 3 false (I Zv.g e)),(1,.box (ck a b (.own 2)))],0))):=by
 rw[xd (fn:=p53) rfl]
 refine bo (okn116_2 d c a b) fun f=>?_
 exact lf rfl
def F120 (c:Zp) (a:Ze):Option Bool:=
 (F121 a).bind fun b=>some (b !=0)
theorem ok120 {k} (d) (b:Zp) (a:Ze):OD k (d+9) 120 [.agg (Zp.g b),.agg (Ze.g a)]=(F120 b a).map (fun c=>bv c):=by
 rw[od (fn:=p120) rfl rfl rfl]
 refine bo (ok121 d a) fun e=>?_
 exact lf rfl
def Fn119 (t:List Zv) (s:Z0) (u:Int):Option (List Zv):=
 (aO (E:=List Zv) (fun(⟨b,m⟩:Int×(List Zv))=>if decide (b<(s.Measures.length:Int))then(lget s.Measures b).bind fun n=>(aO (E:=List Zv) (fun(⟨c,o⟩:Int×(List Zv))=>if decide (c<(n.Cells.length:Int))then(lget n.Cells c).bind fun p=>(aO (E:=List Zv) (fun(⟨d,q⟩:Int×(List Zv))=>if decide (d<(p.Voices.length:Int))then(lget p.Voices d).bind fun r=>(aO (E:=List Zv) (fun(⟨a,e⟩:Int×(List Zv))=>if decide (a<(r.Events.length:Int))then(lget r.Events a).bind fun f=>(F120 (Zp.mk 4 0 c b d a 0) f).bind fun g=>(Fn103 g f.ID e s u).bind fun h=>some (.inl ((w64 (a+1)),h))else some (.inr e)) B64 (0,q)).bind fun i=>some (.inl ((w64 (d+1)),i))else some (.inr q)) B64 (0,o)).bind fun j=>some (.inl ((w64 (c+1)),j))else some (.inr o)) B64 (0,m)).bind fun k=>some (.inl ((w64 (b+1)),k))else some (.inr m)) B64 (0,t)).bind fun l=>some l
theorem okn119 {k} (d) (x:List Zv) (c:Z0) (i:Int):runR (XD k (d+10)) 119 [.ref 1 0,.fn 120 [] []] [(2,.lst 129 3 false (I Zv.g x)),(1,.box (ck c i (.own 2)))] 3 false=(Fn119 x c i).map (fun(w:List Zv)=>((.tup [],[(2,.lst 129 3 false (I Zv.g w)),(1,.box (ck c i (.own 2)))],0))):=by
 rw[xd (fn:=p119) rfl]
 refine bz lm ?_
 refine bo (aI (S:=Int×(List Zv)) (enc:=fun⟨b,s⟩=>(Q [(0,.ref 1 0),(1,.fn 120 [] []),(16,.is 22 (I Zm.g c.Measures)),(17,i64 (c.Measures.length:Int)),(18,i64 b)] [(2,.lst 129 3 false (I Zv.g s)),(1,.box (ck c i (.own 2)))])) (encE:=(fun(r:List Zv)=>(xq 0 [] [(2,.lst 129 3 false (I Zv.g r)),(1,.box (ck c i (.own 2)))]))) (fun⟨b,s⟩=>?_) B64 (0,x)) fun r=>?_
 refine io ?_ (lf rfl)
 refine bo rg fun a=>?_
 refine bz lm ?_
 refine bo (aI (S:=Int×(List Zv)) (enc:=fun⟨e,t⟩=>(Q [(0,.ref 1 0),(1,.fn 120 [] []),(4,i64 b),(16,.is 22 (I Zm.g c.Measures)),(17,i64 (c.Measures.length:Int)),(18,i64 b),(24,.is 2 (I Zw.g a.Cells)),(25,i64 (a.Cells.length:Int)),(26,i64 e)] [(3,.box (Zm.g a)),(2,.lst 129 3 false (I Zv.g t)),(1,.box (ck c i (.own 2)))])) (encE:=(fun(q:List Zv)=>(xq 2 [(0,.ref 1 0),(1,.fn 120 [] []),(16,.is 22 (I Zm.g c.Measures)),(17,i64 (c.Measures.length:Int)),(18,i64 b)] [(3,.box (Zm.g a)),(2,.lst 129 3 false (I Zv.g q)),(1,.box (ck c i (.own 2)))]))) (fun⟨e,t⟩=>?_) B64 (0,s)) fun q=>?_
 refine io ?_ (lf rfl)
 refine bo rg fun f=>?_
 refine bz lm ?_
 refine bo (aI (S:=Int×(List Zv)) (enc:=fun⟨h,u⟩=>(Q [(0,.ref 1 0),(1,.fn 120 [] []),(4,i64 b),(6,i64 e),(16,.is 22 (I Zm.g c.Measures)),(17,i64 (c.Measures.length:Int)),(18,i64 b),(24,.is 2 (I Zw.g a.Cells)),(25,i64 (a.Cells.length:Int)),(26,i64 e),(32,.is 2 (I Zo.g f.Voices)),(33,i64 (f.Voices.length:Int)),(34,i64 h)] [(4,.box (Zw.g f)),(3,.box (Zm.g a)),(2,.lst 129 3 false (I Zv.g u)),(1,.box (ck c i (.own 2)))])) (encE:=(fun(p:List Zv)=>(xq 4 [(0,.ref 1 0),(1,.fn 120 [] []),(4,i64 b),(16,.is 22 (I Zm.g c.Measures)),(17,i64 (c.Measures.length:Int)),(18,i64 b),(24,.is 2 (I Zw.g a.Cells)),(25,i64 (a.Cells.length:Int)),(26,i64 e)] [(4,.box (Zw.g f)),(3,.box (Zm.g a)),(2,.lst 129 3 false (I Zv.g p)),(1,.box (ck c i (.own 2)))]))) (fun⟨h,u⟩=>?_) B64 (0,t)) fun p=>?_
 refine io ?_ (lf rfl)
 refine bo rg fun m=>?_
 refine bz lm ?_
 refine bo (aI (S:=Int×(List Zv)) (enc:=fun⟨j,l⟩=>(Q [(0,.ref 1 0),(1,.fn 120 [] []),(4,i64 b),(6,i64 e),(8,i64 h),(16,.is 22 (I Zm.g c.Measures)),(17,i64 (c.Measures.length:Int)),(18,i64 b),(24,.is 2 (I Zw.g a.Cells)),(25,i64 (a.Cells.length:Int)),(26,i64 e),(32,.is 2 (I Zo.g f.Voices)),(33,i64 (f.Voices.length:Int)),(34,i64 h),(40,.is 13 (I Ze.g m.Events)),(41,i64 (m.Events.length:Int)),(42,i64 j)] [(5,.box (Zo.g m)),(4,.box (Zw.g f)),(3,.box (Zm.g a)),(2,.lst 129 3 false (I Zv.g l)),(1,.box (ck c i (.own 2)))])) (encE:=(fun(o:List Zv)=>(xq 6 [(0,.ref 1 0),(1,.fn 120 [] []),(4,i64 b),(6,i64 e),(16,.is 22 (I Zm.g c.Measures)),(17,i64 (c.Measures.length:Int)),(18,i64 b),(24,.is 2 (I Zw.g a.Cells)),(25,i64 (a.Cells.length:Int)),(26,i64 e),(32,.is 2 (I Zo.g f.Voices)),(33,i64 (f.Voices.length:Int)),(34,i64 h)] [(5,.box (Zo.g m)),(4,.box (Zw.g f)),(3,.box (Zm.g a)),(2,.lst 129 3 false (I Zv.g o)),(1,.box (ck c i (.own 2)))]))) (fun⟨j,l⟩=>?_) B64 (0,u)) fun o=>?_
 refine io ?_ (lf rfl)
 refine bo rg fun n=>?_
 refine bo (ok120 d (Zp.mk 4 0 e b h j 0) n) fun v=>?_
 refine bo (okn103 (d+8) v n.ID l c i) fun y=>?_
 exact lf rfl
 exact lf rfl
 exact lf rfl
 exact lf rfl
 exact lf rfl
def Fn54 (a:List Zv) (b:Z0) (c:Int):Option (List Zv):=
 (Fn119 a b c).bind fun d=>some d
theorem okn54 {k} (d) (c:List Zv) (a:Z0) (b:Int):runR (XD k (d+11)) 54 [.ref 1 0] [(2,.lst 129 3 false (I Zv.g c)),(1,.box (ck a b (.own 2)))] 3 false=(Fn54 c a b).map (fun(e:List Zv)=>((.tup [],[(2,.lst 129 3 false (I Zv.g e)),(1,.box (ck a b (.own 2)))],0))):=by
 rw[xd (fn:=p54) rfl]
 refine bo (okn119 d c a b) fun f=>?_
 exact lf rfl
end Go.P
