import Derived.Test.YtgboeaaoebjfaaaGreatLpB
import Derived.KernelRfl
/- A text of the proof. -/
set_option linter.all false
set_option maxRecDepth 100000
set_option maxHeartbeats 2000000
namespace Go.P
open Go.Sim (Ex OpK CK)
structure Zz where
 Site:Int
 Number:Int
 deriving DecidableEq,Inhabited
def Zz.g (x:Zz):List PV:=[i64 x.Site,i64 x.Number]
structure aE where
 On:Int
 Off:Int
 Number:Int
 Part:Int
 Staff:Int
 Voice:Int
 Event:Zz
 Head:Int
 deriving DecidableEq,Inhabited
def aE.g (x:aE):List PV:=[i64 x.On,i64 x.Off,i64 x.Number,i64 x.Part,i64 x.Staff,i64 x.Voice,i64 x.Event.Site,i64 x.Event.Number,i64 x.Head]
structure Zl where
 Steps:Int
 Semitones:Int
 deriving DecidableEq,Inhabited
def Zl.g (x:Zl):List PV:=[i64 x.Steps,i64 x.Semitones]
structure Zf where
 ID:Zz
 Clef:Int
 deriving DecidableEq,Inhabited
def Zf.g (x:Zf):List PV:=[i64 x.ID.Site,i64 x.ID.Number,i64 x.Clef]
structure Zj where
 ID:Zz
 Name:ByteArray
 Transpose:Zl
 Staves:List Zf
 deriving Inhabited
def Zj.g (x:Zj):List PV:=[i64 x.ID.Site,i64 x.ID.Number,.v (.string x.Name),i64 x.Transpose.Steps,i64 x.Transpose.Semitones,.is 3 (List.map Zf.g x.Staves)]
structure Z6 where
 c0:Int
 c1:Int
 c2:Int
 c3:Int
 c4:Int
 c5:Int
 deriving DecidableEq,Inhabited
def Z6.g (x:Z6):List PV:=[i64 x.c0,i64 x.c1,i64 x.c2,i64 x.c3,i64 x.c4,i64 x.c5]
structure Zx where
 Count:Int
 Unit:Int
 Groups:Z6
 deriving DecidableEq,Inhabited
def Zx.g (x:Zx):List PV:=[i64 x.Count,i64 x.Unit,i64 x.Groups.c0,i64 x.Groups.c1,i64 x.Groups.c2,i64 x.Groups.c3,i64 x.Groups.c4,i64 x.Groups.c5]
structure Zt where
 At:Int
 Micros:Int
 Ramp:Bool
 deriving DecidableEq,Inhabited
def Zt.g (x:Zt):List PV:=[i64 x.At,i64 x.Micros,bv x.Ramp]
structure Zc where
 At:Int
 Clef:Int
 deriving DecidableEq,Inhabited
def Zc.g (x:Zc):List PV:=[i64 x.At,i64 x.Clef]
structure Za where
 Log:Int
 Dots:Int
 deriving DecidableEq,Inhabited
def Za.g (x:Za):List PV:=[i64 x.Log,i64 x.Dots]
structure Zh where
 Step:Int
 Alter:Int
 Octave:Int
 deriving DecidableEq,Inhabited
def Zh.g (x:Zh):List PV:=[i64 x.Step,i64 x.Alter,i64 x.Octave]
structure Zb where
 Pitch:Zh
 Tied:Bool
 Show:Int
 deriving DecidableEq,Inhabited
def Zb.g (x:Zb):List PV:=[i64 x.Pitch.Step,i64 x.Pitch.Alter,i64 x.Pitch.Octave,bv x.Tied,i64 x.Show]
structure Zd where
 Pitch:Zh
 Log:Int
 Slash:Bool
 deriving DecidableEq,Inhabited
def Zd.g (x:Zd):List PV:=[i64 x.Pitch.Step,i64 x.Pitch.Alter,i64 x.Pitch.Octave,i64 x.Log,bv x.Slash]
structure Zy where
 Text:ByteArray
 Link:Int
 deriving DecidableEq,Inhabited
def Zy.g (x:Zy):List PV:=[.v (.string x.Text),i64 x.Link]
structure Ze where
 ID:Zz
 Kind:Int
 Value:Za
 Heads:List Zb
 Graces:List Zd
 Articulations:Int
 Ornament:Int
 Dynamic:Int
 Lyrics:List Zy
 Stem:Int
 Beam:Int
 deriving Inhabited
def Ze.g (x:Ze):List PV:=[i64 x.ID.Site,i64 x.ID.Number,i64 x.Kind,i64 x.Value.Log,i64 x.Value.Dots,.is 5 (List.map Zb.g x.Heads),.is 5 (List.map Zd.g x.Graces),i64 x.Articulations,i64 x.Ornament,i64 x.Dynamic,.is 2 (List.map Zy.g x.Lyrics),i64 x.Stem,i64 x.Beam]
structure Zu where
 First:Int
 Count:Int
 Actual:Int
 Normal:Int
 deriving DecidableEq,Inhabited
def Zu.g (x:Zu):List PV:=[i64 x.First,i64 x.Count,i64 x.Actual,i64 x.Normal]
structure Zo where
 Events:List Ze
 Tuplets:List Zu
 deriving Inhabited
def Zo.g (x:Zo):List PV:=[.is 13 (List.map Ze.g x.Events),.is 4 (List.map Zu.g x.Tuplets)]
structure Zw where
 Clefs:List Zc
 Voices:List Zo
 deriving Inhabited
def Zw.g (x:Zw):List PV:=[.is 2 (List.map Zc.g x.Clefs),.is 2 (List.map Zo.g x.Voices)]
structure Zm where
 ID:Zz
 Metre:Zx
 Length:Int
 Fifths:Int
 RepeatStart:Bool
 RepeatEnd:Int
 Endings:Int
 Jump:Int
 Labels:Int
 Swing:Int
 Break:Int
 Rehearsal:ByteArray
 Tempi:List Zt
 Cells:List Zw
 deriving Inhabited
def Zm.g (x:Zm):List PV:=[i64 x.ID.Site,i64 x.ID.Number,i64 x.Metre.Count,i64 x.Metre.Unit,i64 x.Metre.Groups.c0,i64 x.Metre.Groups.c1,i64 x.Metre.Groups.c2,i64 x.Metre.Groups.c3,i64 x.Metre.Groups.c4,i64 x.Metre.Groups.c5,i64 x.Length,i64 x.Fifths,bv x.RepeatStart,i64 x.RepeatEnd,i64 x.Endings,i64 x.Jump,i64 x.Labels,i64 x.Swing,i64 x.Break,.v (.string x.Rehearsal),.is 3 (List.map Zt.g x.Tempi),.is 2 (List.map Zw.g x.Cells)]
structure Zn where
 ID:Zz
 Kind:Int
 From:Zz
 To:Zz
 deriving DecidableEq,Inhabited
def Zn.g (x:Zn):List PV:=[i64 x.ID.Site,i64 x.ID.Number,i64 x.Kind,i64 x.From.Site,i64 x.From.Number,i64 x.To.Site,i64 x.To.Number]
structure Z0 where
 Title:ByteArray
 Written:Bool
 Parts:List Zj
 Measures:List Zm
 Spanners:List Zn
 Last:List Zz
 deriving Inhabited
def Z0.g (x:Z0):List PV:=[.v (.string x.Title),bv x.Written,.is 6 (List.map Zj.g x.Parts),.is 22 (List.map Zm.g x.Measures),.is 7 (List.map Zn.g x.Spanners),.is 2 (List.map Zz.g x.Last)]
structure Zv where
 Rule:Int
 Object:Zz
 deriving DecidableEq,Inhabited
def Zv.g (x:Zv):List PV:=[i64 x.Rule,i64 x.Object.Site,i64 x.Object.Number]
structure Zi where
 name:ByteArray
 letter:Int
 line:Int
 octaves:Int
 middle:Int
 sharps:Int
 flats:Int
 deriving DecidableEq,Inhabited
def Zi.g (x:Zi):List PV:=[.v (.string x.name),.v (.int .u8 x.letter),i64 x.line,i64 x.octaves,i64 x.middle,i64 x.sharps,i64 x.flats]
structure Z9 where
 c0:Zi
 c1:Zi
 c2:Zi
 c3:Zi
 c4:Zi
 c5:Zi
 c6:Zi
 c7:Zi
 c8:Zi
 deriving DecidableEq,Inhabited
def Z9.g (x:Z9):List PV:=[.v (.string x.c0.name),.v (.int .u8 x.c0.letter),i64 x.c0.line,i64 x.c0.octaves,i64 x.c0.middle,i64 x.c0.sharps,i64 x.c0.flats,.v (.string x.c1.name),.v (.int .u8 x.c1.letter),i64 x.c1.line,i64 x.c1.octaves,i64 x.c1.middle,i64 x.c1.sharps,i64 x.c1.flats,.v (.string x.c2.name),.v (.int .u8 x.c2.letter),i64 x.c2.line,i64 x.c2.octaves,i64 x.c2.middle,i64 x.c2.sharps,i64 x.c2.flats,.v (.string x.c3.name),.v (.int .u8 x.c3.letter),i64 x.c3.line,i64 x.c3.octaves,i64 x.c3.middle,i64 x.c3.sharps,i64 x.c3.flats,.v (.string x.c4.name),.v (.int .u8 x.c4.letter),i64 x.c4.line,i64 x.c4.octaves,i64 x.c4.middle,i64 x.c4.sharps,i64 x.c4.flats,.v (.string x.c5.name),.v (.int .u8 x.c5.letter),i64 x.c5.line,i64 x.c5.octaves,i64 x.c5.middle,i64 x.c5.sharps,i64 x.c5.flats,.v (.string x.c6.name),.v (.int .u8 x.c6.letter),i64 x.c6.line,i64 x.c6.octaves,i64 x.c6.middle,i64 x.c6.sharps,i64 x.c6.flats,.v (.string x.c7.name),.v (.int .u8 x.c7.letter),i64 x.c7.line,i64 x.c7.octaves,i64 x.c7.middle,i64 x.c7.sharps,i64 x.c7.flats,.v (.string x.c8.name),.v (.int .u8 x.c8.letter),i64 x.c8.line,i64 x.c8.octaves,i64 x.c8.middle,i64 x.c8.sharps,i64 x.c8.flats]
structure Zk where
 s':Z0
 rule:Int
 list:List Zv
 deriving Inhabited
def Zk.g (x:Zk):List PV:=[.v (.string x.s'.Title),bv x.s'.Written,.is 6 (List.map Zj.g x.s'.Parts),.is 22 (List.map Zm.g x.s'.Measures),.is 7 (List.map Zn.g x.s'.Spanners),.is 2 (List.map Zz.g x.s'.Last),i64 x.rule,.is 3 (List.map Zv.g x.list)]
structure tU where
 c0:Int
 c1:Int
 c2:Int
 c3:Int
 c4:Int
 c5:Int
 c6:Int
 deriving DecidableEq,Inhabited
def tU.g (x:tU):List PV:=[i64 x.c0,i64 x.c1,i64 x.c2,i64 x.c3,i64 x.c4,i64 x.c5,i64 x.c6]
structure Zp where
 Kind:Int
 Part:Int
 Staff:Int
 Measure:Int
 Voice:Int
 Event:Int
 Spanner:Int
 deriving DecidableEq,Inhabited
def Zp.g (x:Zp):List PV:=[i64 x.Kind,i64 x.Part,i64 x.Staff,i64 x.Measure,i64 x.Voice,i64 x.Event,i64 x.Spanner]
structure Zq where
 Measure:Int
 At:Int
 Staff:Int
 Voice:Int
 deriving DecidableEq,Inhabited
def Zq.g (x:Zq):List PV:=[i64 x.Measure,i64 x.At,i64 x.Staff,i64 x.Voice]
structure Zs where
 Kind:Int
 From:Zq
 To:Zq
 deriving DecidableEq,Inhabited
def Zs.g (x:Zs):List PV:=[i64 x.Kind,i64 x.From.Measure,i64 x.From.At,i64 x.From.Staff,i64 x.From.Voice,i64 x.To.Measure,i64 x.To.At,i64 x.To.Staff,i64 x.To.Voice]
structure Zg where
 started:Bool
 body:Int
 used:Int
 ending:Int
 ended:Bool
 passes:Int
 deriving DecidableEq,Inhabited
def Zg.g (x:Zg):List PV:=[bv x.started,i64 x.body,i64 x.used,i64 x.ending,bv x.ended,i64 x.passes]
theorem cI1:cE1 (eA Zz.g) true [.i,.i]:=⟨fun _=>rfl,fun a b=>by
 cases a;cases b
 simp only[pB,eA,Zz.g,i64,gG,nC,Zz.mk.injEq,nH1,oK1,and_self,mW1]
 repeat' (first|rfl|split)
 all_goals simp_all⟩
theorem dM:cE1 (eA Zp.g) true [.i,.i,.i,.i,.i,.i,.i]:=⟨fun _=>rfl,fun a b=>by
 cases a;cases b
 simp only[pB,eA,Zp.g,i64,gG,nC,Zp.mk.injEq,nH1,oK1,and_self,mW1]
 repeat' (first|rfl|split)
 all_goals simp_all⟩
end Go.P
namespace Go.P.K
open Go.Sim (Ex OpK CK)
abbrev I {A B:Type} (f:A->B) (l:List A):List B:=l.map f
abbrev Q (e:Env) (h:Heap):PSt:=⟨e,h⟩
abbrev rq (e:Env) (h:Heap):Ex×PSt:=(.ret,⟨e,h⟩)
abbrev ck (s:Z0) (r:Int) (l:PV):List PV:=[.v (.string s.Title),bv s.Written,.is 6 (List.map Zj.g s.Parts),.is 22 (List.map Zm.g s.Measures),.is 7 (List.map Zn.g s.Spanners),.is 2 (List.map Zz.g s.Last),i64 r,l]
abbrev nq (e:Env) (h:Heap):Ex×PSt:=(.normal,⟨e,h⟩)
abbrev xq (n:Nat) (e:Env) (h:Heap):Ex×PSt:=(.exit n,⟨e,h⟩)
end Go.P.K
namespace Go.P.K
open Go.Sim (Ex OpK CK)
abbrev t (n:Nat):PX:=.t n
abbrev c (n:Int):PX:=.c (.v (.int .i64 n))
abbrev cn:PX:=.c (.v (.slice none 0 0))
abbrev ct:PX:=.c (.v (.bool true))
abbrev cf:PX:=.c (.v (.bool false))
abbrev J (n:Int):Value:=.int .i64 n
abbrev ZS:Value:=.string ⟨#[]⟩
abbrev ZB:Value:=.bool false
abbrev ZN:Value:=.slice none 0 0
abbrev o (d:Nat) (k:OpK) (xs:List PX) (l:List Nat) (r:POs):POs:=.op d k xs l r
abbrev m (d x:Nat) (r:POs):POs:=.op d .mov [.t x] [] r
abbrev M (d x:Nat) (r:POs):POs:=.op d .mov [.t x] [x] r
abbrev L (d x:Nat) (r:POs):POs:=.op d .loadS [.t x] [x] r
abbrev a (d k x:Nat) (r:POs):POs:=.op d (.fad k) [.t x] [] r
abbrev A (d k x:Nat) (r:POs):POs:=.op d (.fad k) [.t x] [x] r
abbrev b (d:Nat) (k:BinOp) (xs:List PX) (l:List Nat) (r:POs):POs:=.op d (.bin k) xs l r
abbrev f (d g:Nat) (xs:List PX) (l:List Nat) (r:POs):POs:=.op d (.callF g) xs l r
abbrev e (d k x:Nat) (l:List Nat) (r:POs):POs:=.op d (.ext k) [.t x] l r
abbrev O (d:Nat) (k:OpK) (x:Nat) (r:POs):POs:=.op d k [.t x] [x] r
abbrev B (d:Nat) (k:BinOp) (x:Nat) (n:Int) (r:POs):POs:=.op d (.bin k) [.t x,c n] [x] r
abbrev C (d:Nat) (k:BinOp) (x y:Nat) (r:POs):POs:=.op d (.bin k) [.t x,.t y] [x,y] r
abbrev U (d:Nat) (k:OpK) (l:List Nat) (r:POs):POs:=.op d k (l.map .t) l r
abbrev x (d g:Nat) (w:Bool) (s:POs) (y:PX) (l:List Nat) (r:POs):POs:=.ifx d g w s y l r
abbrev R (s:POs) (q:PC):PC:=.seq (.reg s) q
abbrev z0:List Value:=[(J 0),(J 0),(J 0),(J 0),(J 0),(J 0),(J 0),(J 0),(J 0)]
abbrev z1:List Value:=[(J 0),(J 0),ZS,(J 0),(J 0),ZN]
abbrev z2:List Value:=[ZS,ZB,ZN,ZN,ZN,ZN,(J 0),ZN]
abbrev z3:List Value:=[(J 0),(J 0),(J 0),(J 0),(J 0),(J 0),(J 0),(J 0),(J 0),(J 0),(J 0),(J 0),ZB,(J 0),(J 0),(J 0),(J 0),(J 0),(J 0),ZS,ZN,ZN]
abbrev z4:List Value:=[(J 0),(J 0)]
abbrev z5:List Value:=[(J 0),(J 0),(J 0)]
abbrev z6:List Value:=[(.map none)]
abbrev z7:List Value:=[(J 0),(J 0),(J 0),(J 0),(J 0),(J 0),(J 0)]
abbrev z8:List Value:=[ZB,(J 0),(J 0),(J 0),ZB,(J 0)]
abbrev z9:List Value:=[ZS,(.int .u8 0),(J 0),(J 0),(J 0),(J 0),(J 0)]
abbrev z10:List Value:=[(J 0),(J 0),(J 0),(J 0),(J 0),ZN,ZN,(J 0),(J 0),(J 0),ZN,(J 0),(J 0)]
abbrev z11:List Value:=[(J 0),(J 0),(J 0),ZB,(J 0)]
abbrev z12:List Value:=[(J 0),(J 0),(J 0),(J 0)]
abbrev z13:List Value:=[.nilFunc,.nilFunc,.nilFunc,.nilFunc,.nilFunc,.nilFunc,.nilFunc]
abbrev z14:List Value:=[(J 0),(J 0),ZB]
abbrev z15:List Value:=[(J 0),(J 0),(J 0),(J 0),ZB]
abbrev z16:List Value:=[(J 0),(J 0),(J 0),(J 0),(J 0),(J 0)]
abbrev z17:List Value:=[ZS,(.int .u8 0),(J 0),(J 0),(J 0),(J 0),(J 0),ZS,(.int .u8 0),(J 0),(J 0),(J 0),(J 0),(J 0),ZS,(.int .u8 0),(J 0),(J 0),(J 0),(J 0),(J 0),ZS,(.int .u8 0),(J 0),(J 0),(J 0),(J 0),(J 0),ZS,(.int .u8 0),(J 0),(J 0),(J 0),(J 0),(J 0),ZS,(.int .u8 0),(J 0),(J 0),(J 0),(J 0),(J 0),ZS,(.int .u8 0),(J 0),(J 0),(J 0),(J 0),(J 0),ZS,(.int .u8 0),(J 0),(J 0),(J 0),(J 0),(J 0),ZS,(.int .u8 0),(J 0),(J 0),(J 0),(J 0),(J 0)]
end Go.P.K
namespace Go.P
open Go.Sim (Ex OpK CK)
section
open K
def p3:PFn:=⟨65,[.tmp 2],R (o 2 .mov [cf] [2]<|.nil)<|R (o 5 .mov [t 0] [2]<|M 6 0<|O 7 (.len 0) 6<|o 8 .mn [t 7,c 40] [7]<|U 9 (.slc 9 false true false) [5,8]<|M 0 9<|.nil)<|R (o 3 .mov [cn] []<|.lax 3 [some 9]<|.nil)<|.seq (R (o 4 .mov [c 0] []<|.nil)<|.block 0 (.loop [0,3,4] [0,2,3] (.seq (R (m 10 4<|m 11 0<|O 12 (.len 0) 11<|C 13 .lss 10 12<|.nil)<|.cond (t 13) (.skip) (.exit 0))<|.seq (.block 1 (R (M 16 3<|m 17 0<|m 18 4<|U 19 (.iad 9) [17,18]<|O 20 (.loadA 9) 19<|U 21 (.callF 4) [16,20]<|M 3 21<|.nil)<|.seq (.regD 3 (m 22 0<|o 23 (.iad 9) [t 22,c 0] [22]<|O 24 (.loadA 9) 23<|m 25 0<|m 26 4<|U 27 (.iad 9) [25,26]<|O 28 (.loadA 9) 27<|U 29 (.callF 5) [24,28]<|m 30 0<|o 31 (.iad 9) [t 30,c 0] [30]<|O 32 (.loadA 9) 31<|m 33 0<|m 34 4<|U 35 (.iad 9) [33,34]<|O 36 (.loadA 9) 35<|U 37 (.callF 6) [32,36]<|C 38 .neq 29 37<|M 39 38<|x 57 39 false (m 40 0<|m 41 4<|U 42 (.iad 9) [40,41]<|O 43 (.loadA 9) 42<|m 44 0<|o 45 (.iad 9) [t 44,c 0] [44]<|O 46 (.loadA 9) 45<|U 47 (.callF 5) [43,46]<|m 48 0<|m 49 4<|U 50 (.iad 9) [48,49]<|O 51 (.loadA 9) 50<|m 52 0<|o 53 (.iad 9) [t 52,c 0] [52]<|O 54 (.loadA 9) 53<|U 55 (.callF 6) [51,54]<|C 56 .neq 47 55<|.nil) (t 56) [39]<|.nil) [0,1,3,0,0,24,56,127,0,256,768,0,0,6144,14336,32767,65535,131071,262143,262143,1048575,2097151,262143,4456447,12845055,33554431,262143,262143,201588735,470024191,262143,1074003967,3221487615,8589934591,17179869183,34359738367])<|.cond (t 57) (R (o 2 .mov [cf] []<|.nil)<|.ret) (.skip)))<|.reg<|M 14 4<|B 15 .add 14 1<|M 4 15<|.nil)))<|R (U 58 (.callF 7) []<|M 59 58<|.ifn 64 59 true (M 60 0<|O 61 (.callF 9) 60<|M 62 3<|U 63 (.callF 8) [61,62]<|.nil) (t 63) [0,3,59]<|M 2 64<|.nil)<|.ret,true⟩
def p4:PFn:=⟨34,[.tmp 4],R (O 3 (.box 27 9) 1<|o 4 .mov [cn] [4]<|.nil)<|R (o 6 .mov [t 0] [4]<|O 7 (.len 0) 6<|M 5 7<|.nil)<|.seq (.block 0 (.loop [0,3,5] [0,3,5] (.seq (.seq (.regD 3 (m 8 5<|B 9 .gtr 8 0<|M 10 9<|x 19 10 true (m 11 0<|m 12 5<|B 13 .sub 12 1<|U 14 (.iad 9) [11,13]<|O 15 (.loadA 9) 14<|o 16 (.loadA 9) [t 3] []<|U 17 (.callF 6) [15,16]<|B 18 .gtr 17 0<|.nil) (t 18) [10]<|.nil) [0,1,3,7,7,23,63,127,7,511,1023,2047])<|.cond (t 19) (.skip) (.exit 0))<|.block 1 (.reg<|M 20 5<|B 21 .sub 20 1<|M 5 21<|.nil))))<|.seq (.regX 3 (U 22 (.buildSl 27 9 0 z0 []) []<|m 23 0<|m 24 5<|o 25 (.slc 9 false true false) [t 23,t 24] [24]<|U 26 (.append 27 9 72 z0 false) [22,25]<|o 27 (.loadA 9) [t 3] []<|O 28 (.buildSl 27 9 1 z0 [0]) 27<|U 29 (.append 27 9 72 z0 false) [26,28]<|M 30 0<|M 31 5<|o 32 (.slc 9 true false false) [t 30,t 31] [31]<|U 33 (.append 27 9 72 z0 false) [29,32]<|m 4 33<|.nil) [0,0,0,6,15,0,32,127,0,0,768,2047,4095] [(0,3,23,23),(0,5,33,3),(4,5,33,3),(0,10,30,30),(4,10,30,30),(6,10,30,30),(7,10,30,30)])<|.ret,false⟩
def p5:PFn:=⟨56,[.tmp 4],R (O 2 (.box 27 9) 0<|O 3 (.box 27 9) 1<|o 4 .mov [c 0] [4]<|.nil)<|.seq (.regD 3 (o 5 (.fad 0) [t 2] [4]<|L 6 5<|a 7 0 3<|L 8 7<|U 9 (.callF 11) [6,8]<|a 10 2 2<|L 11 10<|a 12 2 3<|L 13 12<|U 14 (.callF 11) [11,13]<|a 15 3 2<|L 16 15<|a 17 3 3<|L 18 17<|U 19 (.callF 11) [16,18]<|a 20 4 2<|L 21 20<|a 22 4 3<|L 23 22<|U 24 (.callF 11) [21,23]<|a 25 5 2<|L 26 25<|a 27 5 3<|L 28 27<|U 29 (.callF 11) [26,28]<|a 30 1 2<|L 31 30<|a 32 1 3<|L 33 32<|U 34 (.callF 11) [31,33]<|a 35 6 2<|A 36 0 35<|L 37 36<|a 38 6 3<|A 39 0 38<|L 40 39<|U 41 (.callF 11) [37,40]<|a 42 6 2<|A 43 1 42<|L 44 43<|a 45 6 3<|A 46 1 45<|L 47 46<|U 48 (.callF 11) [44,47]<|A 49 8 2<|L 50 49<|A 51 8 3<|L 52 51<|U 53 (.callF 11) [50,52]<|U 54 (.buildSl 3 1 9 [(J 0)] [0,1,2,3,4,5,6,7,8]) [9,14,19,24,29,34,41,48,53]<|O 55 (.callF 10) 54<|M 4 55<|.nil) [0,1,0,4,15,0,32,0,128,511,0,1024,0,4096,16383,0,32768,0,131072,524287,0,1048576,0,4194304,16777215,0,33554432,0,134217728,536870911,0,1073741824,3221225472,0,8589934592,25769803776,68719476735,0,137438953472,412316860416,0,1099511627776,3298534883328,8796093022207,0,17592186044416,0,70368744177664,281474976710655,562949953421311,1125899906842623,2251799813685247])<|.ret,true⟩
def p6:PFn:=⟨74,[.tmp 4],R (O 2 (.box 27 9) 0<|O 3 (.box 27 9) 1<|o 4 .mov [c 0] [4]<|.nil)<|R (o 8 (.fad 0) [t 2] [4]<|L 9 8<|a 10 2 2<|L 11 10<|a 12 3 2<|L 13 12<|a 14 4 2<|L 15 14<|a 16 5 2<|L 17 16<|a 18 1 2<|L 19 18<|a 20 6 2<|A 21 0 20<|L 22 21<|a 23 6 2<|A 24 1 23<|L 25 24<|A 26 8 2<|L 27 26<|U 28 (.buildSl 3 1 9 [(J 0)] [0,1,2,3,4,5,6,7,8]) [9,11,13,15,17,19,22,25,27]<|M 5 28<|.nil)<|R (a 29 0 3<|L 30 29<|a 31 2 3<|L 32 31<|a 33 3 3<|L 34 33<|a 35 4 3<|L 36 35<|a 37 5 3<|L 38 37<|a 39 1 3<|L 40 39<|a 41 6 3<|A 42 0 41<|L 43 42<|a 44 6 3<|A 45 1 44<|L 46 45<|A 47 8 3<|L 48 47<|U 49 (.buildSl 3 1 9 [(J 0)] [0,1,2,3,4,5,6,7,8]) [30,32,34,36,38,40,43,46,48]<|M 6 49<|.nil)<|.seq (R (o 7 .mov [c 0] []<|.nil)<|.block 0 (.loop [5,6,7] [4] (.seq (R (m 50 7<|m 51 5<|O 52 (.len 0) 51<|C 53 .lss 50 52<|.nil)<|.cond (t 53) (.skip) (.exit 0))<|.seq (.block 1 (.seq (.seq (.regD 3 (m 56 5<|m 57 7<|U 58 (.iad 1) [56,57]<|L 59 58<|m 60 6<|m 61 7<|U 62 (.iad 1) [60,61]<|L 63 62<|C 64 .lss 59 63<|.nil) [0,0,3,7,0,0,48,112,255])<|.cond (t 64) (R (o 4 .mov [c (-1)] []<|.nil)<|.ret) (.skip))<|.seq (.regD 3 (m 65 5<|m 66 7<|U 67 (.iad 1) [65,66]<|L 68 67<|m 69 6<|m 70 7<|U 71 (.iad 1) [69,70]<|L 72 71<|C 73 .gtr 68 72<|.nil) [0,0,3,7,0,0,48,112,255])<|.cond (t 73) (R (o 4 .mov [c 1] []<|.nil)<|.ret) (.skip)))<|.reg<|M 54 7<|B 55 .add 54 1<|M 7 55<|.nil)))<|R (o 4 .mov [c 0] []<|.nil)<|.ret,true⟩
def p8:PFn:=⟨26,[.tmp 4],R (o 4 .mov [cf] [4]<|.nil)<|.seq (R (o 6 .mov [t 0] [4]<|O 7 (.len 0) 6<|m 8 1<|O 9 (.len 0) 8<|C 10 .neq 7 9<|.nil)<|.cond (t 10) (R (o 4 .mov [cf] []<|.nil)<|.ret) (.skip))<|.seq (R (o 5 .mov [c 0] []<|.nil)<|.block 0 (.loop [0,1,5] [4] (.seq (R (m 11 5<|m 12 0<|O 13 (.len 0) 12<|C 14 .lss 11 13<|.nil)<|.cond (t 14) (.skip) (.exit 0))<|.seq (.block 1 (.seq (.regD 3 (m 17 0<|m 18 5<|U 19 (.iad 9) [17,18]<|O 20 (.loadA 9) 19<|m 21 1<|m 22 5<|U 23 (.iad 9) [21,22]<|O 24 (.loadA 9) 23<|U 25 (.eqA true [.i,.i,.i,.i,.i,.i,.i,.i,.i]) [20,24]<|.nil) [0,0,3,7,0,0,48,112,255])<|.cond (t 25) (R (o 4 .mov [cf] []<|.nil)<|.ret) (.skip)))<|.reg<|M 15 5<|B 16 .add 15 1<|M 5 16<|.nil)))<|R (o 4 .mov [ct] []<|.nil)<|.ret,true⟩
def p9:PFn:=⟨6,[.tmp 2],R (o 2 .mov [cn] [2]<|.nil)<|R (o 3 .mov [t 0] [0,2]<|O 4 (.callF 17) 3<|f 5 16 [t 4,.c (.fn 5 [] [])] [4]<|M 2 5<|.nil)<|.ret,true⟩
def p10:PFn:=⟨18,[.tmp 2],R (o 2 .mov [c 0] [2]<|.nil)<|R (o 3 .mov [c 0] [2]<|.nil)<|.seq (R (M 6 0<|o 7 (.len 0) [t 6] []<|o 8 .mov [c 0] []<|.nil)<|.block 0 (.loop [3,6,7,8] [2,3] (R (b 9 .lss [t 8,t 7] []<|.nil)<|.seq (.cond (t 9) (.skip) (.exit 0))<|.seq (.block 1 (R (o 10 (.iad 1) [t 6,t 8] []<|L 11 10<|M 5 11<|.nil)<|R (m 12 5<|m 13 3<|C 14 .neq 12 13<|.nil)<|.cond (t 14) (R (M 15 5<|M 2 15<|.nil)<|.ret) (.skip)))<|.reg<|B 16 .add 8 1<|M 8 16<|.nil)))<|R (M 17 3<|M 2 17<|.nil)<|.ret,true⟩
def p11:PFn:=⟨20,[.tmp 4],R (o 4 .mov [c 0] [4]<|.nil)<|R (o 7 .mov [t 0] [4]<|O 8 (.callF 18) 7<|M 5 8<|.nil)<|R (m 9 1<|O 10 (.callF 18) 9<|M 6 10<|.nil)<|.seq (R (M 11 5<|.nil)<|.cond (t 11) (.seq (R (M 12 6<|.nil)<|.cond (t 12) (R (o 4 .mov [c 0] []<|.nil)<|.ret) (.skip))<|R (o 4 .mov [c (-1)] []<|.nil)<|.ret) (.skip))<|.seq (R (M 13 6<|.nil)<|.cond (t 13) (R (o 4 .mov [c 1] []<|.nil)<|.ret) (.skip))<|.seq (R (m 14 0<|m 15 1<|C 16 .lss 14 15<|.nil)<|.cond (t 16) (R (o 4 .mov [c (-1)] []<|.nil)<|.ret) (.skip))<|.seq (R (M 17 0<|M 18 1<|C 19 .gtr 17 18<|.nil)<|.cond (t 19) (R (o 4 .mov [c 1] []<|.nil)<|.ret) (.skip))<|R (o 4 .mov [c 0] []<|.nil)<|.ret,true⟩
def p16:PFn:=⟨12,[.tmp 4],R (o 4 .mov [cn] [4]<|.nil)<|R (o 6 .mov [t 0] [0,4]<|O 7 (.callF 25) 6<|M 5 7<|.nil)<|R (m 8 5<|M 9 1<|f 10 26 [t 8,t 9] [8,9,10,4294967296]<|.nil)<|R (o 11 .mov [t 5] [5,10]<|M 4 11<|.nil)<|.ret,true⟩
def p17:PFn:=⟨4,[.tmp 2],R (O 1 (.box 22 1) 0<|o 2 .mov [.c (.v .nilFunc)] [2]<|.nil)<|R (o 3 (.mkfn (.func 27) 0) [t 1] [1,2]<|M 2 3<|.nil)<|.ret,true⟩
def p18:PFn:=⟨6,[.tmp 2],R (o 2 .mov [cf] [2]<|.nil)<|R (o 3 .mov [t 0] [2]<|M 4 0<|C 5 .neq 3 4<|M 2 5<|.nil)<|.ret,true⟩
def p19:PFn:=⟨7,[.tmp 2],R (O 1 (.box 44 6) 0<|o 2 .mov [cf] [2]<|.nil)<|R (o 3 (.loadA 6) [t 1] [1,2]<|O 4 (.callF 28) 3<|O 5 (.len 0) 4<|B 6 .eql 5 0<|M 2 6<|.nil)<|.ret,true⟩
def p21:PFn:=⟨20,[.tmp 2],R (O 1 (.box 44 6) 0<|o 2 .mov [c 0] [2]<|.nil)<|R (o 3 .mov [c 0] [2]<|.nil)<|.seq (R (A 6 2 1<|L 7 6<|o 8 (.len 0) [t 7] []<|o 9 .mov [c 0] []<|.nil)<|.block 0 (.loop [3,7,8,9] [3] (R (b 10 .lss [t 9,t 8] []<|.nil)<|.seq (.cond (t 10) (.skip) (.exit 0))<|.seq (.block 1 (R (o 11 (.iad 6) [t 7,t 9] []<|O 12 (.loadA 6) 11<|U 5 (.alloc 63 z1) []<|.sto (.store 6) [t 5,t 12] [12]<|.nil)<|.reg<|M 13 3<|A 14 5 5<|L 15 14<|O 16 (.len 0) 15<|C 17 .add 13 16<|M 3 17<|.nil))<|.reg<|B 18 .add 9 1<|M 9 18<|.nil)))<|R (M 19 3<|M 2 19<|.nil)<|.ret,true⟩
def p22:PFn:=⟨32,[.tmp 4,.tmp 5,.tmp 6],R (O 2 (.box 44 6) 0<|o 4 .mov [c 0] [4]<|o 5 .mov [c 0] [4,5]<|o 6 .mov [c 0] [5,6]<|.nil)<|.seq (R (o 9 .mov [t 1] [6]<|B 10 .lss 9 0<|.nil)<|.cond (t 10) (R (o 4 .mov [c 0] []<|o 5 .mov [c 0] []<|o 6 .mov [c 2] []<|.nil)<|.ret) (.skip))<|.seq (R (A 11 2 2<|L 12 11<|o 13 (.len 0) [t 12] []<|o 14 .mov [c 0] []<|.nil)<|.block 0 (.loop [1,12,13,14] [4,5,6] (R (b 15 .lss [t 14,t 13] []<|.nil)<|.seq (.cond (t 15) (.skip) (.exit 0))<|.seq (.block 1 (R (m 16 14<|o 17 (.iad 6) [t 12,t 14] []<|O 18 (.loadA 6) 17<|U 8 (.alloc 63 z1) []<|M 7 16<|.sto (.store 6) [t 8,t 18] [18]<|.nil)<|.seq (R (m 19 1<|a 20 5 8<|L 21 20<|O 22 (.len 0) 21<|C 23 .lss 19 22<|.nil)<|.cond (t 23) (R (M 24 7<|M 25 1<|M 4 24<|M 5 25<|o 6 .mov [c 0] []<|.nil)<|.ret) (.skip))<|.reg<|M 26 1<|A 27 5 8<|L 28 27<|O 29 (.len 0) 28<|C 30 .sub 26 29<|M 1 30<|.nil))<|.reg<|B 31 .add 14 1<|M 14 31<|.nil)))<|R (o 4 .mov [c 0] []<|o 5 .mov [c 0] []<|o 6 .mov [c 2] []<|.nil)<|.ret,true⟩
def p25:PFn:=⟨5,[.tmp 2],R (o 2 .mov [cn] [2]<|.nil)<|R (o 3 .mov [t 0] [0,2]<|f 4 32 [cn,t 3] [3]<|M 2 4<|.nil)<|.ret,true⟩
def p26:PFn:=⟨9,[],.reg<|m 4 0<|M 5 0<|O 6 (.len 0) 5<|M 7 1<|f 8 33 [t 4,t 6,t 7] [4,6,7,8]<|.nil,true⟩
def p27:PFn:=⟨16,[],R (L 5 1<|o 6 (.len 0) [t 5] []<|o 7 .mov [c 0] []<|.nil)<|.block 0 (.loop [0,5,6,7] [] (R (b 8 .lss [t 7,t 6] []<|.nil)<|.seq (.cond (t 8) (.skip) (.exit 0))<|.seq (.block 1 (R (o 9 (.iad 9) [t 5,t 7] []<|O 10 (.loadA 9) 9<|U 4 (.alloc 27 z0) []<|.sto (.store 9) [t 4,t 10] [10]<|.nil)<|R (m 11 0<|O 12 (.loadA 9) 4<|U 13 .callV [11,12]<|O 14 (.un .not) 13<|.nil)<|.condL (t 14) (.ret) (.skip)))<|.reg<|B 15 .add 7 1<|M 7 15<|.nil)),true⟩
def p28:PFn:=⟨94,[.tmp 2],R (O 1 (.box 44 6) 0<|o 2 .mov [cn] [2]<|.nil)<|R (o 7 (.loadA 6) [t 1] [1,2]<|O 8 (.build z2 [(0,6)]) 7<|O 9 (.box 116 8) 8<|.ownc 9 7 119 3 false<|M 3 9<|.nil)<|R (m 10 3<|O 11 (.mkfn (.func 34) 1) 10<|m 12 3<|O 13 (.mkfn (.func 35) 1) 12<|m 14 3<|O 15 (.mkfn (.func 36) 1) 14<|m 16 3<|O 17 (.mkfn (.func 37) 1) 16<|m 18 3<|O 19 (.mkfn (.func 38) 1) 18<|m 20 3<|O 21 (.mkfn (.func 39) 1) 20<|m 22 3<|O 23 (.mkfn (.func 40) 1) 22<|m 24 3<|O 25 (.mkfn (.func 41) 1) 24<|m 26 3<|O 27 (.mkfn (.func 42) 1) 26<|m 28 3<|O 29 (.mkfn (.func 43) 1) 28<|m 30 3<|O 31 (.mkfn (.func 44) 1) 30<|m 32 3<|O 33 (.mkfn (.func 45) 1) 32<|m 34 3<|O 35 (.mkfn (.func 46) 1) 34<|m 36 3<|O 37 (.mkfn (.func 47) 1) 36<|m 38 3<|O 39 (.mkfn (.func 48) 1) 38<|m 40 3<|O 41 (.mkfn (.func 49) 1) 40<|m 42 3<|O 43 (.mkfn (.func 50) 1) 42<|.mkfl 44 1 [.nilFunc] [t 11,t 13,t 15,t 17,t 19,t 21,t 23,t 25,t 27,t 29,t 31,t 33,t 35,t 37,t 39,t 41,t 43] [11,13,15,17,19,21,23,25,27,29,31,33,35,37,39,41,43]<|M 4 44<|.nil)<|.seq (R (M 45 4<|o 46 (.len 0) [t 45] []<|o 47 .mov [c 0] []<|.nil)<|.block 0 (.loopU 18 [3,45,46,47] (R (b 48 .lss [t 47,t 46] []<|.nil)<|.seq (.condL (t 48) (.skip) (.exit 0))<|.seq (.block 1 (R (m 49 47<|o 50 (.iad 1) [t 45,t 47] []<|L 51 50<|M 5 49<|M 6 51<|.nil)<|R (m 52 3<|M 53 5<|B 54 .add 53 1<|O 55 .nilc 52<|A 56 6 55<|.sto (.store 1) [t 56,t 54] [54,56]<|.nil)<|.seq (R (m 57 3<|O 58 .nilc 57<|A 59 7 58<|L 60 59<|O 61 (.len 0) 60<|B 62 .gtr 61 0<|M 63 62<|x 86 63 true (m 64 3<|O 65 .nilc 64<|A 66 6 65<|L 67 66<|B 68 .eql 67 2<|M 69 68<|x 85 69 false (m 70 3<|O 71 .nilc 70<|A 72 6 71<|L 73 72<|B 74 .geq 73 10<|M 75 74<|x 84 75 true (m 76 3<|O 77 .nilc 76<|A 78 7 77<|L 79 78<|o 80 (.iad 3) [t 79,c 0] [79]<|A 81 0 80<|L 82 81<|B 83 .lss 82 10<|.nil) (t 83) [75]<|.nil) (t 84) [69]<|.nil) (t 85) [63]<|.nil)<|.cond (t 86) (.exit 0) (.skip))<|.reg<|M 87 6<|o 88 .callV [t 87] [87,88]<|.nil))<|.reg<|b 89 .add [t 47,c 1] [47,88]<|M 47 89<|.nil)))<|R (M 90 3<|O 91 .nilc 90<|A 92 7 91<|L 93 92<|M 2 93<|.nil)<|.ret,true⟩
def p29:PFn:=⟨34,[.tmp 2,.tmp 3],R (O 1 (.box 75 22) 0<|o 2 .mov [c 0] [2]<|o 3 .mov [c 0] [2,3]<|.nil)<|R (o 7 (.fad 2) [t 1] [3]<|O 8 (.loadA 8) 7<|O 9 (.callF 51) 8<|M 6 9<|e 10 0 6 []<|O 11 (.ext 1) 6<|M 4 10<|M 5 11<|.nil)<|.seq (.block 0 (R (m 13 5<|B 14 .neq 13 0<|M 12 14<|.nil)<|.cond (t 12) (R (M 15 5<|o 2 .mov [c 0] []<|M 3 15<|.nil)<|.ret) (R (a 17 10 1<|L 18 17<|B 19 .lss 18 0<|M 16 19<|.nil)<|.cond (t 16) (R (o 2 .mov [c 0] []<|o 3 .mov [c 2] []<|.nil)<|.ret) (R (a 21 10 1<|L 22 21<|B 23 .gtr 22 0<|M 20 23<|.nil)<|.condJ [4] (t 20) (.reg<|A 24 10 1<|L 25 24<|M 4 25<|.nil) (.skip)))))<|.seq (.block 1 (R (m 27 4<|B 28 .rem 27 7560<|B 29 .neq 28 0<|M 26 29<|.nil)<|.cond (t 26) (R (o 2 .mov [c 0] []<|o 3 .mov [c 16] []<|.nil)<|.ret) (R (m 31 4<|B 32 .gtr 31 15482880<|M 30 32<|.nil)<|.cond (t 30) (R (o 2 .mov [c 0] []<|o 3 .mov [c 5] []<|.nil)<|.ret) (.skip))))<|R (M 33 4<|M 2 33<|o 3 .mov [c 0] []<|.nil)<|.ret,true⟩
def q32_4a:PC:=.reg<|U 5 (.alloc 27 z0) []<|.sto (.store 9) [t 5,t 7] [7]<|.nil
def q32_4b:PC:=.block 1 (.reg<|o 8 .loadS [t 2] []<|O 9 (.loadA 9) 5<|O 10 (.buildSl 27 9 1 z0 [0]) 9<|U 11 (.append 27 9 72 z0 false) [8,10]<|.sto (.store 1) [t 2,t 11] [2,11]<|.nil)
def p32:PFn:=⟨13,[.tmp 4],R (O 2 (.box 22 1) 0<|.ownc 2 0 27 9 false<|o 4 .mov [cn] [4]<|.nil)<|.seq (R (o 6 .mov [t 1] [1,4]<|.nil)<|.block 0 (.rangeF 13 [2] (t 6) [7] q32_4a q32_4b))<|R (L 12 2<|M 4 12<|.nil)<|.ret,true⟩
def p33:PFn:=⟨63,[],R (o 6 .mov [c 20] []<|.nil)<|R (m 10 6<|o 7 .mov [c 0] []<|M 8 10<|.nil)<|.seq (.block 0 (.loop [0,1,2,6,7,8] [0,1,2,6,7] (.seq (R (m 11 8<|m 12 1<|C 13 .leq 11 12<|.nil)<|.cond (t 13) (.skip) (.exit 0))<|.block 1 (R (m 14 0<|M 15 7<|m 16 8<|m 17 2<|f 18 55 [t 14,t 15,t 16,t 17] [14,15,16,17,18]<|.nil)<|R (o 19 .mov [t 8] [18]<|M 7 19<|.nil)<|.reg<|M 20 8<|m 21 6<|C 22 .add 20 21<|M 8 22<|.nil))))<|R (m 23 0<|M 24 7<|m 25 1<|m 26 2<|f 27 55 [t 23,t 24,t 25,t 26] [23,24,25,26,27]<|.nil)<|.block 2 (.loop [0,1,2,6] [] (.seq (R (m 28 6<|m 29 1<|C 30 .lss 28 29<|.nil)<|.cond (t 30) (.skip) (.exit 2))<|.block 3 (R (m 31 6<|b 32 .mul [c 2,t 31] [31]<|o 7 .mov [c 0] []<|M 8 32<|.nil)<|.seq (.block 4 (.loop [0,1,2,6,7,8] [0,1,2,6,7] (.seq (R (m 33 8<|m 34 1<|C 35 .leq 33 34<|.nil)<|.cond (t 35) (.skip) (.exit 4))<|.block 5 (R (m 36 0<|m 37 7<|M 38 7<|m 39 6<|C 40 .add 38 39<|m 41 8<|m 42 2<|f 43 56 [t 36,t 37,t 40,t 41,t 42] [36,37,40,41,42,43]<|.nil)<|R (o 44 .mov [t 8] [43]<|M 7 44<|.nil)<|.reg<|M 45 8<|m 46 6<|b 47 .mul [c 2,t 46] [46]<|C 48 .add 45 47<|M 8 48<|.nil))))<|.seq (R (m 49 7<|m 50 6<|C 51 .add 49 50<|M 9 51<|.nil)<|R (m 52 9<|m 53 1<|C 54 .lss 52 53<|.nil)<|.condJ [0,1,2,6] (t 54) (.reg<|m 55 0<|M 56 7<|M 57 9<|m 58 1<|m 59 2<|f 60 56 [t 55,t 56,t 57,t 58,t 59] [55,56,57,58,59,60]<|.nil) (.skip))<|.reg<|o 61 .mov [t 6] [6,60]<|B 62 .mul 61 2<|M 6 62<|.nil))),true⟩
def p34:PFn:=⟨159,[],.seq (R (m 11 0<|O 12 .nilc 11<|A 13 0 12<|A 14 2 13<|L 15 14<|o 16 (.len 0) [t 15] []<|o 17 .mov [c 0] []<|.nil)<|.block 0 (.loop [0,15,16,17] [0] (R (b 18 .lss [t 17,t 16] []<|.nil)<|.seq (.cond (t 18) (.skip) (.exit 0))<|.seq (.block 1 (R (o 19 (.iad 6) [t 15,t 17] []<|O 20 (.loadA 6) 19<|U 3 (.alloc 63 z1) []<|.sto (.store 6) [t 3,t 20] [20]<|.nil)<|.regD 3 (m 21 0<|a 22 2 3<|L 23 22<|O 24 (.callF 58) 23<|O 25 (.un .not) 24<|M 26 25<|x 32 26 false (a 27 5 3<|L 28 27<|O 29 (.len 0) 28<|f 30 59 [t 29,c 1,c 4] [29]<|O 31 (.un .not) 30<|.nil) (t 31) [26]<|M 33 32<|x 38 33 false (a 34 3 3<|O 35 (.loadA 2) 34<|O 36 (.callF 60) 35<|B 37 .neq 36 0<|.nil) (t 37) [33]<|A 39 0 3<|O 40 (.loadA 2) 39<|f 41 57 [t 21,t 38,t 40] [21,38,40,41]<|.nil) [0,0,2,6,14,30,62,126,254,510,1022,2046,4094,8190,16382,32766,65534,131070,0,262144,1048575]))<|.reg<|b 42 .add [t 17,c 1] [17,41]<|M 17 42<|.nil)))<|.seq (R (m 43 0<|O 44 .nilc 43<|A 45 0 44<|A 46 3 45<|L 47 46<|o 48 (.len 0) [t 47] []<|o 49 .mov [c 0] []<|.nil)<|.block 2 (.loop [0,47,48,49] [0] (R (b 50 .lss [t 49,t 48] []<|.nil)<|.seq (.cond (t 50) (.skip) (.exit 2))<|.seq (.block 3 (R (o 51 (.iad 22) [t 47,t 49] []<|O 52 (.loadA 22) 51<|U 5 (.alloc 75 z3) []<|.sto (.store 22) [t 5,t 52] [52]<|.nil)<|R (a 53 19 5<|L 54 53<|O 55 (.callF 58) 54<|O 56 (.un .not) 55<|M 57 56<|x 62 57 false (a 58 20 5<|L 59 58<|O 60 (.len 0) 59<|B 61 .gtr 60 64<|.nil) (t 61) [57]<|M 6 62<|.nil)<|.seq (R (a 63 21 5<|L 64 63<|o 65 (.len 0) [t 64] []<|o 66 .mov [c 0] []<|.nil)<|.block 4 (.loop [0,5,6,47,48,49,64,65,66] [0,5,6,47,48,49] (R (b 67 .lss [t 66,t 65] []<|.nil)<|.seq (.cond (t 67) (.skip) (.exit 4))<|.seq (.block 5 (R (o 68 (.iad 2) [t 64,t 66] []<|O 69 (.loadA 2) 68<|U 8 (.alloc 98 [ZN,ZN]) []<|.sto (.store 2) [t 8,t 69] [69]<|.nil)<|R (M 70 6<|M 71 70<|x 76 71 false (a 72 0 8<|L 73 72<|O 74 (.len 0) 73<|B 75 .gtr 74 64<|.nil) (t 75) [71]<|M 77 76<|x 82 77 false (a 78 1 8<|L 79 78<|O 80 (.len 0) 79<|B 81 .gtr 80 2<|.nil) (t 81) [77]<|M 6 82<|.nil)<|R (A 83 1 8<|L 84 83<|o 85 (.len 0) [t 84] []<|o 86 .mov [c 0] []<|.nil)<|.block 6 (.loop [0,5,6,47,48,49,64,65,66,84,85,86] [0,5,6,47,48,49,64,65,66] (R (b 87 .lss [t 86,t 85] []<|.nil)<|.seq (.cond (t 87) (.skip) (.exit 6))<|.seq (.block 7 (R (o 88 (.iad 2) [t 84,t 86] []<|O 89 (.loadA 2) 88<|U 10 (.alloc 92 [ZN,ZN]) []<|.sto (.store 2) [t 10,t 89] [89]<|.nil)<|.reg<|M 90 6<|M 91 90<|x 96 91 false (a 92 0 10<|L 93 92<|O 94 (.len 0) 93<|B 95 .gtr 94 128<|.nil) (t 95) [91]<|M 97 96<|x 102 97 false (A 98 1 10<|L 99 98<|O 100 (.len 0) 99<|B 101 .gtr 100 16<|.nil) (t 101) [10,97]<|M 6 102<|.nil))<|.reg<|B 103 .add 86 1<|M 86 103<|.nil))))<|.reg<|B 104 .add 66 1<|M 66 104<|.nil)))<|.reg<|m 105 0<|M 106 6<|A 107 0 5<|O 108 (.loadA 2) 107<|f 109 57 [t 105,t 106,t 108] [105,106,108,109]<|.nil))<|.reg<|b 110 .add [t 49,c 1] [49,109]<|M 49 110<|.nil)))<|.reg<|m 111 0<|m 112 0<|O 113 .nilc 112<|A 114 0 113<|A 115 0 114<|L 116 115<|O 117 (.callF 58) 116<|O 118 (.un .not) 117<|M 119 118<|x 128 119 false (m 120 0<|O 121 .nilc 120<|A 122 0 121<|A 123 2 122<|L 124 123<|O 125 (.len 0) 124<|f 126 59 [t 125,c 1,c 32] [125]<|O 127 (.un .not) 126<|.nil) (t 127) [119]<|M 129 128<|x 138 129 false (m 130 0<|O 131 .nilc 130<|A 132 0 131<|A 133 3 132<|L 134 133<|O 135 (.len 0) 134<|f 136 59 [t 135,c 1,c 1024] [135]<|O 137 (.un .not) 136<|.nil) (t 137) [129]<|M 139 138<|x 147 139 false (m 140 0<|O 141 .nilc 140<|A 142 0 141<|A 143 4 142<|L 144 143<|O 145 (.len 0) 144<|B 146 .gtr 145 4096<|.nil) (t 146) [139]<|M 148 147<|x 156 148 false (M 149 0<|O 150 .nilc 149<|A 151 0 150<|A 152 5 151<|L 153 152<|O 154 (.len 0) 153<|B 155 .gtr 154 100<|.nil) (t 155) [0,148]<|U 157 (.build z4 []) []<|f 158 57 [t 111,t 156,t 157] [111,156,157,158]<|.nil,true⟩
def p35:PFn:=⟨86,[],R (U 8 .mkmap []<|M 2 8<|.nil)<|.seq (R (m 9 0<|O 10 .nilc 9<|A 11 0 10<|O 12 (.loadA 6) 11<|O 13 (.callF 61) 12<|o 14 (.len 0) [t 13] []<|o 15 .mov [c 0] []<|.nil)<|.block 0 (.loop [0,2,13,14,15] [0] (R (b 16 .lss [t 15,t 14] []<|.nil)<|.seq (.cond (t 16) (.skip) (.exit 0))<|.seq (.block 1 (R (o 17 (.iad 2) [t 13,t 15] []<|O 18 (.loadA 2) 17<|U 4 (.alloc 25 z4) []<|.sto (.store 2) [t 4,t 18] [18]<|.nil)<|.seq (.regD 3 (m 19 0<|o 20 (.loadA 2) [t 4] []<|O 21 (.callF 62) 20<|O 22 (.un .not) 21<|M 23 22<|x 27 23 false (m 24 2<|o 25 (.loadA 2) [t 4] []<|U 26 (.lookup true [.i,.i] (.v (.bool false)) false) [24,25]<|.nil) (t 26) [23]<|M 28 27<|x 39 28 false (a 29 1 4<|L 30 29<|m 31 0<|O 32 .nilc 31<|A 33 0 32<|O 34 (.loadA 6) 33<|a 35 0 4<|L 36 35<|U 37 (.callF 63) [34,36]<|C 38 .gtr 30 37<|.nil) (t 38) [28]<|o 40 (.loadA 2) [t 4] []<|f 41 57 [t 19,t 39,t 40] [19,39,40,41]<|.nil) [0,0,2,6,14,30,30,126,254,510,1022,2046,1022,5118,13310,29694,1022,66558,259070,524286,1048574,0,4194303])<|.reg<|o 42 .mov [t 2] [41]<|O 43 (.loadA 2) 4<|.sto (.mapup true [.i,.i]) [t 42,t 43,ct] [42,43]<|.nil))<|.reg<|B 44 .add 15 1<|M 15 44<|.nil)))<|R (o 5 .mov [cf] []<|.nil)<|.seq (R (m 45 0<|O 46 .nilc 45<|A 47 0 46<|A 48 5 47<|L 49 48<|o 50 (.len 0) [t 49] []<|o 51 .mov [c 0] []<|.nil)<|.block 2 (.loop [0,5,49,50,51] [0,5] (R (b 52 .lss [t 51,t 50] []<|.nil)<|.seq (.cond (t 52) (.skip) (.exit 2))<|.seq (.block 3 (R (m 53 51<|o 54 (.iad 2) [t 49,t 51] []<|O 55 (.loadA 2) 54<|U 7 (.alloc 25 z4) []<|M 6 53<|.sto (.store 2) [t 7,t 55] [55]<|.nil)<|.regD 3 (M 56 5<|M 57 56<|x 61 57 false (o 58 (.loadA 2) [t 7] []<|O 59 (.callF 62) 58<|O 60 (.un .not) 59<|.nil) (t 60) [57]<|M 62 61<|x 80 62 false (m 63 6<|B 64 .gtr 63 0<|M 65 64<|x 79 65 true (A 66 0 7<|L 67 66<|m 68 0<|O 69 .nilc 68<|A 70 0 69<|A 71 5 70<|L 72 71<|M 73 6<|B 74 .sub 73 1<|U 75 (.iad 2) [72,74]<|A 76 0 75<|L 77 76<|C 78 .leq 67 77<|.nil) (t 78) [6,7,65]<|.nil) (t 79) [6,7,62]<|M 5 80<|.nil) [0,1,3,7,15,31,63,127,255,511,1023,2047,1023,5119,13311,29695,62463,1023,132095,521215,1045503,2094079,4194303,8388607,16777215,33554431]))<|.reg<|B 81 .add 51 1<|M 51 81<|.nil)))<|.reg<|M 82 0<|M 83 5<|U 84 (.build z4 []) []<|f 85 57 [t 82,t 83,t 84] [82,83,84,85]<|.nil,true⟩
def p36:PFn:=⟨11,[],R (m 3 0<|O 4 .nilc 3<|A 5 0 4<|O 6 (.loadA 6) 5<|O 7 (.callF 21) 6<|U 2 (.alloc 3 [(J 0)]) []<|.sto (.store 1) [t 2,t 7] [7]<|.nil)<|.reg<|M 8 0<|O 9 (.mkfn (.func 65) 0) 2<|f 10 64 [t 8,t 9] [8,9,10]<|.nil,true⟩
def p37:PFn:=⟨35,[],.seq (R (m 6 0<|O 7 .nilc 6<|A 8 0 7<|A 9 2 8<|L 10 9<|o 11 (.len 0) [t 10] []<|o 12 .mov [c 0] []<|.nil)<|.block 0 (.loop [0,10,11,12] [0] (R (b 13 .lss [t 12,t 11] []<|.nil)<|.seq (.cond (t 13) (.skip) (.exit 0))<|.seq (.block 1 (R (o 14 (.iad 6) [t 10,t 12] []<|O 15 (.loadA 6) 14<|U 3 (.alloc 63 z1) []<|.sto (.store 6) [t 3,t 15] [15]<|.nil)<|R (A 16 5 3<|L 17 16<|o 18 (.len 0) [t 17] []<|o 19 .mov [c 0] []<|.nil)<|.block 2 (.loop [0,10,11,12,17,18,19] [0,10,11,12] (R (b 20 .lss [t 19,t 18] []<|.nil)<|.seq (.cond (t 20) (.skip) (.exit 2))<|.seq (.block 3 (R (o 21 (.iad 3) [t 17,t 19] []<|O 22 (.loadA 3) 21<|U 5 (.alloc 94 z5) []<|.sto (.store 3) [t 5,t 22] [22]<|.nil)<|.regD 3 (m 23 0<|a 24 2 5<|L 25 24<|O 26 (.callF 66) 25<|B 27 .neq 26 0<|A 28 0 5<|O 29 (.loadA 2) 28<|f 30 57 [t 23,t 27,t 29] [23,27,29,30]<|.nil) [0,0,2,6,14,0,32,127]))<|.reg<|b 31 .add [t 19,c 1] [19,30]<|M 19 31<|.nil))))<|.reg<|B 32 .add 12 1<|M 12 32<|.nil)))<|.reg<|M 33 0<|f 34 64 [t 33,.c (.fn 67 [] [])] [33,34]<|.nil,true⟩
def p38:PFn:=⟨5,[],R (O 1 (.box 114 1) 0<|.nil)<|.reg<|o 2 .loadS [t 1] []<|O 3 (.mkfn (.func 68) 0) 1<|f 4 64 [t 2,t 3] [2,3,4]<|.nil,true⟩
def p39:PFn:=⟨4,[],.reg<|M 2 0<|f 3 70 [t 2,.c (.fn 71 [] [])] [2,3]<|.nil,true⟩
def p40:PFn:=⟨4,[],.reg<|M 2 0<|f 3 70 [t 2,.c (.fn 72 [] [])] [2,3]<|.nil,true⟩
def p41:PFn:=⟨4,[],.reg<|M 2 0<|f 3 73 [t 2,.c (.fn 74 [] [])] [2,3]<|.nil,true⟩
def p42:PFn:=⟨5,[],R (O 1 (.box 114 1) 0<|.nil)<|.reg<|o 2 .loadS [t 1] []<|O 3 (.mkfn (.func 76) 0) 1<|f 4 73 [t 2,t 3] [2,3,4]<|.nil,true⟩
def p43:PFn:=⟨5,[],R (O 1 (.box 114 1) 0<|.nil)<|.reg<|o 2 .loadS [t 1] []<|O 3 (.mkfn (.func 82) 0) 1<|f 4 73 [t 2,t 3] [2,3,4]<|.nil,true⟩
def p44:PFn:=⟨35,[],R (U 7 .mkmap []<|U 2 (.alloc 161 z6) []<|.sto (.store 1) [t 2,t 7] [7]<|.nil)<|R (m 8 0<|O 9 .nilc 8<|A 10 0 9<|O 11 (.loadA 6) 10<|O 12 (.callF 21) 11<|M 3 12<|.nil)<|.seq (R (M 13 3<|o 14 .mov [c 0] []<|.nil)<|.block 0 (.loop [0,2,13,14] [0,2] (R (b 15 .lss [t 14,t 13] []<|.nil)<|.seq (.cond (t 15) (.skip) (.exit 0))<|.seq (.block 1 (R (m 16 14<|M 4 16<|.nil)<|R (o 17 .mov [c 0] []<|.nil)<|.block 2 (.loop [0,2,4,13,14,17] [0,2,13,14] (R (b 18 .lss [t 17,c 2] []<|.nil)<|.seq (.cond (t 18) (.skip) (.exit 2))<|.seq (.block 3 (R (m 19 17<|M 5 19<|.nil)<|R (o 20 .mov [c 0] []<|.nil)<|.block 4 (.loop [0,2,4,5,13,14,17,20] [0,2,4,13,14,17] (R (b 21 .lss [t 20,c 4] []<|.nil)<|.seq (.cond (t 21) (.skip) (.exit 4))<|.seq (.block 5 (R (m 22 20<|M 6 22<|.nil)<|.reg<|m 23 0<|m 24 4<|m 25 5<|M 26 6<|o 27 .loadS [t 2] []<|f 28 87 [t 23,t 24,t 25,t 26,t 27] [23,24,25,26,27,28]<|.nil))<|.reg<|b 29 .add [t 20,c 1] [20,28]<|M 20 29<|.nil))))<|.reg<|B 30 .add 17 1<|M 17 30<|.nil))))<|.reg<|B 31 .add 14 1<|M 14 31<|.nil)))<|.reg<|M 32 0<|O 33 (.mkfn (.func 88) 0) 2<|f 34 73 [t 32,t 33] [32,33,34]<|.nil,true⟩
def p45:PFn:=⟨31,[],R (m 7 0<|O 8 (.callF 89) 7<|M 6 8<|e 9 0 6 []<|O 10 (.ext 1) 6<|o 2 .mov [t 9] [2,9]<|o 3 .mov [t 10] [2,10]<|.nil)<|R (m 11 0<|O 12 .nilc 11<|A 13 0 12<|A 14 4 13<|L 15 14<|o 16 (.len 0) [t 15] []<|o 17 .mov [c 0] []<|.nil)<|.block 0 (.loop [0,3,15,16,17] [] (R (b 18 .lss [t 17,t 16] []<|.nil)<|.seq (.cond (t 18) (.skip) (.exit 0))<|.seq (.block 1 (R (m 19 17<|o 20 (.iad 7) [t 15,t 17] []<|O 21 (.loadA 7) 20<|U 5 (.alloc 168 z7) []<|M 4 19<|.sto (.store 7) [t 5,t 21] [21]<|.nil)<|.regD 3 (m 22 0<|m 23 3<|M 24 4<|U 25 (.iad 1) [23,24]<|L 26 25<|A 27 0 5<|O 28 (.loadA 2) 27<|f 29 57 [t 22,t 26,t 28] [22,26,28,29]<|.nil) [0,0,0,6,14,0,32,127]))<|.reg<|b 30 .add [t 17,c 1] [17,29]<|M 17 30<|.nil)),true⟩
def p46:PFn:=⟨62,[],R (m 9 0<|O 10 (.callF 89) 9<|M 8 10<|e 11 0 8 []<|O 12 (.ext 1) 8<|M 2 11<|M 3 12<|.nil)<|R (m 13 0<|O 14 .nilc 13<|A 15 0 14<|A 16 4 15<|L 17 16<|o 18 (.len 0) [t 17] []<|o 19 .mov [c 0] []<|.nil)<|.block 0 (.loop [0,2,3,17,18,19] [] (R (b 20 .lss [t 19,t 18] []<|.nil)<|.seq (.cond (t 20) (.skip) (.exit 0))<|.seq (.block 1 (R (m 21 19<|o 22 (.iad 7) [t 17,t 19] []<|O 23 (.loadA 7) 22<|U 5 (.alloc 168 z7) []<|M 4 21<|.sto (.store 7) [t 5,t 23] [23]<|.nil)<|R (o 6 .mov [cf] []<|.nil)<|.seq (R (o 7 .mov [c 0] []<|.nil)<|.block 2 (.loop [0,2,3,4,5,6,7,17,18,19] [0,2,3,5,6,17,18,19] (.seq (R (m 24 7<|m 25 4<|C 26 .lss 24 25<|M 27 26<|x 33 27 true (m 28 3<|m 29 4<|U 30 (.iad 1) [28,29]<|L 31 30<|O 32 (.un .not) 31<|.nil) (t 32) [27]<|M 34 33<|x 37 34 true (m 35 6<|O 36 (.un .not) 35<|.nil) (t 36) [34]<|.nil)<|.cond (t 37) (.skip) (.exit 2))<|.seq (.block 3 (.regD 3 (m 40 3<|m 41 7<|U 42 (.iad 1) [40,41]<|L 43 42<|O 44 (.un .not) 43<|M 45 44<|x 55 45 true (m 46 2<|m 47 7<|U 48 (.iad 9) [46,47]<|O 49 (.loadA 9) 48<|m 50 2<|m 51 4<|U 52 (.iad 9) [50,51]<|O 53 (.loadA 9) 52<|U 54 (.callF 90) [49,53]<|.nil) (t 54) [45]<|M 6 55<|.nil) [0,0,3,7,15,31,63,63,255,511,63,63,3135,7231,16383,32767,65535]))<|.reg<|M 38 7<|B 39 .add 38 1<|M 7 39<|.nil)))<|.reg<|m 56 0<|M 57 6<|A 58 0 5<|O 59 (.loadA 2) 58<|f 60 57 [t 56,t 57,t 59] [56,57,59,60]<|.nil))<|.reg<|b 61 .add [t 19,c 1] [19,60]<|M 19 61<|.nil)),true⟩
def p47:PFn:=⟨80,[],R (m 8 0<|O 9 .nilc 8<|A 10 7 9<|L 11 10<|O 12 (.len 0) 11<|M 2 12<|.nil)<|R (m 13 0<|f 14 64 [t 13,.c (.fn 91 [] [])] [13,14]<|.nil)<|.seq (R (o 15 .mov [t 0] [14]<|O 16 .nilc 15<|A 17 7 16<|L 18 17<|O 19 (.len 0) 18<|M 20 2<|C 21 .gtr 19 20<|.nil)<|.cond (t 21) (.ret) (.skip))<|R (U 3 (.alloc 175 z8) []<|.nil)<|R (o 4 .mov [ct] [4]<|.nil)<|.seq (R (o 22 .mov [t 0] [4]<|O 23 .nilc 22<|A 24 0 23<|A 25 3 24<|L 26 25<|o 27 (.len 0) [t 26] []<|o 28 .mov [c 0] []<|.nil)<|.block 0 (.loop [0,3,26,27,28] [0,3] (R (b 29 .lss [t 28,t 27] []<|.nil)<|.seq (.cond (t 29) (.skip) (.exit 0))<|.seq (.block 1 (R (o 30 (.iad 22) [t 26,t 28] []<|O 31 (.loadA 22) 30<|U 6 (.alloc 75 z3) []<|.sto (.store 22) [t 6,t 31] [31]<|.nil)<|R (o 33 (.loadA 6) [t 3] []<|o 34 (.loadA 22) [t 6] []<|U 35 (.callF 92) [33,34]<|M 32 35<|e 36 0 32 []<|O 37 (.ext 1) 32<|.sto (.store 6) [t 3,t 36] [36]<|M 4 37<|.nil)<|R (M 38 4<|O 39 (.un .not) 38<|.nil)<|.cond (t 39) (R (M 40 0<|A 41 0 6<|O 42 (.loadA 2) 41<|f 43 57 [t 40,ct,t 42] [40,42,43]<|.nil)<|.ret) (.skip)))<|.reg<|b 44 .add [t 28,c 1] [28,43]<|M 28 44<|.nil)))<|R (a 45 0 3<|L 46 45<|M 47 46<|x 51 47 true (a 48 3 3<|L 49 48<|B 50 .eql 49 0<|.nil) (t 50) [47]<|M 52 51<|x 61 52 false (a 53 3 3<|L 54 53<|B 55 .neq 54 0<|M 56 55<|x 60 56 true (O 57 (.loadA 6) 3<|O 58 (.callF 93) 57<|O 59 (.un .not) 58<|.nil) (t 59) [3,56]<|.nil) (t 60) [3,52]<|M 7 61<|.nil)<|.regD 3 (m 62 0<|M 63 7<|m 64 0<|O 65 .nilc 64<|A 66 0 65<|A 67 3 66<|L 68 67<|M 69 0<|O 70 .nilc 69<|A 71 0 70<|A 72 3 71<|L 73 72<|O 74 (.len 0) 73<|B 75 .sub 74 1<|U 76 (.iad 22) [68,75]<|A 77 0 76<|O 78 (.loadA 2) 77<|f 79 57 [t 62,t 63,t 78] [62,63,78,79]<|.nil) [0,0,0,4,12,28,60,0,128,384,896,1920,3968,8064,16380,32764,65532,131071],true⟩
def p48:PFn:=⟨5,[],R (O 1 (.box 114 1) 0<|.nil)<|.reg<|o 2 .loadS [t 1] []<|O 3 (.mkfn (.func 94) 0) 1<|f 4 64 [t 2,t 3] [2,3,4]<|.nil,true⟩
def p49:PFn:=⟨4,[],.reg<|M 2 0<|f 3 64 [t 2,.c (.fn 98 [] [])] [2,3]<|.nil,true⟩
def p50:PFn:=⟨5,[],R (O 1 (.box 114 1) 0<|.nil)<|.reg<|o 2 .loadS [t 1] []<|O 3 (.mkfn (.func 99) 0) 1<|f 4 73 [t 2,t 3] [2,3,4]<|.nil,true⟩
def p51:PFn:=⟨12,[.tmp 2,.tmp 3],R (O 1 (.box 71 8) 0<|o 2 .mov [c 0] [2]<|o 3 .mov [c 0] [2,3]<|.nil)<|.seq (R (o 5 (.loadA 8) [t 1] [3]<|O 6 (.callF 100) 5<|M 4 6<|.nil)<|R (m 7 4<|B 8 .neq 7 0<|.nil)<|.cond (t 8) (R (M 9 4<|o 2 .mov [c 0] []<|M 3 9<|.nil)<|.ret) (.skip))<|R (O 10 (.loadA 8) 1<|O 11 (.callF 101) 10<|M 2 11<|o 3 .mov [c 0] []<|.nil)<|.ret,true⟩
def p53:PFn:=⟨19,[.tmp 4,.tmp 5],R (O 2 (.box 92 2) 0<|o 4 .mov [cn] [4]<|o 5 .mov [c 0] [4,5]<|.nil)<|R (o 9 (.loadA 2) [t 2] [2,5]<|M 10 1<|U 11 (.callF 102) [9,10]<|M 8 11<|e 12 0 8 []<|O 13 (.ext 1) 8<|M 6 12<|M 7 13<|.nil)<|.seq (R (m 14 7<|B 15 .neq 14 0<|.nil)<|.cond (t 15) (R (M 16 7<|o 4 .mov [cn] []<|.lax 4 [some 1]<|M 5 16<|.nil)<|.ret) (.skip))<|R (M 17 6<|O 18 (.callF 103) 17<|M 4 18<|o 5 .mov [c 0] []<|.nil)<|.ret,true⟩
def p54:PFn:=⟨12,[.tmp 2,.tmp 3],R (O 1 (.box 79 3) 0<|o 2 .mov [c 0] [2]<|o 3 .mov [c 0] [2,3]<|.nil)<|.seq (R (o 5 (.loadA 3) [t 1] [3]<|O 6 (.callF 104) 5<|M 4 6<|.nil)<|R (m 7 4<|B 8 .neq 7 0<|.nil)<|.cond (t 8) (R (M 9 4<|o 2 .mov [c 0] []<|M 3 9<|.nil)<|.ret) (.skip))<|R (O 10 (.loadA 3) 1<|O 11 (.callF 105) 10<|M 2 11<|o 3 .mov [c 0] []<|.nil)<|.ret,true⟩
def p55:PFn:=⟨53,[],R (m 10 1<|B 11 .add 10 1<|M 8 11<|.nil)<|.block 0 (.loop [0,1,2,3,8] [] (.seq (R (m 12 8<|m 13 2<|C 14 .lss 12 13<|.nil)<|.cond (t 14) (.skip) (.exit 0))<|.seq (.block 1 (R (m 17 8<|M 9 17<|.nil)<|.block 2 (.loop [0,1,2,3,8,9] [0,1,2,3,8] (.seq (.seq (.regD 3 (m 18 9<|m 19 1<|C 20 .gtr 18 19<|M 21 20<|x 34 21 true (m 22 3<|m 23 0<|m 24 9<|U 25 (.iad 9) [23,24]<|O 26 (.loadA 9) 25<|m 27 0<|m 28 9<|B 29 .sub 28 1<|U 30 (.iad 9) [27,29]<|O 31 (.loadA 9) 30<|U 32 .callV [22,26,31]<|B 33 .lss 32 0<|.nil) (t 33) [21]<|.nil) [0,0,3,7,15,15,15,111,239,15,15,1039,3599,7695,16383,32767,65535])<|.cond (t 34) (.skip) (.exit 2))<|.seq (.block 3 (.regD 3 (m 37 0<|m 38 9<|m 39 0<|m 40 9<|B 41 .sub 40 1<|m 42 0<|m 43 9<|B 44 .sub 43 1<|U 45 (.iad 9) [42,44]<|O 46 (.loadA 9) 45<|m 47 0<|m 48 9<|U 49 (.iad 9) [47,48]<|O 50 (.loadA 9) 49<|U 51 (.iad 9) [37,38]<|.sto (.store 9) [t 51,t 46] [46,51]<|U 52 (.iad 9) [39,41]<|.sto (.store 9) [t 52,t 50] [50,52]<|.nil) [0,0,0,0,8,0,0,64,224,480,0,0,3072,7168,16355,32739,65535,131071]))<|.reg<|M 35 9<|B 36 .sub 35 1<|M 9 36<|.nil))))<|.reg<|M 15 8<|B 16 .add 15 1<|M 8 16<|.nil)),true⟩
def p56:PFn:=⟨220,[],.seq (R (m 25 2<|m 26 1<|C 27 .sub 25 26<|B 28 .eql 27 1<|.nil)<|.cond (t 28) (R (M 29 2<|M 10 29<|.nil)<|R (M 30 3<|M 11 30<|.nil)<|.seq (.block 0 (.loop [0,1,4,10,11] [0,1,10] (.seq (R (m 31 10<|m 32 11<|C 33 .lss 31 32<|.nil)<|.cond (t 33) (.skip) (.exit 0))<|.block 1 (R (m 34 10<|m 35 11<|C 36 .add 34 35<|O 37 (.convI .u64) 36<|b 38 .shr [t 37,.c (.v (.int .u64 1))] [37]<|O 39 (.convI .i64) 38<|M 12 39<|.nil)<|.seq (.regD 3 (m 40 4<|m 41 0<|m 42 12<|U 43 (.iad 9) [41,42]<|O 44 (.loadA 9) 43<|m 45 0<|m 46 1<|U 47 (.iad 9) [45,46]<|O 48 (.loadA 9) 47<|U 49 .callV [40,44,48]<|B 50 .lss 49 0<|.nil) [0,0,0,6,14,0,0,96,224,511,1023])<|.condJ [0,1,4,10,11] (t 50) (.reg<|M 51 12<|B 52 .add 51 1<|M 10 52<|.nil) (.reg<|M 53 12<|M 11 53<|.nil)))))<|.seq (R (M 54 1<|M 13 54<|.nil)<|.block 2 (.loop [0,10,13] [] (.seq (R (m 55 13<|m 56 10<|B 57 .sub 56 1<|C 58 .lss 55 57<|.nil)<|.cond (t 58) (.skip) (.exit 2))<|.seq (.block 3 (.regD 3 (m 61 0<|m 62 13<|m 63 0<|m 64 13<|B 65 .add 64 1<|m 66 0<|m 67 13<|B 68 .add 67 1<|U 69 (.iad 9) [66,68]<|O 70 (.loadA 9) 69<|m 71 0<|m 72 13<|U 73 (.iad 9) [71,72]<|O 74 (.loadA 9) 73<|U 75 (.iad 9) [61,62]<|.sto (.store 9) [t 75,t 70] [70,75]<|U 76 (.iad 9) [63,65]<|.sto (.store 9) [t 76,t 74] [74,76]<|.nil) [0,0,0,0,8,0,0,64,224,480,0,0,3072,7168,16355,32739,65535,131071]))<|.reg<|M 59 13<|B 60 .add 59 1<|M 13 60<|.nil)))<|.ret) (.skip))<|.seq (R (m 77 3<|m 78 2<|C 79 .sub 77 78<|B 80 .eql 79 1<|.nil)<|.cond (t 80) (R (M 81 1<|M 14 81<|.nil)<|R (m 82 2<|M 15 82<|.nil)<|.seq (.block 4 (.loop [0,2,4,14,15] [0,2,14] (.seq (R (m 83 14<|m 84 15<|C 85 .lss 83 84<|.nil)<|.cond (t 85) (.skip) (.exit 4))<|.block 5 (R (m 86 14<|m 87 15<|C 88 .add 86 87<|O 89 (.convI .u64) 88<|b 90 .shr [t 89,.c (.v (.int .u64 1))] [89]<|O 91 (.convI .i64) 90<|M 16 91<|.nil)<|.seq (.regD 3 (m 92 4<|m 93 0<|m 94 2<|U 95 (.iad 9) [93,94]<|O 96 (.loadA 9) 95<|m 97 0<|m 98 16<|U 99 (.iad 9) [97,98]<|O 100 (.loadA 9) 99<|U 101 .callV [92,96,100]<|B 102 .lss 101 0<|O 103 (.un .not) 102<|.nil) [0,0,0,6,14,0,0,96,224,511,1023,2047])<|.condJ [0,2,4,14,15] (t 103) (.reg<|M 104 16<|B 105 .add 104 1<|M 14 105<|.nil) (.reg<|M 106 16<|M 15 106<|.nil)))))<|.seq (R (M 107 2<|M 17 107<|.nil)<|.block 6 (.loop [0,14,17] [] (.seq (R (m 108 17<|m 109 14<|C 110 .gtr 108 109<|.nil)<|.cond (t 110) (.skip) (.exit 6))<|.seq (.block 7 (.regD 3 (m 113 0<|m 114 17<|m 115 0<|m 116 17<|B 117 .sub 116 1<|m 118 0<|m 119 17<|B 120 .sub 119 1<|U 121 (.iad 9) [118,120]<|O 122 (.loadA 9) 121<|m 123 0<|m 124 17<|U 125 (.iad 9) [123,124]<|O 126 (.loadA 9) 125<|U 127 (.iad 9) [113,114]<|.sto (.store 9) [t 127,t 122] [122,127]<|U 128 (.iad 9) [115,117]<|.sto (.store 9) [t 128,t 126] [126,128]<|.nil) [0,0,0,0,8,0,0,64,224,480,0,0,3072,7168,16355,32739,65535,131071]))<|.reg<|M 111 17<|B 112 .sub 111 1<|M 17 112<|.nil)))<|.ret) (.skip))<|R (m 129 1<|m 130 3<|C 131 .add 129 130<|O 132 (.convI .u64) 131<|b 133 .shr [t 132,.c (.v (.int .u64 1))] [132]<|O 134 (.convI .i64) 133<|M 18 134<|.nil)<|R (m 135 18<|m 136 2<|C 137 .add 135 136<|M 19 137<|.nil)<|R (o 20 .mov [c 0] [20]<|o 21 .mov [c 0] [20,21]<|.nil)<|.seq (R (o 138 .mov [t 2] [21]<|m 139 18<|C 140 .gtr 138 139<|.nil)<|.condJ [0,1,2,3,4,18,19,20,21] (t 140) (R (m 141 19<|m 142 3<|C 143 .sub 141 142<|M 20 143<|.nil)<|.reg<|m 144 18<|M 21 144<|.nil) (R (m 145 1<|M 20 145<|.nil)<|.reg<|m 146 2<|M 21 146<|.nil))<|R (m 147 19<|B 148 .sub 147 1<|M 22 148<|.nil)<|.seq (.block 8 (.loop [0,1,2,3,4,18,19,20,21,22] [0,1,2,3,4,18,19,20] (.seq (R (m 149 20<|m 150 21<|C 151 .lss 149 150<|.nil)<|.cond (t 151) (.skip) (.exit 8))<|.block 9 (R (m 152 20<|m 153 21<|C 154 .add 152 153<|O 155 (.convI .u64) 154<|b 156 .shr [t 155,.c (.v (.int .u64 1))] [155]<|O 157 (.convI .i64) 156<|M 23 157<|.nil)<|.seq (.regD 3 (m 158 4<|m 159 0<|m 160 22<|m 161 23<|C 162 .sub 160 161<|U 163 (.iad 9) [159,162]<|O 164 (.loadA 9) 163<|m 165 0<|m 166 23<|U 167 (.iad 9) [165,166]<|O 168 (.loadA 9) 167<|U 169 .callV [158,164,168]<|B 170 .lss 169 0<|O 171 (.un .not) 170<|.nil) [0,0,0,0,12,30,62,0,0,384,896,2047,4095,8191])<|.condJ [0,1,2,3,4,18,19,20,21,22] (t 171) (.reg<|M 172 23<|B 173 .add 172 1<|M 20 173<|.nil) (.reg<|M 174 23<|M 21 174<|.nil)))))<|R (M 175 19<|m 176 20<|C 177 .sub 175 176<|M 24 177<|.nil)<|.seq (R (m 178 20<|m 179 2<|C 180 .lss 178 179<|M 181 180<|x 185 181 true (m 182 2<|m 183 24<|C 184 .lss 182 183<|.nil) (t 184) [181]<|.nil)<|.condJ [0,1,3,4,18,20,24] (t 185) (.reg<|m 186 0<|m 187 20<|M 188 2<|m 189 24<|m 190 4<|f 191 106 [t 186,t 187,t 188,t 189,t 190] [186,187,188,189,190,191]<|.nil) (.skip))<|.seq (R (o 192 .mov [t 1] [191]<|m 193 20<|C 194 .lss 192 193<|M 195 194<|x 199 195 true (m 196 20<|m 197 18<|C 198 .lss 196 197<|.nil) (t 198) [195]<|.nil)<|.condJ [0,3,4,18,24] (t 199) (.reg<|m 200 0<|M 201 1<|M 202 20<|m 203 18<|m 204 4<|f 205 56 [t 200,t 201,t 202,t 203,t 204] [200,201,202,203,204,205]<|.nil) (.skip))<|R (o 206 .mov [t 18] [205]<|m 207 24<|C 208 .lss 206 207<|M 209 208<|x 213 209 true (m 210 24<|m 211 3<|C 212 .lss 210 211<|.nil) (t 212) [209]<|.nil)<|.condJ [] (t 213) (.reg<|M 214 0<|M 215 18<|M 216 24<|M 217 3<|M 218 4<|f 219 56 [t 214,t 215,t 216,t 217,t 218] [214,215,216,217,218,219]<|.nil) (.skip),true⟩
def p57:PFn:=⟨22,[],R (O 5 (.box 25 2) 2<|.nil)<|R (M 6 1<|.nil)<|.condJ [] (t 6) (.regD 3 (m 7 0<|m 8 0<|O 9 .nilc 8<|A 10 7 9<|L 11 10<|M 12 0<|O 13 .nilc 12<|A 14 6 13<|L 15 14<|O 16 (.loadA 2) 5<|U 17 (.build z5 [(0,1),(1,2)]) [15,16]<|O 18 (.buildSl 119 3 1 z5 [0]) 17<|U 19 (.append 119 3 24 z5 false) [11,18]<|O 20 .nilc 7<|A 21 7 20<|.sto (.store 1) [t 21,t 19] [19,21]<|.nil) [0,0,2,6,14,0,32,96,224,0,992,2016,4094,8191,16383,32767]) (.skip),true⟩
def p58:PFn:=⟨14,[.tmp 2],R (o 2 .mov [cf] [2]<|.nil)<|R (o 3 .mov [.c (.fn 107 [] [])] [2]<|.nil)<|R (m 4 0<|O 5 (.len 1) 4<|B 6 .leq 5 256<|M 7 6<|x 13 7 true (M 8 0<|O 9 (.s2b 5) 8<|M 10 3<|U 11 (.callF 108) [9,10]<|O 12 (.un .not) 11<|.nil) (t 12) [0,3,7]<|M 2 13<|.nil)<|.ret,true⟩
def p59:PFn:=⟨15,[.tmp 6],R (o 6 .mov [cf] [6]<|.nil)<|R (o 7 .mov [t 0] [6]<|M 8 1<|C 9 .geq 7 8<|M 10 9<|x 14 10 true (M 11 0<|M 12 2<|C 13 .leq 11 12<|.nil) (t 13) [0,2,10]<|M 6 14<|.nil)<|.ret,true⟩
def p60:PFn:=⟨21,[.tmp 2],R (O 1 (.box 60 2) 0<|o 2 .mov [c 0] [2]<|.nil)<|.seq (R (o 3 (.fad 0) [t 1] [2]<|L 4 3<|B 5 .lss 4 (-77)<|M 6 5<|x 10 6 false (a 7 0 1<|L 8 7<|B 9 .gtr 8 77<|.nil) (t 9) [6]<|M 11 10<|x 15 11 false (a 12 1 1<|L 13 12<|B 14 .lss 13 (-140)<|.nil) (t 14) [11]<|M 16 15<|x 20 16 false (A 17 1 1<|L 18 17<|B 19 .gtr 18 140<|.nil) (t 19) [1,16]<|.nil)<|.cond (t 20) (R (o 2 .mov [c 2] []<|.nil)<|.ret) (.skip))<|R (o 2 .mov [c 0] []<|.nil)<|.ret,true⟩
def q61_5a:PC:=.reg<|M 5 8<|.nil
def q61_5b:PC:=.block 1 (.regD 3 (o 9 .loadS [t 3] []<|M 10 5<|O 11 .nilc 10<|O 12 (.loadA 2) 11<|O 13 (.buildSl 25 2 1 z4 [0]) 12<|U 14 (.append 25 2 16 z4 false) [9,13]<|.sto (.store 1) [t 3,t 14] [3,14]<|.nil) [0,0,2,6,14,31,63])
def p61:PFn:=⟨16,[.tmp 2],R (O 1 (.box 44 6) 0<|o 2 .mov [cn] [2]<|.nil)<|R (o 3 (.alloc 42 [ZN]) [] [2]<|.ownc 3 0 25 2 false<|.nil)<|.seq (R (O 6 (.callF 109) 1<|.nil)<|.block 0 (.rangeF 16 [3] (t 6) [7,8] q61_5a q61_5b))<|R (L 15 3<|M 2 15<|.nil)<|.ret,true⟩
def p62:PFn:=⟨11,[.tmp 2],R (O 1 (.box 25 2) 0<|o 2 .mov [cf] [2]<|.nil)<|R (o 3 (.fad 0) [t 1] [2]<|L 4 3<|f 5 59 [t 4,c 0,c 99] [4]<|M 6 5<|x 10 6 true (A 7 1 1<|L 8 7<|f 9 59 [t 8,c 1,c 1073741824] [8]<|.nil) (t 9) [1,6]<|M 2 10<|.nil)<|.ret,true⟩
def p63:PFn:=⟨21,[.tmp 4],R (O 2 (.box 44 6) 0<|o 4 .mov [c 0] [4]<|.nil)<|.seq (R (o 7 (.fad 5) [t 2] [2,4]<|L 8 7<|o 9 (.len 0) [t 8] []<|o 10 .mov [c 0] []<|.nil)<|.block 0 (.loop [1,8,9,10] [4] (R (b 11 .lss [t 10,t 9] []<|.nil)<|.seq (.cond (t 11) (.skip) (.exit 0))<|.seq (.block 1 (R (o 12 (.iad 2) [t 8,t 10] []<|O 13 (.loadA 2) 12<|U 6 (.alloc 25 z4) []<|.sto (.store 2) [t 6,t 13] [13]<|.nil)<|R (a 14 0 6<|L 15 14<|m 16 1<|C 17 .eql 15 16<|.nil)<|.cond (t 17) (R (A 18 1 6<|L 19 18<|M 4 19<|.nil)<|.ret) (.skip)))<|.reg<|B 20 .add 10 1<|M 10 20<|.nil)))<|R (o 4 .mov [c 0] []<|.nil)<|.ret,true⟩
def p64:PFn:=⟨26,[],R (m 6 0<|O 7 .nilc 6<|A 8 0 7<|A 9 3 8<|L 10 9<|o 11 (.len 0) [t 10] []<|o 12 .mov [c 0] []<|.nil)<|.block 0 (.loop [0,1,10,11,12] [] (R (b 13 .lss [t 12,t 11] []<|.nil)<|.seq (.cond (t 13) (.skip) (.exit 0))<|.seq (.block 1 (R (m 14 12<|o 15 (.iad 22) [t 10,t 12] []<|O 16 (.loadA 22) 15<|U 5 (.alloc 75 z3) []<|M 4 14<|.sto (.store 22) [t 5,t 16] [16]<|.nil)<|.regD 3 (m 17 0<|m 18 1<|M 19 4<|o 20 (.loadA 22) [t 5] []<|U 21 .callV [18,19,20]<|A 22 0 5<|O 23 (.loadA 2) 22<|f 24 57 [t 17,t 21,t 23] [17,21,23,24]<|.nil) [0,0,0,0,14,0,32,127]))<|.reg<|b 25 .add [t 12,c 1] [12,24]<|M 12 25<|.nil)),true⟩
def p65:PFn:=⟨73,[.tmp 5],R (O 4 (.box 75 22) 1<|o 5 .mov [cf] [5]<|.nil)<|R (o 12 (.fad 21) [t 4] [5]<|L 13 12<|O 14 (.len 0) 13<|L 15 2<|C 16 .neq 14 15<|M 6 16<|.nil)<|.seq (R (A 17 21 4<|L 18 17<|o 19 (.len 0) [t 18] []<|o 20 .mov [c 0] []<|.nil)<|.block 0 (.loop [6,18,19,20] [6] (R (b 21 .lss [t 20,t 19] []<|.nil)<|.seq (.cond (t 21) (.skip) (.exit 0))<|.seq (.block 1 (R (o 22 (.iad 2) [t 18,t 20] []<|O 23 (.loadA 2) 22<|U 8 (.alloc 98 [ZN,ZN]) []<|.sto (.store 2) [t 8,t 23] [23]<|.nil)<|R (A 24 1 8<|L 25 24<|M 9 25<|.nil)<|R (M 26 6<|M 27 26<|x 31 27 false (m 28 9<|O 29 (.len 0) 28<|B 30 .eql 29 0<|.nil) (t 30) [27]<|M 32 31<|x 39 32 false (m 33 9<|o 34 (.iad 2) [t 33,c 0] [33]<|A 35 0 34<|L 36 35<|O 37 (.len 0) 36<|B 38 .eql 37 0<|.nil) (t 38) [32]<|M 40 39<|x 50 40 false (m 41 9<|m 42 9<|O 43 (.len 0) 42<|B 44 .sub 43 1<|U 45 (.iad 2) [41,44]<|A 46 0 45<|L 47 46<|O 48 (.len 0) 47<|B 49 .eql 48 0<|.nil) (t 49) [40]<|M 6 50<|.nil)<|R (M 51 9<|o 52 (.len 0) [t 51] []<|o 53 .mov [c 0] []<|.nil)<|.block 2 (.loop [6,18,19,20,51,52,53] [6,18,19,20] (R (b 54 .lss [t 53,t 52] []<|.nil)<|.seq (.cond (t 54) (.skip) (.exit 2))<|.seq (.block 3 (R (o 55 (.iad 2) [t 51,t 53] []<|O 56 (.loadA 2) 55<|U 11 (.alloc 92 [ZN,ZN]) []<|.sto (.store 2) [t 11,t 56] [56]<|.nil)<|.reg<|M 57 6<|M 58 57<|x 69 58 false (a 59 0 11<|L 60 59<|O 61 (.len 0) 60<|B 62 .eql 61 0<|M 63 62<|x 68 63 true (A 64 1 11<|L 65 64<|O 66 (.len 0) 65<|B 67 .gtr 66 0<|.nil) (t 67) [11,63]<|.nil) (t 68) [11,58]<|M 6 69<|.nil))<|.reg<|B 70 .add 53 1<|M 53 70<|.nil))))<|.reg<|B 71 .add 20 1<|M 20 71<|.nil)))<|R (M 72 6<|M 5 72<|.nil)<|.ret,true⟩
def p66:PFn:=⟨11,[.tmp 2],R (o 2 .mov [c 0] [2]<|.nil)<|R (o 6 .mov [t 0] [0,2]<|O 7 (.callF 110) 6<|M 5 7<|e 8 0 5 []<|O 9 (.ext 1) 5<|U 3 (.alloc 198 z9) []<|.sto (.store 7) [t 3,t 8] [3,8]<|M 4 9<|.nil)<|R (M 10 4<|M 2 10<|.nil)<|.ret,true⟩
def p67:PFn:=⟨70,[.tmp 4],R (O 3 (.box 75 22) 1<|o 4 .mov [cf] [4]<|.nil)<|R (o 13 (.loadA 22) [t 3] [4]<|O 14 (.callF 29) 13<|M 12 14<|e 15 0 12 []<|O 16 (.ext 1) 12<|M 5 15<|M 6 16<|.nil)<|R (o 7 .mov [cf] []<|.nil)<|.seq (R (A 17 21 3<|L 18 17<|o 19 (.len 0) [t 18] []<|o 20 .mov [c 0] []<|.nil)<|.block 0 (.loop [5,6,7,18,19,20] [6,7] (R (b 21 .lss [t 20,t 19] []<|.nil)<|.seq (.cond (t 21) (.skip) (.exit 0))<|.seq (.block 1 (R (o 22 (.iad 2) [t 18,t 20] []<|O 23 (.loadA 2) 22<|U 9 (.alloc 98 [ZN,ZN]) []<|.sto (.store 2) [t 9,t 23] [23]<|.nil)<|R (a 24 0 9<|L 25 24<|o 26 (.len 0) [t 25] []<|o 27 .mov [c 0] []<|.nil)<|.block 2 (.loop [5,6,7,9,18,19,20,25,26,27] [5,6,7,18,19,20] (R (b 28 .lss [t 27,t 26] []<|.nil)<|.seq (.cond (t 28) (.skip) (.exit 2))<|.seq (.block 3 (R (m 29 27<|o 30 (.iad 2) [t 25,t 27] []<|O 31 (.loadA 2) 30<|U 11 (.alloc 139 z4) []<|M 10 29<|.sto (.store 2) [t 11,t 31] [31]<|.nil)<|.regD 3 (M 32 7<|M 33 32<|x 38 33 false (a 34 1 11<|L 35 34<|O 36 (.callF 66) 35<|B 37 .neq 36 0<|.nil) (t 37) [33]<|M 39 38<|x 46 39 false (a 40 0 11<|L 41 40<|m 42 5<|B 43 .sub 42 1<|f 44 59 [t 41,c 0,t 43] [41,43]<|O 45 (.un .not) 44<|.nil) (t 45) [39]<|M 47 46<|x 62 47 false (m 48 10<|B 49 .gtr 48 0<|M 50 49<|x 61 50 true (A 51 0 11<|L 52 51<|a 53 0 9<|L 54 53<|M 55 10<|B 56 .sub 55 1<|U 57 (.iad 2) [54,56]<|A 58 0 57<|L 59 58<|C 60 .leq 52 59<|.nil) (t 60) [10,11,50]<|.nil) (t 61) [10,11,47]<|M 7 62<|.nil) [0,1,3,7,15,31,63,127,255,511,255,1279,4095,8191,16383,32767,65535,131071,262143,524287,1048575,524287,2621439,524287,8912895,31981567,65535999,132644863,268435455,536870911,1073741823,2147483647]))<|.reg<|B 63 .add 27 1<|M 27 63<|.nil))))<|.reg<|B 64 .add 20 1<|M 20 64<|.nil)))<|R (M 65 7<|M 66 65<|x 69 66 true (M 67 6<|B 68 .eql 67 0<|.nil) (t 68) [6,66]<|M 4 69<|.nil)<|.ret,true⟩
def p68:PFn:=⟨55,[.tmp 5],R (O 4 (.box 75 22) 1<|o 5 .mov [cf] [5]<|.nil)<|R (o 12 (.loadA 22) [t 4] [5]<|O 13 (.callF 29) 12<|M 11 13<|e 14 0 11 []<|O 15 (.ext 1) 11<|o 6 .mov [t 14] [6,14]<|o 7 .mov [t 15] [6,15]<|.nil)<|R (M 16 7<|B 17 .neq 16 0<|M 18 17<|x 23 18 false (a 19 11 4<|L 20 19<|f 21 59 [t 20,c (-7),c 7] [20]<|O 22 (.un .not) 21<|.nil) (t 22) [18]<|M 8 23<|.nil)<|.seq (R (o 24 .loadS [t 2] []<|O 25 .nilc 24<|A 26 0 25<|A 27 2 26<|L 28 27<|o 29 (.len 0) [t 28] []<|o 30 .mov [c 0] []<|.nil)<|.block 0 (.loop [2,4,8,28,29,30] [8] (R (b 31 .lss [t 30,t 29] []<|.nil)<|.seq (.cond (t 31) (.skip) (.exit 0))<|.seq (.block 1 (R (o 32 (.iad 6) [t 28,t 30] []<|O 33 (.loadA 6) 32<|U 10 (.alloc 63 z1) []<|.sto (.store 6) [t 10,t 33] [33]<|.nil)<|R (o 34 .loadS [t 2] []<|O 35 .nilc 34<|A 36 0 35<|A 37 1 36<|L 38 37<|M 39 38<|x 42 39 true (m 40 8<|O 41 (.un .not) 40<|.nil) (t 41) [39]<|.nil)<|.condJ [2,4,8,28,29,30] (t 42) (R (a 44 11 4<|L 45 44<|A 46 3 10<|O 47 (.loadA 2) 46<|U 48 (.callF 69) [45,47]<|M 43 48<|e 49 0 43 [49]<|e 50 1 43 [43,49]<|M 7 50<|.nil)<|.reg<|M 51 7<|B 52 .neq 51 0<|M 8 52<|.nil) (.skip)))<|.reg<|B 53 .add 30 1<|M 30 53<|.nil)))<|R (M 54 8<|M 5 54<|.nil)<|.ret,true⟩
def p69:PFn:=⟨48,[.tmp 4,.tmp 5],R (O 3 (.box 60 2) 1<|o 4 .mov [c 0] [4]<|o 5 .mov [c 0] [4,5]<|.nil)<|.seq (R (o 7 .mov [t 0] [5]<|O 8 (.callF 111) 7<|M 6 8<|.nil)<|R (m 9 6<|B 10 .neq 9 0<|.nil)<|.cond (t 10) (R (M 11 6<|o 4 .mov [c 0] []<|M 5 11<|.nil)<|.ret) (.skip))<|.seq (R (a 12 0 3<|L 13 12<|B 14 .lss 13 (-77)<|M 15 14<|x 19 15 false (a 16 0 3<|L 17 16<|B 18 .gtr 17 77<|.nil) (t 18) [15]<|M 20 19<|x 24 20 false (a 21 1 3<|L 22 21<|B 23 .lss 22 (-140)<|.nil) (t 23) [20]<|M 25 24<|x 29 25 false (a 26 1 3<|L 27 26<|B 28 .gtr 27 140<|.nil) (t 28) [25]<|.nil)<|.cond (t 29) (R (o 4 .mov [c 0] []<|o 5 .mov [c 2] []<|.nil)<|.ret) (.skip))<|R (M 30 0<|a 31 1 3<|L 32 31<|b 33 .mul [c 7,t 32] [32]<|A 34 0 3<|L 35 34<|b 36 .mul [c 12,t 35] [35]<|C 37 .sub 33 36<|C 38 .add 30 37<|M 0 38<|.nil)<|.seq (.block 0 (.loop [0] [0] (.seq (R (m 39 0<|B 40 .gtr 39 7<|.nil)<|.cond (t 40) (.skip) (.exit 0))<|.block 1 (.reg<|M 41 0<|B 42 .sub 41 12<|M 0 42<|.nil))))<|.seq (.block 2 (.loop [0] [0] (.seq (R (m 43 0<|B 44 .lss 43 (-7)<|.nil)<|.cond (t 44) (.skip) (.exit 2))<|.block 3 (.reg<|M 45 0<|B 46 .add 45 12<|M 0 46<|.nil))))<|R (M 47 0<|M 4 47<|o 5 .mov [c 0] []<|.nil)<|.ret,true⟩
def p70:PFn:=⟨7,[],R (O 3 (.box 142 1) 1<|.nil)<|.reg<|M 4 0<|O 5 (.mkfn (.func 112) 0) 3<|f 6 64 [t 4,t 5] [4,5,6]<|.nil,true⟩
def p71:PFn:=⟨9,[.tmp 2],R (o 2 .mov [cf] [2]<|.nil)<|R (o 3 .mov [t 0] [2]<|B 4 .eql 3 11<|M 5 4<|x 8 5 false (M 6 0<|B 7 .eql 6 20<|.nil) (t 7) [0,5]<|M 2 8<|.nil)<|.ret,true⟩
def p72:PFn:=⟨10,[.tmp 2],R (o 2 .mov [cf] [2]<|.nil)<|R (o 3 .mov [t 0] [2]<|B 4 .neq 3 0<|M 5 4<|x 9 5 true (M 6 0<|O 7 (.callF 71) 6<|O 8 (.un .not) 7<|.nil) (t 8) [0,5]<|M 2 9<|.nil)<|.ret,true⟩
def p73:PFn:=⟨63,[],R (m 12 0<|O 13 .nilc 12<|A 14 0 13<|A 15 3 14<|L 16 15<|o 17 (.len 0) [t 16] []<|o 18 .mov [c 0] []<|.nil)<|.block 0 (.loop [0,1,16,17,18] [] (R (b 19 .lss [t 18,t 17] []<|.nil)<|.seq (.cond (t 19) (.skip) (.exit 0))<|.seq (.block 1 (R (m 20 18<|o 21 (.iad 22) [t 16,t 18] []<|O 22 (.loadA 22) 21<|U 5 (.alloc 75 z3) []<|M 4 20<|.sto (.store 22) [t 5,t 22] [22]<|.nil)<|R (A 23 21 5<|L 24 23<|o 25 (.len 0) [t 24] []<|o 26 .mov [c 0] []<|.nil)<|.block 2 (.loop [0,1,4,16,17,18,24,25,26] [0,1,16,17,18] (R (b 27 .lss [t 26,t 25] []<|.nil)<|.seq (.cond (t 27) (.skip) (.exit 2))<|.seq (.block 3 (R (m 28 26<|o 29 (.iad 2) [t 24,t 26] []<|O 30 (.loadA 2) 29<|U 7 (.alloc 98 [ZN,ZN]) []<|M 6 28<|.sto (.store 2) [t 7,t 30] [30]<|.nil)<|R (A 31 1 7<|L 32 31<|o 33 (.len 0) [t 32] []<|o 34 .mov [c 0] []<|.nil)<|.block 4 (.loop [0,1,4,6,16,17,18,24,25,26,32,33,34] [0,1,4,16,17,18,24,25,26] (R (b 35 .lss [t 34,t 33] []<|.nil)<|.seq (.cond (t 35) (.skip) (.exit 4))<|.seq (.block 5 (R (m 36 34<|o 37 (.iad 2) [t 32,t 34] []<|O 38 (.loadA 2) 37<|U 9 (.alloc 92 [ZN,ZN]) []<|M 8 36<|.sto (.store 2) [t 9,t 38] [38]<|.nil)<|R (A 39 0 9<|L 40 39<|o 41 (.len 0) [t 40] []<|o 42 .mov [c 0] []<|.nil)<|.block 6 (.loop [0,1,4,6,8,16,17,18,24,25,26,32,33,34,40,41,42] [0,1,4,6,16,17,18,24,25,26,32,33,34] (R (b 43 .lss [t 42,t 41] []<|.nil)<|.seq (.cond (t 43) (.skip) (.exit 6))<|.seq (.block 7 (R (m 44 42<|o 45 (.iad 13) [t 40,t 42] []<|O 46 (.loadA 13) 45<|U 11 (.alloc 88 z10) []<|M 10 44<|.sto (.store 13) [t 11,t 46] [46]<|.nil)<|.regD 3 (m 47 0<|m 48 1<|m 49 6<|m 50 4<|m 51 8<|M 52 10<|o 53 (.build z7 [(0,1),(2,1),(3,1),(4,1),(5,1)]) [c 4,t 49,t 50,t 51,t 52] [49,50,51,52]<|o 54 (.loadA 13) [t 11] []<|U 55 .callV [48,53,54]<|A 56 0 11<|O 57 (.loadA 2) 56<|f 58 57 [t 47,t 55,t 57] [47,55,57,58]<|.nil) [0,0,0,0,0,0,60,0,254,0,512,2047]))<|.reg<|b 59 .add [t 42,c 1] [42,58]<|M 42 59<|.nil))))<|.reg<|B 60 .add 34 1<|M 34 60<|.nil))))<|.reg<|B 61 .add 26 1<|M 26 61<|.nil))))<|.reg<|B 62 .add 18 1<|M 18 62<|.nil)),true⟩
def p74:PFn:=⟨8,[.tmp 4],R (o 2 (.box 145 7) [t 0] [0,2]<|o 3 (.box 88 13) [t 1] [1,2]<|o 4 .mov [cf] [4]<|.nil)<|R (o 5 (.loadA 13) [t 3] [3,4]<|O 6 (.callF 75) 5<|B 7 .neq 6 0<|M 4 7<|.nil)<|.ret,true⟩
def p75:PFn:=⟨70,[.tmp 2],R (O 1 (.box 88 13) 0<|o 2 .mov [c 0] [2]<|.nil)<|.seq (.seq (.regD 3 (o 5 (.fad 0) [t 1] [2]<|A 6 0 5<|L 7 6<|f 8 121 [t 7,c 99] [7]<|a 9 0 1<|A 10 1 9<|L 11 10<|f 12 121 [t 11,c 1073741824] [11]<|U 13 (.buildSl 36 1 2 [(J 0)] [0,1]) [8,12]<|O 14 (.callF 120) 13<|M 3 14<|.nil) [0,1,3,7,0,16,48,127,255,511,1023])<|R (m 15 3<|B 16 .neq 15 0<|.nil)<|.cond (t 16) (R (M 17 3<|M 2 17<|.nil)<|.ret) (.skip))<|.seq (R (a 18 2 1<|L 19 18<|O 20 (.callF 122) 19<|O 21 (.un .not) 20<|.nil)<|.cond (t 21) (R (o 2 .mov [c 11] []<|.nil)<|.ret) (.skip))<|.seq (.seq (.regD 3 (o 22 (.loadA 13) [t 1] []<|o 23 (.loadA 13) [t 1] []<|O 24 (.callF 124) 23<|U 25 (.callF 123) [22,24]<|O 26 (.un .not) 25<|.nil) [0,0,2,7,15])<|.cond (t 26) (R (o 2 .mov [c 3] []<|.nil)<|.ret) (.skip))<|.seq (R (a 27 2 1<|L 28 27<|B 29 .neq 28 3<|M 30 29<|x 35 30 true (a 31 3 1<|O 32 (.loadA 2) 31<|O 33 (.callF 125) 32<|B 34 .neq 33 0<|.nil) (t 34) [30]<|.nil)<|.cond (t 35) (R (o 2 .mov [c 17] []<|.nil)<|.ret) (.skip))<|.seq (R (a 36 2 1<|L 37 36<|B 38 .eql 37 1<|.nil)<|.cond (t 38) (.seq (.regD 3 (a 39 5 1<|L 40 39<|O 41 (.callF 126) 40<|a 42 6 1<|L 43 42<|O 44 (.callF 127) 43<|a 45 10 1<|L 46 45<|O 47 (.callF 128) 46<|U 48 (.buildSl 36 1 3 [(J 0)] [0,1,2]) [41,44,47]<|O 49 (.callF 120) 48<|M 4 49<|.nil) [0,1,3,0,8,31,0,64,255,511,1023,2047])<|R (m 50 4<|B 51 .neq 50 0<|.nil)<|.cond (t 51) (R (M 52 4<|M 2 52<|.nil)<|.ret) (.skip)) (.skip))<|.seq (.regD 3 (a 53 7 1<|L 54 53<|f 55 121 [t 54,c 31] [54]<|a 56 8 1<|L 57 56<|f 58 121 [t 57,c 4] [57]<|a 59 9 1<|L 60 59<|f 61 121 [t 60,c 9] [60]<|a 62 11 1<|L 63 62<|f 64 121 [t 63,c 2] [63]<|A 65 12 1<|L 66 65<|f 67 121 [t 66,c 2] [66]<|U 68 (.buildSl 36 1 5 [(J 0)] [0,1,2,3,4]) [55,58,61,64,67]<|O 69 (.callF 120) 68<|M 2 69<|.nil) [0,1,3,0,8,31,0,64,255,0,512,2047,0,4096,16383,32767,65535,131071])<|.ret,true⟩
def p76:PFn:=⟨55,[.tmp 5],R (O 3 (.box 145 7) 0<|O 4 (.box 88 13) 1<|o 5 .mov [cf] [5]<|.nil)<|.seq (R (o 11 (.loadA 13) [t 4] [5]<|O 12 (.callF 75) 11<|B 13 .neq 12 0<|.nil)<|.cond (t 13) (R (o 5 .mov [cf] []<|.nil)<|.ret) (.skip))<|R (U 6 (.alloc 3 [(J 0)]) []<|.sto (.store 1) [t 6,c 0] []<|.nil)<|.seq (.seq (.regD 3 (o 15 .loadS [t 2] []<|O 16 .nilc 15<|A 17 0 16<|O 18 (.loadA 6) 17<|A 19 2 3<|L 20 19<|U 21 (.callF 22) [18,20]<|M 14 21<|e 22 0 14 []<|e 23 1 14 []<|O 24 (.ext 2) 14<|M 7 22<|o 8 .mov [t 23] [8,23]<|o 9 .mov [t 24] [8,24]<|.nil) [0,1,3,7,0,16,63,127,255,255,255,511,3071,8191])<|R (M 25 9<|B 26 .eql 25 0<|.nil)<|.condJ [2,4,6] (t 26) (.reg<|o 27 .loadS [t 2] []<|O 28 .nilc 27<|A 29 0 28<|A 30 2 29<|L 31 30<|M 32 7<|U 33 (.iad 6) [31,32]<|A 34 3 33<|A 35 1 34<|L 36 35<|.sto (.store 1) [t 6,t 36] [36]<|.nil) (.skip))<|.seq (R (L 37 2<|O 38 .nilc 37<|A 39 0 38<|A 40 1 39<|L 41 40<|.nil)<|.condJ [4,6] (t 41) (.reg<|o 42 .loadS [t 6] []<|O 43 (.un .neg) 42<|.sto (.store 1) [t 6,t 43] [43]<|.nil) (.skip))<|R (O 44 (.mkfn (.func 77) 0) 6<|U 10 (.alloc 148 [.nilFunc]) []<|.sto (.store 1) [t 10,t 44] [44]<|.nil)<|R (a 45 5 4<|L 46 45<|o 47 (.mkfn (.func 79) 0) [t 10] []<|U 48 (.callF 78) [46,47]<|M 49 48<|x 54 49 false (A 50 6 4<|L 51 50<|O 52 (.mkfn (.func 81) 0) 10<|U 53 (.callF 80) [51,52]<|.nil) (t 53) [4,10,49]<|M 5 54<|.nil)<|.ret,true⟩
def p77:PFn:=⟨16,[.tmp 3],R (O 2 (.box 79 3) 0<|o 3 .mov [cf] [3]<|.nil)<|R (o 7 (.loadA 3) [t 2] [2,3]<|O 8 (.callF 54) 7<|M 6 8<|e 9 0 6 []<|O 10 (.ext 1) 6<|M 4 9<|o 5 .mov [t 10] [5,10]<|.nil)<|R (o 11 .mov [t 4] [4,5]<|L 12 1<|C 13 .add 11 12<|f 14 59 [t 13,c 0,c 127] [13]<|O 15 (.un .not) 14<|M 3 15<|.nil)<|.ret,true⟩
def p78:PFn:=⟨9,[.tmp 4],R (o 4 .mov [cf] [4]<|.nil)<|R (o 5 .mov [t 0] [0,4]<|M 6 1<|U 7 (.callF 129) [5,6]<|B 8 .geq 7 0<|M 4 8<|.nil)<|.ret,true⟩
def p79:PFn:=⟨8,[.tmp 3],R (O 2 (.box 81 5) 0<|o 3 .mov [cf] [3]<|.nil)<|R (o 4 .loadS [t 1] [1,3]<|A 5 0 2<|O 6 (.loadA 3) 5<|U 7 .callV [4,6]<|M 3 7<|.nil)<|.ret,true⟩
def p80:PFn:=⟨9,[.tmp 4],R (o 4 .mov [cf] [4]<|.nil)<|R (o 5 .mov [t 0] [0,4]<|M 6 1<|U 7 (.callF 130) [5,6]<|B 8 .geq 7 0<|M 4 8<|.nil)<|.ret,true⟩
def p81:PFn:=⟨8,[.tmp 3],R (O 2 (.box 153 5) 0<|o 3 .mov [cf] [3]<|.nil)<|R (o 4 .loadS [t 1] [1,3]<|A 5 0 2<|O 6 (.loadA 3) 5<|U 7 .callV [4,6]<|M 3 7<|.nil)<|.ret,true⟩
def p82:PFn:=⟨39,[.tmp 5],R (O 3 (.box 145 7) 0<|O 4 (.box 88 13) 1<|o 5 .mov [cf] [5]<|.nil)<|.seq (R (o 10 (.loadA 13) [t 4] [5]<|O 11 (.callF 83) 10<|O 12 (.un .not) 11<|.nil)<|.cond (t 12) (R (o 5 .mov [cf] []<|.nil)<|.ret) (.skip))<|.seq (.regD 3 (o 14 .loadS [t 2] []<|O 15 .nilc 14<|A 16 0 15<|O 17 (.loadA 6) 16<|O 18 (.loadA 7) 3<|U 19 (.callF 84) [17,18]<|M 13 19<|e 20 0 13 []<|O 21 (.ext 1) 13<|U 6 (.alloc 145 z7) []<|.sto (.store 7) [t 6,t 20] [20]<|M 7 21<|.nil) [0,1,3,7,0,31,63,127,127,0,767,2047])<|.seq (.regD 3 (L 23 2<|O 24 .nilc 23<|A 25 0 24<|O 26 (.loadA 6) 25<|O 27 (.loadA 7) 6<|U 28 (.callF 85) [26,27]<|M 22 28<|e 29 0 22 []<|O 30 (.ext 1) 22<|U 8 (.alloc 88 z10) []<|.sto (.store 13) [t 8,t 29] [29]<|o 9 .mov [t 30] [9,30]<|.nil) [0,1,3,7,0,31,63,127,127,0,767,2047])<|R (o 31 .mov [t 7] [7,9]<|O 32 (.un .not) 31<|M 33 32<|x 38 33 false (O 34 (.loadA 13) 4<|O 35 (.loadA 13) 8<|U 36 (.callF 86) [34,35]<|O 37 (.un .not) 36<|.nil) (t 37) [4,8,33]<|M 5 38<|.nil)<|.ret,true⟩
def p83:PFn:=⟨11,[.tmp 2],R (O 1 (.box 88 13) 0<|o 2 .mov [cf] [2]<|.nil)<|R (o 3 (.fad 2) [t 1] [2]<|L 4 3<|B 5 .eql 4 1<|M 6 5<|x 10 6 true (A 7 5 1<|L 8 7<|f 9 78 [t 8,.c (.fn 131 [] [])] [8]<|.nil) (t 9) [1,6]<|M 2 10<|.nil)<|.ret,true⟩
def p84:PFn:=⟨54,[.cellA 4 7,.tmp 5],R (O 2 (.box 44 6) 0<|O 3 (.box 145 7) 1<|U 4 (.alloc 145 z7) []<|o 5 .mov [cf] [5]<|.nil)<|.seq (R (o 6 (.loadA 6) [t 2] [5]<|o 7 (.loadA 7) [t 3] []<|U 8 (.callF 132) [6,7]<|B 9 .neq 8 0<|.nil)<|.cond (t 9) (R (U 10 (.build z7 []) []<|.sto (.store 7) [t 4,t 10] [10]<|o 5 .mov [cf] []<|.nil)<|.ret) (.skip))<|.seq (.seq (.regD 3 (a 11 5 3<|L 12 11<|B 13 .add 12 1<|o 14 (.loadA 6) [t 2] []<|a 15 3 3<|L 16 15<|a 17 2 3<|L 18 17<|a 19 4 3<|L 20 19<|U 21 (.callF 133) [14,16,18,20]<|O 22 (.len 0) 21<|C 23 .lss 13 22<|.nil) [0,1,3,0,0,16,0,64,0,256,1016,2040,4095])<|.cond (t 23) (R (a 24 3 3<|L 25 24<|a 26 2 3<|L 27 26<|a 28 4 3<|L 29 28<|A 30 5 3<|L 31 30<|B 32 .add 31 1<|U 33 (.callF 134) [25,27,29,32]<|.sto (.store 7) [t 4,t 33] [33]<|o 5 .mov [ct] []<|.nil)<|.ret) (.skip))<|.seq (R (O 34 (.loadA 6) 2<|a 35 3 3<|L 36 35<|B 37 .add 36 1<|a 38 2 3<|L 39 38<|a 40 4 3<|L 41 40<|U 42 (.callF 133) [34,37,39,41]<|O 43 (.len 0) 42<|B 44 .gtr 43 0<|.nil)<|.cond (t 44) (R (a 45 3 3<|L 46 45<|B 47 .add 46 1<|a 48 2 3<|L 49 48<|A 50 4 3<|L 51 50<|f 52 134 [t 47,t 49,t 51,c 0] [47,49,51]<|.sto (.store 7) [t 4,t 52] [52]<|o 5 .mov [ct] []<|.nil)<|.ret) (.skip))<|R (U 53 (.build z7 []) []<|.sto (.store 7) [t 4,t 53] [53]<|o 5 .mov [cf] []<|.nil)<|.ret,true⟩
def p85:PFn:=⟨27,[.cellA 4 13,.tmp 5],R (O 2 (.box 44 6) 0<|O 3 (.box 145 7) 1<|U 4 (.alloc 88 z10) []<|o 5 .mov [c 0] [5]<|.nil)<|.seq (R (o 7 (.loadA 6) [t 2] [5]<|o 8 (.loadA 7) [t 3] []<|U 9 (.callF 132) [7,8]<|M 6 9<|.nil)<|R (m 10 6<|B 11 .neq 10 0<|.nil)<|.cond (t 11) (R (U 12 (.build z10 []) []<|M 13 6<|.sto (.store 13) [t 4,t 12] [12]<|.laxc 4 5 5<|.laxc 4 6 5<|.laxc 4 10 2<|M 5 13<|.nil)<|.ret) (.skip))<|.seq (.regD 3 (O 14 (.loadA 6) 2<|a 15 3 3<|L 16 15<|a 17 2 3<|L 18 17<|a 19 4 3<|L 20 19<|U 21 (.callF 133) [14,16,18,20]<|A 22 5 3<|L 23 22<|U 24 (.iad 13) [21,23]<|O 25 (.loadA 13) 24<|O 26 (.callF 135) 25<|.sto (.store 13) [t 4,t 26] [26]<|o 5 .mov [c 0] []<|.nil) [0,0,2,0,8,0,32,127,0,256,1023,2047,4095,8191,16383])<|.ret,true⟩
def p86:PFn:=⟨32,[.tmp 4],R (O 2 (.box 88 13) 0<|O 3 (.box 88 13) 1<|o 4 .mov [cf] [4]<|.nil)<|.seq (R (o 7 (.fad 2) [t 2] [4]<|L 8 7<|B 9 .neq 8 1<|.nil)<|.cond (t 9) (R (o 4 .mov [ct] []<|.nil)<|.ret) (.skip))<|.seq (R (A 10 5 2<|L 11 10<|o 12 (.len 0) [t 11] []<|o 13 .mov [c 0] []<|.nil)<|.block 0 (.loop [3,11,12,13] [4] (R (b 14 .lss [t 13,t 12] []<|.nil)<|.seq (.cond (t 14) (.skip) (.exit 0))<|.seq (.block 1 (R (o 15 (.iad 5) [t 11,t 13] []<|O 16 (.loadA 5) 15<|U 6 (.alloc 81 z11) []<|.sto (.store 5) [t 6,t 16] [16]<|.nil)<|R (a 17 3 6<|L 18 17<|M 19 18<|x 30 19 true (a 20 2 3<|L 21 20<|B 22 .eql 21 1<|M 23 22<|x 28 23 true (a 24 5 3<|L 25 24<|O 26 (.mkfn (.func 136) 0) 6<|U 27 (.callF 78) [25,26]<|.nil) (t 27) [6,23]<|O 29 (.un .not) 28<|.nil) (t 29) [6,19]<|.nil)<|.cond (t 30) (R (o 4 .mov [cf] []<|.nil)<|.ret) (.skip)))<|.reg<|B 31 .add 13 1<|M 13 31<|.nil)))<|R (o 4 .mov [ct] []<|.nil)<|.ret,true⟩
def p87:PFn:=⟨108,[],R (U 10 (.alloc 219 [ZS,(J 0)]) []<|.nil)<|R (U 11 (.alloc 145 z7) []<|.nil)<|.seq (R (M 18 0<|O 19 .nilc 18<|A 20 0 19<|A 21 3 20<|L 22 21<|o 23 (.len 0) [t 22] []<|o 24 .mov [c 0] []<|.nil)<|.block 0 (.loop [1,2,3,4,10,11,22,23,24] [4,10,11] (R (b 25 .lss [t 24,t 23] []<|.nil)<|.seq (.cond (t 25) (.skip) (.exit 0))<|.seq (.block 1 (R (m 26 24<|o 27 (.iad 22) [t 22,t 24] []<|O 28 (.loadA 22) 27<|U 13 (.alloc 75 z3) []<|M 12 26<|.sto (.store 22) [t 13,t 28] [28]<|.nil)<|.seq (R (m 29 1<|a 30 21 13<|L 31 30<|O 32 (.len 0) 31<|C 33 .geq 29 32<|M 34 33<|x 44 34 false (m 35 2<|a 36 21 13<|L 37 36<|m 38 1<|U 39 (.iad 2) [37,38]<|A 40 1 39<|L 41 40<|O 42 (.len 0) 41<|C 43 .geq 35 42<|.nil) (t 43) [34]<|.nil)<|.cond (t 44) (.exit 1) (.skip))<|R (A 45 21 13<|L 46 45<|m 47 1<|U 48 (.iad 2) [46,47]<|A 49 1 48<|L 50 49<|m 51 2<|U 52 (.iad 2) [50,51]<|A 53 0 52<|L 54 53<|o 55 (.len 0) [t 54] []<|o 56 .mov [c 0] []<|.nil)<|.block 2 (.loop [1,2,3,4,10,11,12,22,23,24,54,55,56] [1,2,3,4,10,11,22,23,24] (R (b 57 .lss [t 56,t 55] []<|.nil)<|.seq (.cond (t 57) (.skip) (.exit 2))<|.seq (.block 3 (R (m 58 56<|o 59 (.iad 13) [t 54,t 56] []<|O 60 (.loadA 13) 59<|U 15 (.alloc 88 z10) []<|M 14 58<|.sto (.store 13) [t 15,t 60] [60]<|.nil)<|.seq (R (o 61 (.loadA 13) [t 15] []<|m 62 3<|U 63 (.callF 137) [61,62]<|.nil)<|.cond (t 63) (.exit 3) (.skip))<|.seq (.regX 3 (m 64 1<|m 65 12<|m 66 2<|M 67 14<|o 68 (.build z7 [(0,1),(2,1),(3,1),(4,1),(5,1)]) [c 4,t 64,t 65,t 66,t 67] [64,65,66,67]<|A 69 10 15<|o 70 .loadS [t 69] []<|m 71 3<|U 72 (.iad 2) [70,71]<|o 73 (.loadA 2) [t 72] []<|U 16 (.alloc 145 z7) []<|U 17 (.alloc 219 [ZS,(J 0)]) []<|.sto (.store 7) [t 16,t 68] [68]<|.sto (.store 2) [t 17,t 73] [73]<|.nil) [0,0,0,0,15,0,32,0,224,480,0,0,3103,8191] [(6,12,69,16),(9,12,72,16)])<|.seq (R (a 74 1 10<|L 75 74<|B 76 .eql 75 1<|M 77 76<|x 81 77 true (a 78 0 17<|L 79 78<|b 80 .eql [t 79,.c (.v (.string ⟨#[]⟩))] [79]<|.nil) (t 80) [77]<|.nil)<|.condJ [1,2,3,4,10,11,12,16,17,22,23,24,54,55,56] (t 81) (.reg<|m 82 4<|o 83 (.loadA 7) [t 11] []<|.sto (.mapup true [.i,.i,.i,.i,.i,.i,.i]) [t 82,t 83,ct] [82,83]<|.nil) (.skip))<|.seq (R (a 84 0 17<|L 85 84<|b 86 .eql [t 85,.c (.v (.string ⟨#[]⟩))] [85]<|M 87 86<|x 91 87 true (a 88 1 17<|L 89 88<|B 90 .eql 89 2<|.nil) (t 90) [87]<|M 92 91<|x 96 92 true (a 93 1 10<|L 94 93<|B 95 .neq 94 2<|.nil) (t 95) [92]<|.nil)<|.condJ [1,2,3,4,10,11,12,16,17,22,23,24,54,55,56] (t 96) (.reg<|m 97 4<|o 98 (.loadA 7) [t 16] []<|.sto (.mapup true [.i,.i,.i,.i,.i,.i,.i]) [t 97,t 98,ct] [97,98]<|.nil) (.skip))<|.regX 3 (O 99 (.loadA 2) 17<|o 100 (.loadA 7) [t 16] []<|.sto (.store 2) [t 10,t 99] [99]<|.sto (.store 7) [t 11,t 100] [100]<|.nil) [0,0,1,7] [(1,2,16,10)]))<|.reg<|B 101 .add 56 1<|M 56 101<|.nil))))<|.reg<|B 102 .add 24 1<|M 24 102<|.nil)))<|R (A 103 1 10<|L 104 103<|B 105 .eql 104 1<|.nil)<|.condJ [] (t 105) (.reg<|M 106 4<|O 107 (.loadA 7) 11<|.sto (.mapup true [.i,.i,.i,.i,.i,.i,.i]) [t 106,t 107,ct] [106,107]<|.nil) (.skip),true⟩
def p88:PFn:=⟨9,[.tmp 5],R (O 3 (.box 145 7) 0<|o 4 (.box 88 13) [t 1] [1,4]<|o 5 .mov [cf] [4,5]<|.nil)<|R (o 6 .loadS [t 2] [2,5]<|O 7 (.loadA 7) 3<|U 8 (.lookup true [.i,.i,.i,.i,.i,.i,.i] (.v (.bool false)) false) [6,7]<|M 5 8<|.nil)<|.ret,true⟩
def p89:PFn:=⟨63,[.tmp 2,.tmp 3],R (o 2 .mov [cn] [2]<|o 3 .mov [cn] [2,3]<|.nil)<|R (o 4 .mov [cn] [3]<|.own 4 173 9 false<|.nil)<|R (o 5 .mov [cn] []<|.own 5 4 1 false<|.nil)<|.seq (R (m 13 0<|O 14 .nilc 13<|A 15 0 14<|A 16 4 15<|L 17 16<|o 18 (.len 0) [t 17] []<|o 19 .mov [c 0] []<|.nil)<|.block 0 (.loop [0,4,5,17,18,19] [4,5] (R (b 20 .lss [t 19,t 18] []<|.nil)<|.seq (.cond (t 20) (.skip) (.exit 0))<|.seq (.block 1 (R (o 21 (.iad 7) [t 17,t 19] []<|O 22 (.loadA 7) 21<|U 7 (.alloc 168 z7) []<|.sto (.store 7) [t 7,t 22] [22]<|.nil)<|R (m 24 0<|a 25 3 7<|O 26 (.loadA 2) 25<|U 27 (.callF 138) [24,26]<|M 23 27<|e 28 0 23 []<|O 29 (.ext 1) 23<|U 8 (.alloc 171 z12) []<|.sto (.store 4) [t 8,t 28] [28]<|M 9 29<|.nil)<|R (m 31 0<|a 32 5 7<|O 33 (.loadA 2) 32<|U 34 (.callF 138) [31,33]<|M 30 34<|e 35 0 30 []<|O 36 (.ext 1) 30<|U 10 (.alloc 171 z12) []<|.sto (.store 4) [t 10,t 35] [35]<|M 11 36<|.nil)<|R (A 37 2 7<|L 38 37<|O 39 (.loadA 4) 8<|O 40 (.loadA 4) 10<|U 41 (.build z0 [(0,1),(1,4),(5,4)]) [38,39,40]<|U 12 (.alloc 173 z0) []<|.sto (.store 9) [t 12,t 41] [41]<|.nil)<|.reg<|M 42 4<|o 43 (.loadA 9) [t 12] []<|O 44 (.buildSl 173 9 1 z0 [0]) 43<|U 45 (.append 173 9 72 z0 false) [42,44]<|M 46 5<|M 47 9<|O 48 (.un .not) 47<|M 49 48<|x 52 49 false (M 50 11<|O 51 (.un .not) 50<|.nil) (t 51) [11,49]<|M 53 52<|x 57 53 false (O 54 (.loadA 9) 12<|O 55 (.callF 139) 54<|B 56 .neq 55 0<|.nil) (t 56) [12,53]<|O 58 (.buildSl 4 1 1 [ZB] [0]) 57<|U 59 (.append 4 1 1 [ZB] false) [46,58]<|M 4 45<|M 5 59<|.nil))<|.reg<|B 60 .add 19 1<|M 19 60<|.nil)))<|R (M 61 4<|M 62 5<|M 2 61<|M 3 62<|.nil)<|.ret,true⟩
def p90:PFn:=⟨27,[.tmp 4],R (O 2 (.box 173 9) 0<|O 3 (.box 173 9) 1<|o 4 .mov [cf] [4]<|.nil)<|.seq (R (o 8 (.loadA 9) [t 2] [4]<|o 9 (.loadA 9) [t 3] []<|U 10 (.callF 140) [8,9]<|O 11 (.un .not) 10<|.nil)<|.cond (t 11) (R (o 4 .mov [cf] []<|.nil)<|.ret) (.skip))<|R (o 5 .mov [.c (.fn 141 [] [])] []<|.nil)<|R (o 6 .mov [.c (.fn 143 [] [])] []<|.nil)<|R (m 12 5<|m 13 5<|m 14 6<|m 15 6<|M 16 5<|M 17 6<|o 18 (.build z13 [(0,1),(1,1),(2,1),(3,1),(4,1),(5,1),(6,1)]) [.c (.fn 145 [] []),t 12,t 13,t 14,t 15,t 16,t 17] [12,13,14,15,16,17]<|U 7 (.alloc 224 z13) []<|.sto (.store 7) [t 7,t 18] [18]<|.nil)<|.seq (.regD 3 (a 19 0 2<|L 20 19<|B 21 .sub 20 1<|U 22 (.iadA 7 1) [7,21]<|L 23 22<|O 24 (.loadA 9) 2<|O 25 (.loadA 9) 3<|U 26 .callV [23,24,25]<|M 4 26<|.nil) [0,1,3,7,15,0,0,127,255])<|.ret,true⟩
def p91:PFn:=⟨20,[.tmp 4],R (O 3 (.box 75 22) 1<|o 4 .mov [cf] [4]<|.nil)<|R (o 5 (.fad 13) [t 3] [4]<|L 6 5<|B 7 .neq 6 0<|M 8 7<|x 13 8 true (a 9 13 3<|L 10 9<|f 11 59 [t 10,c 2,c 8] [10]<|O 12 (.un .not) 11<|.nil) (t 12) [8]<|M 14 13<|x 19 14 false (A 15 14 3<|L 16 15<|f 17 59 [t 16,c 0,c 255] [16]<|O 18 (.un .not) 17<|.nil) (t 18) [3,14]<|M 4 19<|.nil)<|.ret,true⟩
def p92:PFn:=⟨37,[.cellA 4 6,.tmp 5],R (O 2 (.box 175 6) 0<|O 3 (.box 75 22) 1<|U 4 (.alloc 175 z8) []<|o 5 .mov [cf] [5]<|.nil)<|.seq (R (o 6 (.fad 14) [t 3] [5]<|L 7 6<|B 8 .neq 7 0<|.nil)<|.cond (t 8) (R (O 9 (.loadA 6) 2<|O 10 (.loadA 22) 3<|U 11 (.callF 146) [9,10]<|e 12 0 11 []<|O 13 (.ext 1) 11<|.sto (.store 6) [t 4,t 12] [12]<|M 5 13<|.nil)<|.ret) (.skip))<|.seq (R (a 14 3 2<|L 15 14<|B 16 .neq 15 0<|.nil)<|.cond (t 16) (.seq (R (o 17 (.loadA 6) [t 2] []<|O 18 (.callF 93) 17<|O 19 (.un .not) 18<|.nil)<|.cond (t 19) (R (O 20 (.loadA 6) 2<|.sto (.store 6) [t 4,t 20] [20]<|o 5 .mov [cf] []<|.nil)<|.ret) (.skip))<|.reg<|U 21 (.build z8 []) []<|.sto (.store 6) [t 2,t 21] [21]<|.nil) (.skip))<|.seq (R (a 22 12 3<|L 23 22<|.nil)<|.cond (t 23) (.seq (R (a 24 0 2<|L 25 24<|.nil)<|.cond (t 25) (R (O 26 (.loadA 6) 2<|.sto (.store 6) [t 4,t 26] [26]<|o 5 .mov [cf] []<|.nil)<|.ret) (.skip))<|.reg<|o 27 (.build z8 [(0,1)]) [ct] []<|.sto (.store 6) [t 2,t 27] [27]<|.nil) (.skip))<|R (a 28 1 2<|L 29 28<|B 30 .add 29 1<|a 31 1 2<|.sto (.store 1) [t 31,t 30] [30,31]<|.nil)<|.seq (R (A 32 13 3<|L 33 32<|B 34 .neq 33 0<|.nil)<|.condJ [2,4] (t 34) (.reg<|U 35 (.build z8 []) []<|.sto (.store 6) [t 2,t 35] [35]<|.nil) (.skip))<|R (O 36 (.loadA 6) 2<|.sto (.store 6) [t 4,t 36] [36]<|o 5 .mov [ct] []<|.nil)<|.ret,true⟩
def p93:PFn:=⟨15,[.tmp 2],R (O 1 (.box 175 6) 0<|o 2 .mov [cf] [2]<|.nil)<|.seq (.regD 3 (o 3 (.fad 5) [t 1] [2]<|L 4 3<|B 5 .gtr 4 0<|M 6 5<|x 14 6 true (a 7 3 1<|L 8 7<|A 9 5 1<|L 10 9<|B 11 .sub 10 1<|b 12 .shl [c 1,t 11] [11]<|C 13 .eql 8 12<|.nil) (t 13) [1,6]<|M 2 14<|.nil) [0,1,3,7,15,31,15,79,207,463,1023,2047,4095])<|.ret,true⟩
def p94:PFn:=⟨55,[.tmp 5],R (O 4 (.box 75 22) 1<|o 5 .mov [cf] [5]<|.nil)<|.seq (R (o 7 (.fad 15) [t 4] [5]<|L 8 7<|f 9 59 [t 8,c 0,c 6] [8]<|O 10 (.un .not) 9<|M 11 10<|x 16 11 false (a 12 16 4<|L 13 12<|f 14 59 [t 13,c 0,c 15] [13]<|O 15 (.un .not) 14<|.nil) (t 15) [11]<|M 17 16<|x 36 17 false (a 18 15 4<|L 19 18<|B 20 .neq 19 0<|M 21 20<|x 25 21 false (a 22 16 4<|L 23 22<|B 24 .neq 23 0<|.nil) (t 24) [21]<|M 26 25<|x 35 26 true (a 27 13 4<|L 28 27<|B 29 .neq 28 0<|M 30 29<|x 34 30 false (a 31 14 4<|L 32 31<|B 33 .neq 32 0<|.nil) (t 33) [30]<|.nil) (t 34) [26]<|.nil) (t 35) [17]<|.nil)<|.cond (t 36) (R (o 5 .mov [ct] []<|.nil)<|.ret) (.skip))<|R (o 37 (.mkfn (.func 95) 0) [t 4] []<|M 6 37<|.nil)<|R (o 38 .loadS [t 2] []<|O 39 .nilc 38<|A 40 0 39<|A 41 3 40<|L 42 41<|m 43 0<|U 44 (.slc 22 false true false) [42,43]<|M 45 6<|U 46 (.callF 96) [44,45]<|M 47 46<|x 54 47 false (L 48 2<|A 49 15 4<|L 50 49<|M 51 0<|U 52 (.callF 97) [48,50,51]<|O 53 (.un .not) 52<|.nil) (t 53) [0,2,4,47]<|M 5 54<|.nil)<|.ret,true⟩
def p95:PFn:=⟨20,[.tmp 3],R (O 2 (.box 75 22) 0<|o 3 .mov [cf] [3]<|.nil)<|R (o 4 (.fad 15) [t 1] [3]<|L 5 4<|B 6 .neq 5 0<|M 7 6<|x 11 7 true (a 8 15 2<|L 9 8<|B 10 .neq 9 0<|.nil) (t 10) [7]<|M 12 11<|x 19 12 false (A 13 16 1<|L 14 13<|A 15 16 2<|L 16 15<|C 17 .and 14 16<|B 18 .neq 17 0<|.nil) (t 18) [1,2,12]<|M 3 19<|.nil)<|.ret,true⟩
def p96:PFn:=⟨9,[.tmp 4],R (o 4 .mov [cf] [4]<|.nil)<|R (o 5 .mov [t 0] [0,4]<|M 6 1<|U 7 (.callF 147) [5,6]<|B 8 .geq 7 0<|M 4 8<|.nil)<|.ret,true⟩
def p97:PFn:=⟨34,[.tmp 6],R (O 3 (.box 114 1) 0<|O 5 (.box 3 1) 2<|o 6 .mov [cf] [6]<|.nil)<|R (o 8 (.mkfn (.func 148) 0) [t 3,t 5] [5,6]<|M 7 8<|.nil)<|.seq (R (m 9 1<|B 10 .geq 9 4<|M 11 10<|x 15 11 true (m 12 7<|o 13 .callV [t 12,c 1] [12]<|O 14 (.un .not) 13<|.nil) (t 14) [11]<|.nil)<|.cond (t 15) (R (o 6 .mov [cf] []<|.nil)<|.ret) (.skip))<|.seq (R (M 16 1<|.nil)<|.block 0 (.seq (R (b 18 .eql [t 16,c 2] []<|M 17 18<|.nil)<|.condJ [3,7,16,17] (t 17) (.skip) (.reg<|b 19 .eql [t 16,c 5] []<|M 17 19<|.nil))<|.cond (t 17) (R (M 20 7<|o 21 .callV [t 20,c 4] [20]<|M 6 21<|.nil)<|.ret) (.seq (R (b 23 .eql [t 16,c 3] []<|M 22 23<|.nil)<|.condJ [3,7,22] (t 22) (.skip) (.reg<|B 24 .eql 16 6<|M 22 24<|.nil))<|.cond (t 22) (.seq (.regD 3 (M 25 7<|o 26 .callV [t 25,c 8] [25]<|M 27 26<|x 33 27 true (o 28 .loadS [t 3] []<|f 29 149 [t 28,c 2] [28]<|L 30 3<|f 31 149 [t 30,c 8] [30]<|C 32 .gtr 29 31<|.nil) (t 32) [3,27]<|M 6 33<|.nil) [0,1,3,7,15,7,63,127,255,511])<|.ret) (.skip))))<|R (o 6 .mov [ct] []<|.nil)<|.ret,true⟩
def p98:PFn:=⟨71,[.tmp 4],R (O 3 (.box 75 22) 1<|o 4 .mov [cf] [4]<|.nil)<|R (o 11 (.loadA 22) [t 3] [4]<|O 12 (.callF 29) 11<|M 10 12<|e 13 0 10 []<|O 14 (.ext 1) 10<|M 5 13<|o 6 .mov [t 14] [6,14]<|.nil)<|R (o 15 (.fad 17) [t 3] [6]<|L 16 15<|B 17 .neq 16 0<|M 18 17<|x 23 18 true (a 19 17 3<|L 20 19<|f 21 59 [t 20,c 50,c 75] [20]<|O 22 (.un .not) 21<|.nil) (t 22) [18]<|M 24 23<|x 29 24 false (a 25 18 3<|L 26 25<|f 27 59 [t 26,c 0,c 3] [26]<|O 28 (.un .not) 27<|.nil) (t 28) [24]<|M 7 29<|.nil)<|.seq (R (a 30 20 3<|L 31 30<|o 32 (.len 0) [t 31] []<|o 33 .mov [c 0] []<|.nil)<|.block 0 (.loop [3,5,7,31,32,33] [7] (R (b 34 .lss [t 33,t 32] []<|.nil)<|.seq (.cond (t 34) (.skip) (.exit 0))<|.seq (.block 1 (R (m 35 33<|o 36 (.iad 3) [t 31,t 33] []<|O 37 (.loadA 3) 36<|U 9 (.alloc 182 z14) []<|M 8 35<|.sto (.store 3) [t 9,t 37] [37]<|.nil)<|.regD 3 (M 38 7<|M 39 38<|x 46 39 false (a 40 0 9<|L 41 40<|m 42 5<|B 43 .sub 42 1<|f 44 59 [t 41,c 0,t 43] [41,43]<|O 45 (.un .not) 44<|.nil) (t 45) [39]<|M 47 46<|x 52 47 false (a 48 1 9<|L 49 48<|f 50 59 [t 49,c 1,c 60000000] [49]<|O 51 (.un .not) 50<|.nil) (t 51) [47]<|M 53 52<|x 68 53 false (m 54 8<|B 55 .gtr 54 0<|M 56 55<|x 67 56 true (A 57 0 9<|L 58 57<|a 59 20 3<|L 60 59<|M 61 8<|B 62 .sub 61 1<|U 63 (.iad 3) [60,62]<|A 64 0 63<|L 65 64<|C 66 .leq 58 65<|.nil) (t 66) [8,9,56]<|.nil) (t 67) [8,9,53]<|M 7 68<|.nil) [0,1,3,7,3,19,63,127,255,511,1023,2047,4095,8191,16383,32767,65535,131071,262143,524287,1048575,524287,2621439,524287,8912895,31981567,65535999,132644863,268435455,536870911,1073741823,2147483647]))<|.reg<|B 69 .add 33 1<|M 33 69<|.nil)))<|R (M 70 7<|M 4 70<|.nil)<|.ret,true⟩
def p99:PFn:=⟨82,[.tmp 5],R (O 3 (.box 145 7) 0<|O 4 (.box 88 13) 1<|o 5 .mov [cf] [5]<|.nil)<|.seq (.regD 3 (o 11 .loadS [t 2] [5]<|O 12 .nilc 11<|A 13 0 12<|O 14 (.loadA 6) 13<|o 15 (.loadA 7) [t 3] []<|U 16 (.callF 84) [14,15]<|M 10 16<|e 17 0 10 []<|O 18 (.ext 1) 10<|U 6 (.alloc 145 z7) []<|.sto (.store 7) [t 6,t 17] [17]<|M 7 18<|.nil) [0,1,3,7,0,31,63,127,127,0,767,2047])<|.seq (R (M 19 7<|O 20 (.un .not) 19<|M 21 20<|x 25 21 false (O 22 (.loadA 13) 4<|O 23 (.callF 83) 22<|O 24 (.un .not) 23<|.nil) (t 24) [4,21]<|M 26 25<|x 32 26 false (a 27 3 6<|L 28 27<|a 29 3 3<|L 30 29<|C 31 .eql 28 30<|.nil) (t 31) [26]<|.nil)<|.cond (t 32) (R (o 5 .mov [cf] []<|.nil)<|.ret) (.skip))<|.seq (.regX 3 (o 33 .loadS [t 2] []<|O 34 .nilc 33<|A 35 0 34<|A 36 3 35<|L 37 36<|A 38 3 3<|L 39 38<|U 40 (.iad 22) [37,39]<|O 41 (.loadA 22) 40<|o 42 .loadS [t 2] []<|O 43 .nilc 42<|A 44 0 43<|A 45 3 44<|o 46 .loadS [t 45] []<|A 47 3 6<|o 48 .loadS [t 47] []<|U 49 (.iad 22) [46,48]<|o 50 (.loadA 22) [t 49] []<|U 8 (.alloc 75 z3) []<|U 9 (.alloc 75 z3) []<|.sto (.store 22) [t 8,t 41] [41]<|.sto (.store 22) [t 9,t 50] [50]<|.nil) [0,1,3,7,15,0,32,127,255,0,512,1536,3584,7680,0,16384,65024,130560,0,0,786943,2097151] [(9,20,2,8),(13,20,45,8),(15,20,47,8),(17,20,49,8)])<|R (a 51 13 8<|L 52 51<|B 53 .neq 52 0<|M 54 53<|x 58 54 false (a 55 15 8<|L 56 55<|B 57 .neq 56 0<|.nil) (t 57) [54]<|M 59 58<|x 64 59 false (a 60 16 8<|L 61 60<|B 62 .and 61 12<|B 63 .neq 62 0<|.nil) (t 63) [59]<|M 65 64<|x 71 65 false (A 66 14 8<|L 67 66<|a 68 14 9<|L 69 68<|C 70 .neq 67 69<|.nil) (t 70) [8,65]<|M 72 71<|x 75 72 false (a 73 12 9<|L 74 73<|.nil) (t 74) [72]<|M 76 75<|x 81 76 false (A 77 16 9<|L 78 77<|B 79 .and 78 3<|B 80 .neq 79 0<|.nil) (t 80) [9,76]<|M 5 81<|.nil)<|.ret,true⟩
def p100:PFn:=⟨34,[.tmp 2],R (O 1 (.box 71 8) 0<|o 2 .mov [c 0] [2]<|.nil)<|.seq (.block 0 (R (o 4 (.fad 0) [t 1] [2]<|L 5 4<|B 6 .lss 5 1<|M 7 6<|x 11 7 false (a 8 0 1<|L 9 8<|B 10 .gtr 9 64<|.nil) (t 10) [7]<|M 3 11<|.nil)<|.cond (t 3) (R (o 2 .mov [c 2] []<|.nil)<|.ret) (R (a 13 1 1<|L 14 13<|B 15 .lss 14 1<|M 16 15<|x 20 16 false (a 17 1 1<|L 18 17<|B 19 .gtr 18 64<|.nil) (t 19) [16]<|M 21 20<|x 29 21 false (a 22 1 1<|L 23 22<|a 24 1 1<|L 25 24<|B 26 .sub 25 1<|C 27 .and 23 26<|B 28 .neq 27 0<|.nil) (t 28) [21]<|M 12 29<|.nil)<|.cond (t 12) (R (o 2 .mov [c 17] []<|.nil)<|.ret) (R (O 31 (.loadA 8) 1<|O 32 (.callF 150) 31<|O 33 (.un .not) 32<|M 30 33<|.nil)<|.cond (t 30) (R (o 2 .mov [c 19] []<|.nil)<|.ret) (.skip)))))<|R (o 2 .mov [c 0] []<|.nil)<|.ret,true⟩
def p101:PFn:=⟨8,[.tmp 2],R (O 1 (.box 71 8) 0<|o 2 .mov [c 0] [2]<|.nil)<|.seq (.regD 3 (o 3 (.fad 0) [t 1] [2]<|L 4 3<|O 5 (.loadA 8) 1<|O 6 (.callF 151) 5<|C 7 .mul 4 6<|M 2 7<|.nil) [0,1,0,4,15,31])<|.ret,true⟩
def p102:PFn:=⟨31,[.tmp 4,.tmp 5],R (O 2 (.box 92 2) 0<|o 4 .mov [cn] [4]<|o 5 .mov [c 0] [4,5]<|.nil)<|R (o 9 (.loadA 2) [t 2] [2,5]<|m 10 1<|U 11 (.callF 152) [9,10]<|M 8 11<|e 12 0 8 []<|O 13 (.ext 1) 8<|M 6 12<|M 7 13<|.nil)<|.seq (R (m 14 7<|B 15 .eql 14 0<|M 16 15<|x 20 16 true (m 17 6<|O 18 (.len 0) 17<|B 19 .gtr 18 0<|.nil) (t 19) [16]<|M 21 20<|x 26 21 true (m 22 6<|O 23 (.callF 153) 22<|M 24 1<|C 25 .neq 23 24<|.nil) (t 25) [1,21]<|.nil)<|.condJ [6,7] (t 26) (.reg<|o 7 .mov [c 20] []<|.nil) (.skip))<|.seq (R (m 27 7<|B 28 .neq 27 0<|.nil)<|.cond (t 28) (R (M 29 7<|o 4 .mov [cn] []<|.lax 4 [some 1]<|M 5 29<|.nil)<|.ret) (.skip))<|R (M 30 6<|M 4 30<|o 5 .mov [c 0] []<|.nil)<|.ret,true⟩
def p103:PFn:=⟨29,[.tmp 2],R (o 2 .mov [cn] [2]<|.nil)<|R (o 5 .mov [t 0] [2]<|O 6 (.len 0) 5<|o 7 (.mksl 3 1 8 [(.int .i64 0)]) [t 6,t 6] [6]<|M 3 7<|.nil)<|.seq (R (o 4 .mov [c 1] []<|.nil)<|.block 0 (.loop [0,3,4] [3] (.seq (R (m 8 4<|m 9 0<|O 10 (.len 0) 9<|C 11 .lss 8 10<|.nil)<|.cond (t 11) (.skip) (.exit 0))<|.seq (.block 1 (.regD 3 (m 14 3<|m 15 4<|m 16 3<|m 17 4<|B 18 .sub 17 1<|U 19 (.iad 1) [16,18]<|L 20 19<|m 21 0<|m 22 4<|B 23 .sub 22 1<|U 24 (.iad 1) [21,23]<|L 25 24<|C 26 .add 20 25<|U 27 (.iad 1) [14,15]<|.sto (.store 1) [t 27,t 26] [26,27]<|.nil) [0,0,0,0,8,28,60,0,0,256,896,1920,4092,8191,16383]))<|.reg<|M 12 4<|B 13 .add 12 1<|M 4 13<|.nil)))<|R (M 28 3<|M 2 28<|.nil)<|.ret,true⟩
def p104:PFn:=⟨40,[.tmp 2],R (O 1 (.box 79 3) 0<|o 2 .mov [c 0] [2]<|.nil)<|.seq (R (o 4 (.fad 0) [t 1] [2]<|L 5 4<|B 6 .lss 5 0<|M 7 6<|x 11 7 false (a 8 0 1<|L 9 8<|B 10 .gtr 9 6<|.nil) (t 10) [7]<|M 12 11<|x 16 12 false (a 13 1 1<|L 14 13<|B 15 .lss 14 (-2)<|.nil) (t 15) [12]<|M 17 16<|x 21 17 false (a 18 1 1<|L 19 18<|B 20 .gtr 19 2<|.nil) (t 20) [17]<|M 22 21<|x 26 22 false (a 23 2 1<|L 24 23<|B 25 .lss 24 (-1)<|.nil) (t 25) [22]<|M 27 26<|x 31 27 false (a 28 2 1<|L 29 28<|B 30 .gtr 29 9<|.nil) (t 30) [27]<|.nil)<|.cond (t 31) (R (o 2 .mov [c 18] []<|.nil)<|.ret) (.skip))<|.seq (R (O 32 (.loadA 3) 1<|O 33 (.callF 105) 32<|M 3 33<|.nil)<|R (m 34 3<|B 35 .lss 34 0<|M 36 35<|x 39 36 false (M 37 3<|B 38 .gtr 37 127<|.nil) (t 38) [3,36]<|.nil)<|.cond (t 39) (R (o 2 .mov [c 18] []<|.nil)<|.ret) (.skip))<|R (o 2 .mov [c 0] []<|.nil)<|.ret,true⟩
def p105:PFn:=⟨15,[.tmp 2],R (O 1 (.box 79 3) 0<|o 2 .mov [c 0] [2]<|.nil)<|.seq (.regD 3 (o 3 (.fad 2) [t 1] [2]<|L 4 3<|B 5 .add 4 1<|b 6 .mul [c 12,t 5] [5]<|U 7 (.callF 154) []<|a 8 0 1<|L 9 8<|U 10 (.idxA 7 1 false) [7,9]<|C 11 .add 6 10<|A 12 1 1<|L 13 12<|C 14 .add 11 13<|M 2 14<|.nil) [0,1,3,7,0,0,32,112,255,0,512,2047,4095])<|.ret,true⟩
def p106:PFn:=⟨58,[],R (m 12 2<|M 13 1<|C 14 .sub 12 13<|M 10 14<|.nil)<|R (M 15 3<|m 16 2<|C 17 .sub 15 16<|M 11 17<|.nil)<|.seq (.block 0 (.loop [0,2,4,10,11] [0,2,4,10] (.seq (R (m 18 10<|m 19 11<|C 20 .neq 18 19<|.nil)<|.cond (t 20) (.skip) (.exit 0))<|.block 1 (R (m 21 10<|m 22 11<|C 23 .gtr 21 22<|.nil)<|.condJ [0,2,4,10,11] (t 23) (R (m 24 0<|m 25 2<|m 26 10<|C 27 .sub 25 26<|m 28 2<|m 29 11<|m 30 4<|f 31 155 [t 24,t 27,t 28,t 29,t 30] [24,27,28,29,30,31]<|.nil)<|.reg<|o 32 .mov [t 10] [10,31]<|m 33 11<|C 34 .sub 32 33<|M 10 34<|.nil) (R (m 35 0<|m 36 2<|m 37 10<|C 38 .sub 36 37<|m 39 2<|m 40 11<|C 41 .add 39 40<|m 42 10<|C 43 .sub 41 42<|m 44 10<|m 45 4<|f 46 155 [t 35,t 38,t 43,t 44,t 45] [35,38,43,44,45,46]<|.nil)<|.reg<|o 47 .mov [t 11] [11,46]<|m 48 10<|C 49 .sub 47 48<|M 11 49<|.nil)))))<|.reg<|M 50 0<|m 51 2<|m 52 10<|C 53 .sub 51 52<|M 54 2<|M 55 10<|M 56 4<|f 57 155 [t 50,t 53,t 54,t 55,t 56] [50,53,54,55,56,57]<|.nil,true⟩
def p107:PFn:=⟨9,[.tmp 2],R (o 2 .mov [cf] [2]<|.nil)<|R (o 3 .mov [t 0] [2]<|b 4 .lss [t 3,.c (.v (.int .u8 32))] [3]<|M 5 4<|x 8 5 false (M 6 0<|b 7 .eql [t 6,.c (.v (.int .u8 127))] [6]<|.nil) (t 7) [0,5]<|M 2 8<|.nil)<|.ret,true⟩
def p108:PFn:=⟨9,[.tmp 4],R (o 4 .mov [cf] [4]<|.nil)<|R (o 5 .mov [t 0] [0,4]<|M 6 1<|U 7 (.callF 156) [5,6]<|B 8 .geq 7 0<|M 4 8<|.nil)<|.ret,true⟩
def p109:PFn:=⟨4,[.tmp 2],R (O 1 (.box 195 1) 0<|o 2 .mov [.c (.v .nilFunc)] [2]<|.nil)<|R (o 3 (.mkfn (.func 157) 0) [t 1] [1,2]<|M 2 3<|.nil)<|.ret,true⟩
def p110:PFn:=⟨15,[.cellA 2 7,.tmp 3],R (U 2 (.alloc 198 z9) []<|o 3 .mov [c 0] [3]<|.nil)<|.seq (R (o 4 .mov [t 0] [3]<|B 5 .lss 4 1<|M 6 5<|x 9 6 false (m 7 0<|B 8 .gtr 7 9<|.nil) (t 8) [6]<|.nil)<|.cond (t 9) (R (U 10 (.build z9 []) []<|.sto (.store 7) [t 2,t 10] [10]<|o 3 .mov [c 11] []<|.nil)<|.ret) (.skip))<|R (U 11 (.callF 158) []<|M 12 0<|B 13 .sub 12 1<|U 14 (.idxA 9 7 true) [11,13]<|.sto (.store 7) [t 2,t 14] [14]<|o 3 .mov [c 0] []<|.nil)<|.ret,true⟩
def p111:PFn:=⟨9,[.tmp 2],R (o 2 .mov [c 0] [2]<|.nil)<|.seq (R (o 3 .mov [t 0] [2]<|B 4 .lss 3 (-7)<|M 5 4<|x 8 5 false (M 6 0<|B 7 .gtr 6 7<|.nil) (t 7) [0,5]<|.nil)<|.cond (t 8) (R (o 2 .mov [c 2] []<|.nil)<|.ret) (.skip))<|R (o 2 .mov [c 0] []<|.nil)<|.ret,true⟩
def p112:PFn:=⟨20,[.tmp 5],R (O 4 (.box 75 22) 1<|o 5 .mov [cf] [5]<|.nil)<|R (o 10 (.loadA 22) [t 4] [5]<|O 11 (.callF 29) 10<|M 9 11<|e 12 0 9 []<|O 13 (.ext 1) 9<|U 6 (.alloc 3 [(J 0)]) []<|.sto (.store 1) [t 6,t 12] [12]<|M 7 13<|.nil)<|.seq (R (M 14 7<|B 15 .neq 14 0<|.nil)<|.cond (t 15) (R (o 5 .mov [cf] []<|.nil)<|.ret) (.skip))<|R (U 8 (.alloc 155 [.nilFunc]) []<|.sto (.store 1) [t 8,.c (.fn 113 [] [])] []<|.nil)<|R (A 16 21 4<|L 17 16<|o 18 (.mkfn (.func 115) 0) [t 8,t 2,t 6] [2,6,8]<|U 19 (.callF 114) [17,18]<|M 5 19<|.nil)<|.ret,true⟩
def p113:PFn:=⟨6,[.tmp 2],R (O 1 (.box 88 13) 0<|o 2 .mov [cf] [2]<|.nil)<|R (o 3 (.loadA 13) [t 1] [1,2]<|O 4 (.callF 75) 3<|B 5 .neq 4 0<|M 2 5<|.nil)<|.ret,true⟩
def p114:PFn:=⟨9,[.tmp 4],R (o 4 .mov [cf] [4]<|.nil)<|R (o 5 .mov [t 0] [0,4]<|M 6 1<|U 7 (.callF 159) [5,6]<|B 8 .geq 7 0<|M 4 8<|.nil)<|.ret,true⟩
def p115:PFn:=⟨10,[.tmp 5],R (O 4 (.box 98 2) 0<|o 5 .mov [cf] [5]<|.nil)<|R (o 6 (.fad 1) [t 4] [4,5]<|L 7 6<|U 8 (.mkfn (.func 117) 0) [1,2,3]<|U 9 (.callF 116) [7,8]<|M 5 9<|.nil)<|.ret,true⟩
def p116:PFn:=⟨9,[.tmp 4],R (o 4 .mov [cf] [4]<|.nil)<|R (o 5 .mov [t 0] [0,4]<|M 6 1<|U 7 (.callF 160) [5,6]<|B 8 .geq 7 0<|M 4 8<|.nil)<|.ret,true⟩
def p117:PFn:=⟨18,[.tmp 5],R (O 4 (.box 92 2) 0<|o 5 .mov [cf] [5]<|.nil)<|.seq (.regD 3 (o 6 (.fad 0) [t 4] [5]<|L 7 6<|L 8 1<|U 9 (.callF 118) [7,8]<|O 10 (.un .not) 9<|M 11 10<|x 17 11 true (L 12 2<|O 13 (.loadA 2) 4<|L 14 3<|U 15 (.callF 119) [13,14]<|U 16 .callV [12,15]<|.nil) (t 16) [2,3,4,11]<|M 5 17<|.nil) [0,1,0,7,15,31,63,63,63,447,1023,2047,4095])<|.ret,true⟩
def p118:PFn:=⟨9,[.tmp 4],R (o 4 .mov [cf] [4]<|.nil)<|R (o 5 .mov [t 0] [0,4]<|M 6 1<|U 7 (.callF 161) [5,6]<|B 8 .geq 7 0<|M 4 8<|.nil)<|.ret,true⟩
def p119:PFn:=⟨14,[.tmp 4],R (O 2 (.box 92 2) 0<|o 4 .mov [c 0] [4]<|.nil)<|R (o 8 (.loadA 2) [t 2] [2,4]<|M 9 1<|U 10 (.callF 102) [8,9]<|M 7 10<|e 11 0 7 []<|O 12 (.ext 1) 7<|o 5 .mov [t 11] [5,11]<|o 6 .mov [t 12] [5,12]<|.nil)<|R (M 13 6<|M 4 13<|.nil)<|.ret,true⟩
def p120:PFn:=⟨15,[.tmp 2],R (o 2 .mov [c 0] [2]<|.nil)<|.seq (R (o 5 .mov [t 0] [0,2]<|o 6 (.len 0) [t 5] []<|o 7 .mov [c 0] []<|.nil)<|.block 0 (.loop [5,6,7] [2] (R (b 8 .lss [t 7,t 6] []<|.nil)<|.seq (.cond (t 8) (.skip) (.exit 0))<|.seq (.block 1 (R (o 9 (.iad 1) [t 5,t 7] []<|L 10 9<|M 4 10<|.nil)<|R (m 11 4<|B 12 .neq 11 0<|.nil)<|.cond (t 12) (R (M 13 4<|M 2 13<|.nil)<|.ret) (.skip)))<|.reg<|B 14 .add 7 1<|M 7 14<|.nil)))<|R (o 2 .mov [c 0] []<|.nil)<|.ret,true⟩
def p121:PFn:=⟨12,[.tmp 4],R (o 4 .mov [c 0] [4]<|.nil)<|.seq (R (o 5 .mov [t 0] [4]<|B 6 .lss 5 0<|M 7 6<|x 11 7 false (M 8 0<|M 9 1<|C 10 .gtr 8 9<|.nil) (t 10) [0,1,7]<|.nil)<|.cond (t 11) (R (o 4 .mov [c 2] []<|.nil)<|.ret) (.skip))<|R (o 4 .mov [c 0] []<|.nil)<|.ret,true⟩
def p122:PFn:=⟨9,[.tmp 2],R (o 2 .mov [cf] [2]<|.nil)<|R (o 3 .mov [t 0] [2]<|B 4 .geq 3 1<|M 5 4<|x 8 5 true (M 6 0<|B 7 .leq 6 4<|.nil) (t 7) [0,5]<|M 2 8<|.nil)<|.ret,true⟩
def p123:PFn:=⟨73,[.tmp 4],R (O 2 (.box 88 13) 0<|O 3 (.box 88 13) 1<|o 4 .mov [cf] [4]<|.nil)<|R (o 5 (.fad 2) [t 2] [4]<|L 6 5<|a 7 2 3<|L 8 7<|C 9 .eql 6 8<|M 10 9<|x 16 10 true (a 11 3 2<|O 12 (.loadA 2) 11<|a 13 3 3<|O 14 (.loadA 2) 13<|U 15 (.eqA false [.i,.i]) [12,14]<|.nil) (t 15) [10]<|M 17 16<|x 23 17 true (a 18 7 2<|L 19 18<|a 20 7 3<|L 21 20<|C 22 .eql 19 21<|.nil) (t 22) [17]<|M 24 23<|x 30 24 true (a 25 8 2<|L 26 25<|a 27 8 3<|L 28 27<|C 29 .eql 26 28<|.nil) (t 29) [24]<|M 31 30<|x 37 31 true (a 32 9 2<|L 33 32<|a 34 9 3<|L 35 34<|C 36 .eql 33 35<|.nil) (t 36) [31]<|M 38 37<|x 44 38 true (a 39 11 2<|L 40 39<|a 41 11 3<|L 42 41<|C 43 .eql 40 42<|.nil) (t 43) [38]<|M 45 44<|x 51 45 true (a 46 12 2<|L 47 46<|a 48 12 3<|L 49 48<|C 50 .eql 47 49<|.nil) (t 50) [45]<|M 52 51<|x 58 52 true (a 53 5 2<|L 54 53<|a 55 5 3<|L 56 55<|U 57 (.callF 162) [54,56]<|.nil) (t 57) [52]<|M 59 58<|x 65 59 true (a 60 6 2<|L 61 60<|a 62 6 3<|L 63 62<|U 64 (.callF 163) [61,63]<|.nil) (t 64) [59]<|M 66 65<|x 72 66 true (A 67 10 2<|L 68 67<|A 69 10 3<|L 70 69<|U 71 (.callF 164) [68,70]<|.nil) (t 71) [2,3,66]<|M 4 72<|.nil)<|.ret,true⟩
def p124:PFn:=⟨35,[.cellA 2 13],R (O 1 (.box 88 13) 0<|U 2 (.alloc 88 z10) []<|.nil)<|.seq (R (a 4 2 1<|L 5 4<|B 6 .eql 5 1<|M 7 6<|x 12 7 false (a 8 2 1<|L 9 8<|O 10 (.callF 122) 9<|O 11 (.un .not) 10<|.nil) (t 11) [7]<|.nil)<|.cond (t 12) (R (O 13 (.loadA 13) 1<|.sto (.store 13) [t 2,t 13] [13]<|.nil)<|.ret) (.skip))<|R (a 14 0 1<|O 15 (.loadA 2) 14<|a 16 2 1<|L 17 16<|a 18 9 1<|L 19 18<|U 20 (.build z10 [(0,2),(2,1),(9,1)]) [15,17,19]<|U 3 (.alloc 88 z10) []<|.sto (.store 13) [t 3,t 20] [20]<|.nil)<|.seq (R (a 21 2 1<|L 22 21<|B 23 .neq 22 3<|.nil)<|.condJ [1,2,3] (t 23) (.reg<|a 24 3 1<|O 25 (.loadA 2) 24<|a 26 3 3<|.sto (.store 2) [t 26,t 25] [25,26]<|.nil) (.skip))<|.seq (R (a 27 2 1<|L 28 27<|B 29 .neq 28 4<|.nil)<|.condJ [2,3] (t 29) (.reg<|A 30 7 1<|L 31 30<|O 32 (.callF 165) 31<|a 33 7 3<|.sto (.store 1) [t 33,t 32] [32,33]<|.nil) (.skip))<|R (O 34 (.loadA 13) 3<|.sto (.store 13) [t 2,t 34] [34]<|.laxc 2 5 5<|.laxc 2 6 5<|.laxc 2 10 2<|.nil)<|.ret,true⟩
def p125:PFn:=⟨21,[.tmp 2],R (O 1 (.box 84 2) 0<|o 2 .mov [c 0] [2]<|.nil)<|.seq (R (o 3 (.fad 0) [t 1] [2]<|L 4 3<|B 5 .lss 4 (-1)<|M 6 5<|x 10 6 false (a 7 0 1<|L 8 7<|B 9 .gtr 8 8<|.nil) (t 9) [6]<|M 11 10<|x 15 11 false (a 12 1 1<|L 13 12<|B 14 .lss 13 0<|.nil) (t 14) [11]<|M 16 15<|x 20 16 false (A 17 1 1<|L 18 17<|B 19 .gtr 18 3<|.nil) (t 19) [1,16]<|.nil)<|.cond (t 20) (R (o 2 .mov [c 17] []<|.nil)<|.ret) (.skip))<|R (o 2 .mov [c 0] []<|.nil)<|.ret,true⟩
def p126:PFn:=⟨39,[.tmp 2],R (o 2 .mov [c 0] [2]<|.nil)<|.seq (.block 0 (R (o 10 .mov [t 0] [2]<|O 11 (.len 0) 10<|B 12 .eql 11 0<|M 9 12<|.nil)<|.cond (t 9) (R (o 2 .mov [c 4] []<|.nil)<|.ret) (R (m 14 0<|O 15 (.len 0) 14<|B 16 .gtr 15 10<|M 13 16<|.nil)<|.cond (t 13) (R (o 2 .mov [c 9] []<|.nil)<|.ret) (.skip))))<|R (o 3 .mov [c (-1)] []<|.nil)<|.seq (R (M 17 0<|o 18 (.len 0) [t 17] []<|o 19 .mov [c 0] []<|.nil)<|.block 1 (.loop [3,17,18,19] [2] (R (b 20 .lss [t 19,t 18] []<|.nil)<|.seq (.cond (t 20) (.skip) (.exit 1))<|.seq (.block 2 (R (o 21 (.iad 5) [t 17,t 19] []<|O 22 (.loadA 5) 21<|U 5 (.alloc 81 z11) []<|.sto (.store 5) [t 5,t 22] [22]<|.nil)<|.seq (R (o 23 (.loadA 5) [t 5] []<|O 24 (.callF 166) 23<|M 6 24<|.nil)<|R (m 25 6<|B 26 .neq 25 0<|.nil)<|.cond (t 26) (R (M 27 6<|M 2 27<|.nil)<|.ret) (.skip))<|R (A 29 0 5<|O 30 (.loadA 3) 29<|O 31 (.callF 167) 30<|M 28 31<|e 32 0 28 []<|O 33 (.ext 1) 28<|M 7 32<|o 8 .mov [t 33] [8,33]<|.nil)<|.seq (R (o 34 .mov [t 7] [8]<|M 35 3<|C 36 .leq 34 35<|.nil)<|.cond (t 36) (R (o 2 .mov [c 25] []<|.nil)<|.ret) (.skip))<|.reg<|M 37 7<|M 3 37<|.nil))<|.reg<|B 38 .add 19 1<|M 19 38<|.nil)))<|R (o 2 .mov [c 0] []<|.nil)<|.ret,true⟩
def p127:PFn:=⟨34,[.tmp 2],R (o 2 .mov [c 0] [2]<|.nil)<|.seq (R (o 7 .mov [t 0] [2]<|O 8 (.len 0) 7<|B 9 .gtr 8 8<|.nil)<|.cond (t 9) (R (o 2 .mov [c 9] []<|.nil)<|.ret) (.skip))<|.seq (R (M 10 0<|o 11 (.len 0) [t 10] []<|o 12 .mov [c 0] []<|.nil)<|.block 0 (.loop [10,11,12] [2] (R (b 13 .lss [t 12,t 11] []<|.nil)<|.seq (.cond (t 13) (.skip) (.exit 0))<|.seq (.block 1 (R (o 14 (.iad 5) [t 10,t 12] []<|O 15 (.loadA 5) 14<|U 4 (.alloc 153 z15) []<|.sto (.store 5) [t 4,t 15] [15]<|.nil)<|.seq (R (a 17 0 4<|O 18 (.loadA 3) 17<|O 19 (.callF 167) 18<|M 16 19<|e 20 0 16 []<|O 21 (.ext 1) 16<|o 5 .mov [t 20] [5,20]<|o 6 .mov [t 21] [5,21]<|.nil)<|R (m 22 6<|B 23 .neq 22 0<|.nil)<|.cond (t 23) (R (M 24 6<|M 2 24<|.nil)<|.ret) (.skip))<|R (a 25 3 4<|L 26 25<|B 27 .lss 26 1<|M 28 27<|x 32 28 false (A 29 3 4<|L 30 29<|B 31 .gtr 30 6<|.nil) (t 31) [4,28]<|.nil)<|.cond (t 32) (R (o 2 .mov [c 2] []<|.nil)<|.ret) (.skip)))<|.reg<|B 33 .add 12 1<|M 12 33<|.nil)))<|R (o 2 .mov [c 0] []<|.nil)<|.ret,true⟩
def p128:PFn:=⟨34,[.tmp 2],R (o 2 .mov [c 0] [2]<|.nil)<|.seq (R (o 7 .mov [t 0] [2]<|O 8 (.len 0) 7<|B 9 .gtr 8 4<|.nil)<|.cond (t 9) (R (o 2 .mov [c 9] []<|.nil)<|.ret) (.skip))<|.seq (R (m 10 0<|o 11 (.len 0) [t 10] []<|o 12 .mov [c 0] []<|.nil)<|.block 0 (.loop [0,10,11,12] [0,2] (R (b 13 .lss [t 12,t 11] []<|.nil)<|.seq (.cond (t 13) (.skip) (.exit 0))<|.seq (.block 1 (R (o 14 (.iad 2) [t 10,t 12] []<|O 15 (.loadA 2) 14<|U 4 (.alloc 219 [ZS,(J 0)]) []<|.sto (.store 2) [t 4,t 15] [15]<|.nil)<|R (O 16 (.loadA 2) 4<|O 17 (.callF 168) 16<|M 5 17<|.nil)<|R (m 18 5<|B 19 .neq 18 0<|.nil)<|.cond (t 19) (R (M 20 5<|M 2 20<|.nil)<|.ret) (.skip)))<|.reg<|B 21 .add 12 1<|M 12 21<|.nil)))<|.seq (R (m 22 0<|O 23 (.len 0) 22<|M 6 23<|.nil)<|R (m 24 6<|B 25 .gtr 24 0<|M 26 25<|x 33 26 true (M 27 0<|M 28 6<|B 29 .sub 28 1<|U 30 (.iad 2) [27,29]<|O 31 (.loadA 2) 30<|O 32 (.callF 169) 31<|.nil) (t 32) [0,6,26]<|.nil)<|.cond (t 33) (R (o 2 .mov [c 3] []<|.nil)<|.ret) (.skip))<|R (o 2 .mov [c 0] []<|.nil)<|.ret,true⟩
def p129:PFn:=⟨19,[.tmp 4],R (o 4 .mov [c 0] [4]<|.nil)<|.seq (R (o 6 .mov [t 0] [4]<|O 7 (.len 0) 6<|o 8 .mov [c 0] []<|.nil)<|.block 0 (.loop [0,1,7,8] [4] (R (b 9 .lss [t 8,t 7] []<|.nil)<|.seq (.cond (t 9) (.skip) (.exit 0))<|.seq (.block 1 (R (m 10 8<|M 5 10<|.nil)<|R (m 11 1<|m 12 0<|m 13 5<|U 14 (.iad 5) [12,13]<|O 15 (.loadA 5) 14<|U 16 .callV [11,15]<|.nil)<|.cond (t 16) (R (M 17 5<|M 4 17<|.nil)<|.ret) (.skip)))<|.reg<|B 18 .add 8 1<|M 8 18<|.nil)))<|R (o 4 .mov [c (-1)] []<|.nil)<|.ret,true⟩
def p130:PFn:=⟨19,[.tmp 4],R (o 4 .mov [c 0] [4]<|.nil)<|.seq (R (o 6 .mov [t 0] [4]<|O 7 (.len 0) 6<|o 8 .mov [c 0] []<|.nil)<|.block 0 (.loop [0,1,7,8] [4] (R (b 9 .lss [t 8,t 7] []<|.nil)<|.seq (.cond (t 9) (.skip) (.exit 0))<|.seq (.block 1 (R (m 10 8<|M 5 10<|.nil)<|R (m 11 1<|m 12 0<|m 13 5<|U 14 (.iad 5) [12,13]<|O 15 (.loadA 5) 14<|U 16 .callV [11,15]<|.nil)<|.cond (t 16) (R (M 17 5<|M 4 17<|.nil)<|.ret) (.skip)))<|.reg<|B 18 .add 8 1<|M 8 18<|.nil)))<|R (o 4 .mov [c (-1)] []<|.nil)<|.ret,true⟩
def p131:PFn:=⟨5,[.tmp 2],R (O 1 (.box 81 5) 0<|o 2 .mov [cf] [2]<|.nil)<|R (o 3 (.fad 3) [t 1] [1,2]<|L 4 3<|M 2 4<|.nil)<|.ret,true⟩
def p132:PFn:=⟨25,[.tmp 4],R (O 2 (.box 44 6) 0<|O 3 (.box 145 7) 1<|o 4 .mov [c 0] [4]<|.nil)<|.seq (R (o 5 (.fad 0) [t 3] [4]<|L 6 5<|B 7 .neq 6 4<|.nil)<|.cond (t 7) (R (o 4 .mov [c 11] []<|.nil)<|.ret) (.skip))<|.seq (.seq (.regD 3 (a 8 5 3<|L 9 8<|B 10 .lss 9 0<|M 11 10<|x 24 11 false (a 12 5 3<|L 13 12<|O 14 (.loadA 6) 2<|a 15 3 3<|L 16 15<|a 17 2 3<|L 18 17<|A 19 4 3<|L 20 19<|U 21 (.callF 133) [14,16,18,20]<|O 22 (.len 0) 21<|C 23 .geq 13 22<|.nil) (t 23) [2,3,11]<|.nil) [0,1,3,7,15,31,15,15,143,15,527,15,2063,8143,16335,32767,65535])<|.cond (t 24) (R (o 4 .mov [c 2] []<|.nil)<|.ret) (.skip))<|R (o 4 .mov [c 0] []<|.nil)<|.ret,true⟩
def p133:PFn:=⟨66,[.tmp 8],R (O 4 (.box 44 6) 0<|o 8 .mov [cn] [8]<|.nil)<|.seq (R (o 9 .mov [t 1] [8]<|B 10 .lss 9 0<|M 11 10<|x 17 11 false (m 12 1<|a 13 3 4<|L 14 13<|O 15 (.len 0) 14<|C 16 .geq 12 15<|.nil) (t 16) [11]<|M 18 17<|x 21 18 false (m 19 2<|B 20 .lss 19 0<|.nil) (t 20) [18]<|M 22 21<|x 32 22 false (m 23 2<|a 24 3 4<|L 25 24<|m 26 1<|U 27 (.iad 22) [25,26]<|A 28 21 27<|L 29 28<|O 30 (.len 0) 29<|C 31 .geq 23 30<|.nil) (t 31) [22]<|M 33 32<|x 36 33 false (m 34 3<|B 35 .lss 34 0<|.nil) (t 35) [33]<|M 37 36<|x 51 37 false (m 38 3<|a 39 3 4<|L 40 39<|m 41 1<|U 42 (.iad 22) [40,41]<|A 43 21 42<|L 44 43<|m 45 2<|U 46 (.iad 2) [44,45]<|A 47 1 46<|L 48 47<|O 49 (.len 0) 48<|C 50 .geq 38 49<|.nil) (t 50) [37]<|.nil)<|.cond (t 51) (R (o 8 .mov [cn] []<|.lax 8 [some 13]<|.nil)<|.ret) (.skip))<|R (A 52 3 4<|L 53 52<|M 54 1<|U 55 (.iad 22) [53,54]<|A 56 21 55<|L 57 56<|M 58 2<|U 59 (.iad 2) [57,58]<|A 60 1 59<|L 61 60<|M 62 3<|U 63 (.iad 2) [61,62]<|A 64 0 63<|L 65 64<|M 8 65<|.nil)<|.ret,true⟩
def p134:PFn:=⟨14,[.cellA 8 7],R (U 8 (.alloc 145 z7) []<|.nil)<|R (M 9 0<|M 10 1<|M 11 2<|M 12 3<|o 13 (.build z7 [(0,1),(3,1),(2,1),(4,1),(5,1)]) [c 4,t 9,t 10,t 11,t 12] [9,10,11,12]<|.sto (.store 7) [t 8,t 13] [13]<|.nil)<|.ret,true⟩
def p135:PFn:=⟨16,[.cellA 2 13],R (O 1 (.box 88 13) 0<|U 2 (.alloc 88 z10) []<|.nil)<|.seq (.regD 3 (a 3 5 1<|L 4 3<|O 5 (.callF 170) 4<|a 6 6 1<|L 7 6<|O 8 (.callF 171) 7<|a 9 10 1<|L 10 9<|O 11 (.callF 172) 10<|a 12 5 1<|.sto (.store 1) [t 12,t 5] [5,12]<|a 13 6 1<|.sto (.store 1) [t 13,t 8] [8,13]<|a 14 10 1<|.sto (.store 1) [t 14,t 11] [11,14]<|.nil) [0,1,3,0,8,31,0,64,255,223,1023,2047,4095,8191,16383])<|R (O 15 (.loadA 13) 1<|.sto (.store 13) [t 2,t 15] [15]<|.nil)<|.ret,true⟩
def p136:PFn:=⟨9,[.tmp 3],R (O 2 (.box 81 5) 0<|o 3 .mov [cf] [3]<|.nil)<|R (o 4 (.fad 0) [t 2] [2,3]<|O 5 (.loadA 3) 4<|A 6 0 1<|O 7 (.loadA 3) 6<|U 8 (.eqA false [.i,.i,.i]) [5,7]<|M 3 8<|.nil)<|.ret,true⟩
def p137:PFn:=⟨19,[.tmp 4],R (O 2 (.box 88 13) 0<|o 4 .mov [cf] [4]<|.nil)<|R (o 5 .mov [t 1] [4]<|a 6 10 2<|L 7 6<|O 8 (.len 0) 7<|C 9 .geq 5 8<|M 10 9<|x 18 10 false (A 11 10 2<|L 12 11<|M 13 1<|U 14 (.iad 2) [12,13]<|O 15 (.loadA 2) 14<|U 16 (.build [ZS,(J 0)] []) []<|U 17 (.eqA false [.s,.i]) [15,16]<|.nil) (t 17) [1,2,10]<|M 4 18<|.nil)<|.ret,true⟩
def p138:PFn:=⟨78,[.cellA 4 4,.tmp 5],R (O 3 (.box 25 2) 1<|U 4 (.alloc 171 z12) []<|o 5 .mov [cf] [5]<|.nil)<|.seq (.regD 3 (o 14 .mov [t 0] [5]<|O 15 .nilc 14<|A 16 0 15<|O 17 (.loadA 6) 16<|O 18 (.loadA 2) 3<|U 19 (.callF 173) [17,18]<|M 13 19<|e 20 0 13 []<|O 21 (.ext 1) 13<|U 6 (.alloc 145 z7) []<|.sto (.store 7) [t 6,t 20] [20]<|M 7 21<|.nil) [0,1,3,7,0,31,63,127,127,0,767,2047])<|.seq (R (M 22 7<|O 23 (.un .not) 22<|M 24 23<|x 28 24 false (a 25 0 6<|L 26 25<|B 27 .neq 26 4<|.nil) (t 27) [24]<|.nil)<|.cond (t 28) (R (U 29 (.build z12 []) []<|.sto (.store 4) [t 4,t 29] [29]<|o 5 .mov [cf] []<|.nil)<|.ret) (.skip))<|.seq (.regD 3 (M 30 0<|O 31 .nilc 30<|A 32 0 31<|A 33 3 32<|L 34 33<|a 35 3 6<|L 36 35<|U 37 (.iad 22) [34,36]<|O 38 (.loadA 22) 37<|U 8 (.alloc 75 z3) []<|.sto (.store 22) [t 8,t 38] [38]<|.nil) [0,1,3,7,15,0,32,127,255,0,1023])<|R (o 40 (.loadA 22) [t 8] []<|O 41 (.callF 29) 40<|M 39 41<|e 42 0 39 []<|O 43 (.ext 1) 39<|M 9 42<|o 10 .mov [t 43] [10,43]<|.nil)<|.seq (.regD 3 (o 45 (.fad 21) [t 8] [8,10]<|L 46 45<|a 47 2 6<|L 48 47<|U 49 (.iad 2) [46,48]<|A 50 1 49<|L 51 50<|a 52 4 6<|L 53 52<|U 54 (.iad 2) [51,53]<|O 55 (.loadA 2) 54<|M 56 9<|U 57 (.callF 53) [55,56]<|M 44 57<|e 58 0 44 []<|O 59 (.ext 1) 44<|M 11 58<|o 12 .mov [t 59] [12,59]<|.nil) [0,1,0,4,15,31,63,0,128,511,1023,0,4095,8191,16383,16383,32767,131071])<|.seq (R (o 60 (.fad 5) [t 6] [12]<|L 61 60<|m 62 11<|O 63 (.len 0) 62<|C 64 .geq 61 63<|.nil)<|.cond (t 64) (R (U 65 (.build z12 []) []<|.sto (.store 4) [t 4,t 65] [65]<|o 5 .mov [cf] []<|.nil)<|.ret) (.skip))<|.seq (.regD 3 (a 66 3 6<|L 67 66<|M 68 11<|a 69 5 6<|L 70 69<|U 71 (.iad 1) [68,70]<|L 72 71<|a 73 2 6<|L 74 73<|A 75 4 6<|L 76 75<|U 77 (.build z12 [(0,1),(1,1),(2,1),(3,1)]) [67,72,74,76]<|.sto (.store 4) [t 4,t 77] [77]<|o 5 .mov [ct] []<|.nil) [0,1,0,0,8,28,60,0,128,0,512,2047,4095,8191])<|.ret,true⟩
def p139:PFn:=⟨52,[.tmp 2],R (O 1 (.box 173 9) 0<|o 2 .mov [c 0] [2]<|.nil)<|.seq (.block 0 (R (o 4 (.fad 0) [t 1] [2]<|L 5 4<|B 6 .lss 5 1<|M 7 6<|x 11 7 false (a 8 0 1<|L 9 8<|B 10 .gtr 9 7<|.nil) (t 10) [7]<|M 3 11<|.nil)<|.cond (t 3) (R (o 2 .mov [c 11] []<|.nil)<|.ret) (R (a 13 1 1<|O 14 (.loadA 4) 13<|O 15 (.callF 174) 14<|O 16 (.un .not) 15<|M 17 16<|x 22 17 false (a 18 5 1<|O 19 (.loadA 4) 18<|O 20 (.callF 174) 19<|O 21 (.un .not) 20<|.nil) (t 21) [17]<|M 12 22<|.nil)<|.cond (t 12) (R (o 2 .mov [c 2] []<|.nil)<|.ret) (R (a 24 1 1<|A 25 2 24<|L 26 25<|a 27 5 1<|A 28 2 27<|L 29 28<|C 30 .neq 26 29<|M 31 30<|x 44 31 false (a 32 0 1<|L 33 32<|O 34 (.callF 175) 33<|M 35 34<|x 43 35 true (a 36 1 1<|A 37 3 36<|L 38 37<|a 39 5 1<|A 40 3 39<|L 41 40<|C 42 .neq 38 41<|.nil) (t 42) [35]<|.nil) (t 43) [31]<|M 23 44<|.nil)<|.cond (t 23) (R (o 2 .mov [c 23] []<|.nil)<|.ret) (R (a 46 1 1<|O 47 (.loadA 4) 46<|A 48 5 1<|O 49 (.loadA 4) 48<|U 50 (.callF 176) [47,49]<|B 51 .geq 50 0<|M 45 51<|.nil)<|.cond (t 45) (R (o 2 .mov [c 25] []<|.nil)<|.ret) (.skip))))))<|R (o 2 .mov [c 0] []<|.nil)<|.ret,true⟩
def p140:PFn:=⟨42,[.tmp 4],R (O 2 (.box 173 9) 0<|O 3 (.box 173 9) 1<|o 4 .mov [cf] [4]<|.nil)<|.seq (.regD 3 (o 5 (.fad 0) [t 2] [4]<|L 6 5<|O 7 (.callF 177) 6<|B 8 .gtr 7 0<|M 9 8<|x 17 9 true (a 10 0 2<|L 11 10<|O 12 (.callF 177) 11<|a 13 0 3<|L 14 13<|O 15 (.callF 177) 14<|C 16 .eql 12 15<|.nil) (t 16) [9]<|M 18 17<|x 26 18 true (a 19 1 2<|A 20 2 19<|L 21 20<|a 22 1 3<|A 23 2 22<|L 24 23<|C 25 .eql 21 24<|.nil) (t 25) [18]<|M 27 26<|x 41 27 true (a 28 0 2<|L 29 28<|O 30 (.callF 175) 29<|O 31 (.un .not) 30<|M 32 31<|x 40 32 false (A 33 1 2<|A 34 3 33<|L 35 34<|A 36 1 3<|A 37 3 36<|L 38 37<|C 39 .eql 35 38<|.nil) (t 39) [2,3,32]<|.nil) (t 40) [2,3,27]<|M 4 41<|.nil) [0,1,3,7,15,31,63,127,31,287,1023,2047,4095,8191,16383,32767,65535,16383,147455,409599,1048575,2097151,4194303,8388607,16777215,33554431,67108863,134217727,268435455,536870911,1073741823,268435455,2415919103,6710886399,17179869183,34359738367,68719476735,137438953471])<|.ret,true⟩
def p141:PFn:=⟨9,[.tmp 4],R (O 2 (.box 173 9) 0<|O 3 (.box 173 9) 1<|o 4 .mov [cf] [4]<|.nil)<|R (o 5 (.loadA 9) [t 2] [2,4]<|O 6 (.loadA 9) 3<|U 7 (.callF 142) [5,6]<|O 8 (.un .not) 7<|M 4 8<|.nil)<|.ret,true⟩
def p142:PFn:=⟨19,[.tmp 4],R (O 2 (.box 173 9) 0<|O 3 (.box 173 9) 1<|o 4 .mov [cf] [4]<|.nil)<|R (o 5 (.fad 5) [t 2] [4]<|O 6 (.loadA 4) 5<|a 7 1 3<|O 8 (.loadA 4) 7<|U 9 (.callF 176) [6,8]<|B 10 .leq 9 0<|M 11 10<|x 18 11 false (A 12 5 3<|O 13 (.loadA 4) 12<|A 14 1 2<|O 15 (.loadA 4) 14<|U 16 (.callF 176) [13,15]<|B 17 .leq 16 0<|.nil) (t 17) [2,3,11]<|M 4 18<|.nil)<|.ret,true⟩
def p143:PFn:=⟨9,[.tmp 4],R (O 2 (.box 173 9) 0<|O 3 (.box 173 9) 1<|o 4 .mov [cf] [4]<|.nil)<|R (o 5 (.loadA 9) [t 2] [2,4]<|O 6 (.loadA 9) 3<|U 7 (.callF 144) [5,6]<|O 8 (.un .not) 7<|M 4 8<|.nil)<|.ret,true⟩
def p144:PFn:=⟨19,[.tmp 4],R (O 2 (.box 173 9) 0<|O 3 (.box 173 9) 1<|o 4 .mov [cf] [4]<|.nil)<|R (o 5 (.fad 5) [t 2] [4]<|O 6 (.loadA 4) 5<|a 7 1 3<|O 8 (.loadA 4) 7<|U 9 (.callF 176) [6,8]<|B 10 .lss 9 0<|M 11 10<|x 18 11 false (A 12 5 3<|O 13 (.loadA 4) 12<|A 14 1 2<|O 15 (.loadA 4) 14<|U 16 (.callF 176) [13,15]<|B 17 .lss 16 0<|.nil) (t 17) [2,3,11]<|M 4 18<|.nil)<|.ret,true⟩
def p145:PFn:=⟨18,[.tmp 4],R (O 2 (.box 173 9) 0<|O 3 (.box 173 9) 1<|o 4 .mov [cf] [4]<|.nil)<|.seq (.regD 3 (o 5 (.loadA 9) [t 2] [4]<|o 6 (.loadA 9) [t 3] []<|U 7 (.callF 142) [5,6]<|O 8 (.un .not) 7<|M 9 8<|x 17 9 true (o 10 (.loadA 9) [t 2] []<|o 11 (.loadA 9) [t 3] []<|U 12 (.callF 178) [10,11]<|O 13 (.loadA 9) 3<|O 14 (.loadA 9) 2<|U 15 (.callF 178) [13,14]<|U 16 (.eqB false) [12,15]<|.nil) (t 16) [2,3,9]<|M 4 17<|.nil) [0,0,3,7,15,31,31,127,31,31,1023,2047,4095,8191])<|.ret,true⟩
def p146:PFn:=⟨127,[.cellA 4 6,.tmp 5],R (O 2 (.box 175 6) 0<|O 3 (.box 75 22) 1<|U 4 (.alloc 175 z8) []<|o 5 .mov [cf] [5]<|.nil)<|.seq (R (o 7 (.fad 12) [t 3] [5]<|L 8 7<|M 9 8<|x 13 9 false (a 10 1 2<|L 11 10<|B 12 .eql 11 0<|.nil) (t 12) [9]<|.nil)<|.cond (t 13) (R (O 14 (.loadA 6) 2<|.sto (.store 6) [t 4,t 14] [14]<|o 5 .mov [cf] []<|.nil)<|.ret) (.skip))<|.seq (R (a 15 14 3<|L 16 15<|a 17 3 2<|L 18 17<|C 19 .neq 16 18<|.nil)<|.cond (t 19) (.seq (R (a 20 3 2<|L 21 20<|B 22 .neq 21 0<|M 23 22<|x 27 23 true (a 24 4 2<|L 25 24<|O 26 (.un .not) 25<|.nil) (t 26) [23]<|M 28 27<|x 35 28 false (a 29 14 3<|L 30 29<|a 31 2 2<|L 32 31<|C 33 .and 30 32<|B 34 .neq 33 0<|.nil) (t 34) [28]<|.nil)<|.cond (t 35) (R (O 36 (.loadA 6) 2<|.sto (.store 6) [t 4,t 36] [36]<|o 5 .mov [cf] []<|.nil)<|.ret) (.skip))<|R (a 37 14 3<|L 38 37<|O 39 (.convI .u64) 38<|O 40 (.callF 179) 39<|B 41 .sub 40 1<|M 6 41<|.nil)<|.seq (.regX 3 (a 42 2 2<|L 43 42<|a 44 14 3<|L 45 44<|C 46 .or 43 45<|a 47 14 3<|o 48 .loadS [t 47] []<|a 49 2 2<|.sto (.store 1) [t 49,t 46] [46]<|a 50 3 2<|.sto (.store 1) [t 50,t 48] [48,50]<|a 51 4 2<|.sto (.store 1) [t 51,cf] [51]<|.nil) [0,1,0,4,15,0,32,31,159,511,1023,2047,4095] [(6,8,47,49)])<|.block 0 (R (a 53 5 2<|L 54 53<|B 55 .eql 54 0<|M 52 55<|.nil)<|.cond (t 52) (R (a 56 14 3<|L 57 56<|B 58 .and 57 1<|B 59 .eql 58 0<|M 60 59<|x 63 60 false (M 61 6<|B 62 .gtr 61 6<|.nil) (t 62) [6,60]<|.nil)<|.cond (t 63) (R (O 64 (.loadA 6) 2<|.sto (.store 6) [t 4,t 64] [64]<|o 5 .mov [cf] []<|.nil)<|.ret) (.skip)) (.seq (.regD 3 (m 66 6<|a 67 5 2<|L 68 67<|C 69 .geq 66 68<|M 70 69<|x 90 70 false (M 71 6<|a 72 5 2<|L 73 72<|B 74 .sub 73 1<|C 75 .eql 71 74<|M 76 75<|x 89 76 true (o 77 (.loadA 6) [t 2] []<|O 78 (.callF 93) 77<|O 79 (.un .not) 78<|M 80 79<|x 88 80 false (a 81 2 2<|L 82 81<|a 83 5 2<|L 84 83<|b 85 .shl [c 1,t 84] [84]<|B 86 .sub 85 1<|C 87 .neq 82 86<|.nil) (t 87) [80]<|.nil) (t 88) [76]<|.nil) (t 89) [6,70]<|M 65 90<|.nil) [0,0,2,7,15,31,31,95,223,511,1023,2047,4095,8191,16383,32767,65535,32767,163839,425983,950271,2097151,4194303,8388607,16777215,33554431])<|.cond (t 65) (R (O 91 (.loadA 6) 2<|.sto (.store 6) [t 4,t 91] [91]<|o 5 .mov [cf] []<|.nil)<|.ret) (.skip)))) (R (a 92 4 2<|L 93 92<|.nil)<|.cond (t 93) (R (O 94 (.loadA 6) 2<|.sto (.store 6) [t 4,t 94] [94]<|o 5 .mov [cf] []<|.nil)<|.ret) (.skip)))<|.seq (R (a 95 13 3<|L 96 95<|B 97 .neq 96 0<|.nil)<|.cond (t 97) (.seq (.seq (.regD 3 (o 98 (.loadA 6) [t 2] []<|O 99 (.callF 93) 98<|M 100 99<|x 111 100 false (a 101 5 2<|L 102 101<|B 103 .neq 102 0<|M 104 103<|x 110 104 true (a 105 13 3<|L 106 105<|a 107 5 2<|L 108 107<|C 109 .neq 106 108<|.nil) (t 109) [104]<|.nil) (t 110) [100]<|M 112 111<|x 120 112 false (a 113 3 2<|L 114 113<|O 115 (.convI .u64) 114<|O 116 (.callF 179) 115<|a 117 13 3<|L 118 117<|C 119 .geq 116 118<|.nil) (t 119) [112]<|.nil) [0,1,3,7,15,31,63,127,255,127,639,2047,4095,8191,16383,32767,65535,131071,262143,32767,557055,2097151,4194303])<|.cond (t 120) (R (O 121 (.loadA 6) 2<|.sto (.store 6) [t 4,t 121] [121]<|o 5 .mov [cf] []<|.nil)<|.ret) (.skip))<|.reg<|A 122 13 3<|L 123 122<|a 124 5 2<|.sto (.store 1) [t 124,t 123] [123,124]<|a 125 4 2<|.sto (.store 1) [t 125,ct] [125]<|.nil) (.skip))<|R (O 126 (.loadA 6) 2<|.sto (.store 6) [t 4,t 126] [126]<|o 5 .mov [ct] []<|.nil)<|.ret,true⟩
def p147:PFn:=⟨19,[.tmp 4],R (o 4 .mov [c 0] [4]<|.nil)<|.seq (R (o 6 .mov [t 0] [4]<|O 7 (.len 0) 6<|o 8 .mov [c 0] []<|.nil)<|.block 0 (.loop [0,1,7,8] [4] (R (b 9 .lss [t 8,t 7] []<|.nil)<|.seq (.cond (t 9) (.skip) (.exit 0))<|.seq (.block 1 (R (m 10 8<|M 5 10<|.nil)<|R (m 11 1<|m 12 0<|m 13 5<|U 14 (.iad 22) [12,13]<|O 15 (.loadA 22) 14<|U 16 .callV [11,15]<|.nil)<|.cond (t 16) (R (M 17 5<|M 4 17<|.nil)<|.ret) (.skip)))<|.reg<|B 18 .add 8 1<|M 8 18<|.nil)))<|R (o 4 .mov [c (-1)] []<|.nil)<|.ret,true⟩
def p148:PFn:=⟨10,[.tmp 4],R (o 4 .mov [cf] [4]<|.nil)<|.seq (.regD 3 (o 5 .loadS [t 1] [1,4]<|M 6 0<|U 7 (.callF 149) [5,6]<|L 8 2<|f 9 59 [t 7,c 0,t 8] [7,8]<|M 4 9<|.nil) [0,0,3,0,15,31])<|.ret,true⟩
def p149:PFn:=⟨12,[.tmp 4],R (O 3 (.box 3 1) 1<|o 4 .mov [c 0] [4]<|.nil)<|R (o 5 .mov [t 0] [0,4]<|O 6 .nilc 5<|A 7 0 6<|A 8 3 7<|L 9 8<|O 10 (.mkfn (.func 180) 0) 3<|U 11 (.callF 147) [9,10]<|M 4 11<|.nil)<|.ret,true⟩
def p150:PFn:=⟨50,[.tmp 2],R (O 1 (.box 71 8) 0<|o 2 .mov [cf] [2]<|.nil)<|.seq (R (o 7 (.fad 2) [t 1] [2]<|O 8 (.loadA 6) 7<|U 9 (.build z16 []) []<|U 10 (.eqA false [.i,.i,.i,.i,.i,.i]) [8,9]<|.nil)<|.cond (t 10) (R (o 2 .mov [ct] []<|.nil)<|.ret) (.skip))<|R (o 3 .mov [c 0] []<|o 4 .mov [c 0] []<|.nil)<|.seq (R (a 11 2 1<|O 12 (.loadA 6) 11<|o 13 .mov [c 0] []<|.nil)<|.block 0 (.loop [1,3,4,12,13] [1,2,3,4] (R (b 14 .lss [t 13,c 6] []<|.nil)<|.seq (.cond (t 14) (.skip) (.exit 0))<|.seq (.block 1 (R (m 15 13<|o 16 (.idxA 6 1 false) [t 12,t 13] []<|M 5 15<|M 6 16<|.nil)<|.block 2 (R (m 18 6<|B 19 .lss 18 0<|M 20 19<|x 23 20 false (m 21 6<|B 22 .gtr 21 64<|.nil) (t 22) [20]<|M 24 23<|x 32 24 false (m 25 6<|B 26 .gtr 25 0<|M 27 26<|x 31 27 true (M 28 5<|m 29 4<|C 30 .neq 28 29<|.nil) (t 30) [5,27]<|.nil) (t 31) [5,24]<|M 17 32<|.nil)<|.cond (t 17) (R (o 2 .mov [cf] []<|.nil)<|.ret) (R (m 34 6<|B 35 .gtr 34 0<|M 33 35<|.nil)<|.condJ [1,3,4,12,13] (t 33) (.reg<|M 36 3<|M 37 6<|C 38 .add 36 37<|M 39 4<|B 40 .add 39 1<|M 3 38<|M 4 40<|.nil) (.skip)))))<|.reg<|B 41 .add 13 1<|M 13 41<|.nil)))<|R (M 42 3<|A 43 0 1<|L 44 43<|C 45 .eql 42 44<|M 46 45<|x 49 46 true (M 47 4<|B 48 .geq 47 2<|.nil) (t 48) [4,46]<|M 2 49<|.nil)<|.ret,true⟩
def p151:PFn:=⟨6,[.tmp 2],R (O 1 (.box 71 8) 0<|o 2 .mov [c 0] [2]<|.nil)<|R (o 3 (.fad 1) [t 1] [1,2]<|L 4 3<|b 5 .quo [c 1935360,t 4] [4]<|M 2 5<|.nil)<|.ret,true⟩
def p152:PFn:=⟨45,[.tmp 4,.tmp 5],R (O 2 (.box 92 2) 0<|o 4 .mov [cn] [4]<|o 5 .mov [c 0] [4,5]<|.nil)<|.seq (.block 0 (R (o 8 .mov [t 1] [5]<|B 9 .lss 8 1<|M 10 9<|x 13 10 false (m 11 1<|B 12 .gtr 11 15482880<|.nil) (t 12) [10]<|M 7 13<|.nil)<|.cond (t 7) (R (o 4 .mov [cn] []<|.lax 4 [some 1]<|o 5 .mov [c 2] []<|.nil)<|.ret) (R (a 15 0 2<|L 16 15<|O 17 (.len 0) 16<|B 18 .gtr 17 128<|M 14 18<|.nil)<|.cond (t 14) (R (o 4 .mov [cn] []<|.lax 4 [some 1]<|o 5 .mov [c 9] []<|.nil)<|.ret) (.skip))))<|.seq (R (o 19 (.loadA 2) [t 2] []<|O 20 (.callF 181) 19<|M 21 20<|x 26 21 true (a 22 0 2<|L 23 22<|O 24 (.len 0) 23<|B 25 .eql 24 1<|.nil) (t 25) [21]<|.nil)<|.cond (t 26) (.seq (R (a 27 0 2<|L 28 27<|o 29 (.iad 13) [t 28,c 0] [28]<|O 30 (.loadA 13) 29<|O 31 (.callF 75) 30<|M 6 31<|.nil)<|R (m 32 6<|B 33 .neq 32 0<|.nil)<|.cond (t 33) (R (M 34 6<|o 4 .mov [cn] []<|.lax 4 [some 1]<|M 5 34<|.nil)<|.ret) (.skip))<|.seq (R (A 35 1 2<|L 36 35<|O 37 (.len 0) 36<|B 38 .gtr 37 0<|.nil)<|.cond (t 38) (R (o 4 .mov [cn] []<|.lax 4 [some 1]<|o 5 .mov [c 21] []<|.nil)<|.ret) (.skip))<|R (M 39 1<|O 40 (.buildSl 3 1 1 [(J 0)] [0]) 39<|M 4 40<|o 5 .mov [c 0] []<|.nil)<|.ret) (.skip))<|R (O 41 (.loadA 2) 2<|O 42 (.callF 182) 41<|e 43 0 42 []<|O 44 (.ext 1) 42<|M 4 43<|M 5 44<|.nil)<|.ret,true⟩
def p153:PFn:=⟨17,[.tmp 2],R (o 2 .mov [c 0] [2]<|.nil)<|R (o 3 .mov [c 0] [2]<|.nil)<|.seq (R (M 6 0<|o 7 (.len 0) [t 6] []<|o 8 .mov [c 0] []<|.nil)<|.block 0 (.loop [3,6,7,8] [3] (R (b 9 .lss [t 8,t 7] []<|.nil)<|.seq (.cond (t 9) (.skip) (.exit 0))<|.seq (.block 1 (R (o 10 (.iad 1) [t 6,t 8] []<|L 11 10<|M 5 11<|.nil)<|.reg<|M 12 3<|M 13 5<|C 14 .add 12 13<|M 3 14<|.nil))<|.reg<|B 15 .add 8 1<|M 8 15<|.nil)))<|R (M 16 3<|M 2 16<|.nil)<|.ret,true⟩
def p154:PFn:=⟨2,[.cellA 0 7],R (U 0 (.alloc 229 z7) []<|.nil)<|R (o 1 (.build z7 [(0,1),(1,1),(2,1),(3,1),(4,1),(5,1),(6,1)]) [c 0,c 2,c 4,c 5,c 7,c 9,c 11] []<|.sto (.store 7) [t 0,t 1] [1]<|.nil)<|.ret,true⟩
def p155:PFn:=⟨38,[],R (o 10 .mov [c 0] []<|.nil)<|.block 0 (.loop [0,1,2,3,10] [] (.seq (R (m 11 10<|m 12 3<|C 13 .lss 11 12<|.nil)<|.cond (t 13) (.skip) (.exit 0))<|.seq (.block 1 (.regD 3 (m 16 0<|m 17 1<|m 18 10<|C 19 .add 17 18<|m 20 0<|m 21 2<|m 22 10<|C 23 .add 21 22<|m 24 0<|m 25 2<|m 26 10<|C 27 .add 25 26<|U 28 (.iad 9) [24,27]<|O 29 (.loadA 9) 28<|m 30 0<|m 31 1<|m 32 10<|C 33 .add 31 32<|U 34 (.iad 9) [30,33]<|O 35 (.loadA 9) 34<|U 36 (.iad 9) [16,19]<|.sto (.store 9) [t 36,t 29] [29,36]<|U 37 (.iad 9) [20,23]<|.sto (.store 9) [t 37,t 35] [35,37]<|.nil) [0,0,0,6,0,0,0,96,0,0,0,1536,3840,7936,0,0,0,98304,245760,507904,1048335,2096911,4194303,8388607]))<|.reg<|M 14 10<|B 15 .add 14 1<|M 10 15<|.nil)),true⟩
def p156:PFn:=⟨19,[.tmp 4],R (o 4 .mov [c 0] [4]<|.nil)<|.seq (R (o 6 .mov [t 0] [4]<|O 7 (.len 0) 6<|o 8 .mov [c 0] []<|.nil)<|.block 0 (.loop [0,1,7,8] [4] (R (b 9 .lss [t 8,t 7] []<|.nil)<|.seq (.cond (t 9) (.skip) (.exit 0))<|.seq (.block 1 (R (m 10 8<|M 5 10<|.nil)<|R (m 11 1<|m 12 0<|m 13 5<|U 14 (.iad 1) [12,13]<|L 15 14<|U 16 .callV [11,15]<|.nil)<|.cond (t 16) (R (M 17 5<|M 4 17<|.nil)<|.ret) (.skip)))<|.reg<|B 18 .add 8 1<|M 8 18<|.nil)))<|R (o 4 .mov [c (-1)] []<|.nil)<|.ret,true⟩
def p157:PFn:=⟨183,[],R (o 3 .mov [c 0] []<|.nil)<|.seq (R (o 11 .loadS [t 1] []<|O 12 .nilc 11<|A 13 2 12<|L 14 13<|O 15 (.len 0) 14<|o 16 .mov [c 0] []<|.nil)<|.block 0 (.loop [0,1,3,15,16] [0,1] (R (b 17 .lss [t 16,t 15] []<|.nil)<|.seq (.cond (t 17) (.skip) (.exit 0))<|.seq (.block 1 (R (m 18 16<|M 4 18<|.nil)<|.seq (R (m 19 0<|m 20 4<|o 21 (.build z7 [(0,1),(1,1)]) [c 1,t 20] [20]<|o 22 .loadS [t 1] []<|O 23 .nilc 22<|A 24 2 23<|L 25 24<|m 26 4<|U 27 (.iad 6) [25,26]<|A 28 0 27<|U 29 .callV [19,21,28]<|O 30 (.un .not) 29<|.nil)<|.condL (t 30) (.ret) (.skip))<|R (o 31 .loadS [t 1] []<|O 32 .nilc 31<|A 33 2 32<|L 34 33<|m 35 4<|U 36 (.iad 6) [34,35]<|A 37 5 36<|L 38 37<|O 39 (.len 0) 38<|o 40 .mov [c 0] []<|.nil)<|.block 2 (.loop [0,1,3,4,15,16,39,40] [0,1,3,15,16] (R (b 41 .lss [t 40,t 39] []<|.nil)<|.seq (.cond (t 41) (.skip) (.exit 2))<|.seq (.block 3 (R (m 42 40<|M 5 42<|.nil)<|.seq (R (m 43 0<|m 44 3<|o 45 (.build z7 [(0,1),(2,1)]) [c 2,t 44] [44]<|o 46 .loadS [t 1] []<|O 47 .nilc 46<|A 48 2 47<|L 49 48<|m 50 4<|U 51 (.iad 6) [49,50]<|A 52 5 51<|L 53 52<|M 54 5<|U 55 (.iad 3) [53,54]<|A 56 0 55<|U 57 .callV [43,45,56]<|O 58 (.un .not) 57<|.nil)<|.condL (t 58) (.ret) (.skip))<|.reg<|M 59 3<|B 60 .add 59 1<|M 3 60<|.nil))<|.reg<|B 61 .add 40 1<|M 40 61<|.nil))))<|.reg<|B 62 .add 16 1<|M 16 62<|.nil)))<|.seq (R (o 63 .loadS [t 1] []<|O 64 .nilc 63<|A 65 3 64<|L 66 65<|O 67 (.len 0) 66<|o 68 .mov [c 0] []<|.nil)<|.block 4 (.loop [0,1,67,68] [0,1] (R (b 69 .lss [t 68,t 67] []<|.nil)<|.seq (.cond (t 69) (.skip) (.exit 4))<|.seq (.block 5 (R (m 70 68<|M 6 70<|.nil)<|.seq (R (m 71 0<|m 72 6<|o 73 (.build z7 [(0,1),(3,1)]) [c 3,t 72] [72]<|o 74 .loadS [t 1] []<|O 75 .nilc 74<|A 76 3 75<|L 77 76<|m 78 6<|U 79 (.iad 22) [77,78]<|A 80 0 79<|U 81 .callV [71,73,80]<|O 82 (.un .not) 81<|.nil)<|.condL (t 82) (.ret) (.skip))<|R (o 83 .loadS [t 1] []<|O 84 .nilc 83<|A 85 3 84<|L 86 85<|m 87 6<|U 88 (.iad 22) [86,87]<|A 89 21 88<|L 90 89<|O 91 (.len 0) 90<|o 92 .mov [c 0] []<|.nil)<|.block 6 (.loop [0,1,6,67,68,91,92] [0,1,67,68] (R (b 93 .lss [t 92,t 91] []<|.nil)<|.seq (.cond (t 93) (.skip) (.exit 6))<|.seq (.block 7 (R (m 94 92<|M 7 94<|.nil)<|R (o 95 .loadS [t 1] []<|O 96 .nilc 95<|A 97 3 96<|L 98 97<|m 99 6<|U 100 (.iad 22) [98,99]<|A 101 21 100<|L 102 101<|m 103 7<|U 104 (.iad 2) [102,103]<|A 105 1 104<|L 106 105<|O 107 (.len 0) 106<|o 108 .mov [c 0] []<|.nil)<|.block 8 (.loop [0,1,6,7,67,68,91,92,107,108] [0,1,6,67,68,91,92] (R (b 109 .lss [t 108,t 107] []<|.nil)<|.seq (.cond (t 109) (.skip) (.exit 8))<|.seq (.block 9 (R (m 110 108<|M 8 110<|.nil)<|R (o 111 .loadS [t 1] []<|O 112 .nilc 111<|A 113 3 112<|L 114 113<|m 115 6<|U 116 (.iad 22) [114,115]<|A 117 21 116<|L 118 117<|m 119 7<|U 120 (.iad 2) [118,119]<|A 121 1 120<|L 122 121<|m 123 8<|U 124 (.iad 2) [122,123]<|A 125 0 124<|L 126 125<|O 127 (.len 0) 126<|o 128 .mov [c 0] []<|.nil)<|.block 10 (.loop [0,1,6,7,8,67,68,91,92,107,108,127,128] [0,1,6,7,67,68,91,92,107,108] (R (b 129 .lss [t 128,t 127] []<|.nil)<|.seq (.cond (t 129) (.skip) (.exit 10))<|.seq (.block 11 (R (m 130 128<|M 9 130<|.nil)<|R (m 131 0<|m 132 6<|m 133 7<|m 134 8<|m 135 9<|o 136 (.build z7 [(0,1),(3,1),(2,1),(4,1),(5,1)]) [c 4,t 132,t 133,t 134,t 135] [132,133,134,135]<|o 137 .loadS [t 1] []<|O 138 .nilc 137<|A 139 3 138<|L 140 139<|m 141 6<|U 142 (.iad 22) [140,141]<|A 143 21 142<|L 144 143<|m 145 7<|U 146 (.iad 2) [144,145]<|A 147 1 146<|L 148 147<|m 149 8<|U 150 (.iad 2) [148,149]<|A 151 0 150<|L 152 151<|M 153 9<|U 154 (.iad 13) [152,153]<|A 155 0 154<|U 156 .callV [131,136,155]<|O 157 (.un .not) 156<|.nil)<|.condL (t 157) (.ret) (.skip)))<|.reg<|B 158 .add 128 1<|M 128 158<|.nil))))<|.reg<|B 159 .add 108 1<|M 108 159<|.nil))))<|.reg<|B 160 .add 92 1<|M 92 160<|.nil))))<|.reg<|B 161 .add 68 1<|M 68 161<|.nil)))<|R (o 162 .loadS [t 1] []<|O 163 .nilc 162<|A 164 4 163<|L 165 164<|O 166 (.len 0) 165<|o 167 .mov [c 0] []<|.nil)<|.block 12 (.loop [0,1,166,167] [] (R (b 168 .lss [t 167,t 166] []<|.nil)<|.seq (.cond (t 168) (.skip) (.exit 12))<|.seq (.block 13 (R (m 169 167<|M 10 169<|.nil)<|R (m 170 0<|m 171 10<|o 172 (.build z7 [(0,1),(6,1)]) [c 5,t 171] [171]<|o 173 .loadS [t 1] []<|O 174 .nilc 173<|A 175 4 174<|L 176 175<|M 177 10<|U 178 (.iad 7) [176,177]<|A 179 0 178<|U 180 .callV [170,172,179]<|O 181 (.un .not) 180<|.nil)<|.condL (t 181) (.ret) (.skip)))<|.reg<|B 182 .add 167 1<|M 167 182<|.nil)),true⟩
def p158:PFn:=⟨11,[.cellA 0 63],R (U 0 (.alloc 233 z17) []<|.nil)<|R (o 1 (.build z9 [(0,1),(1,1),(2,1),(3,1),(4,1),(5,1),(6,1)]) [.c (.v (.string ⟨#[116,114,101,98,108,101]⟩)),.c (.v (.int .u8 71)),c (-2),c 0,c 34,c (-1),c (-3)] []<|o 2 (.build z9 [(0,1),(1,1),(2,1),(3,1),(4,1),(5,1),(6,1)]) [.c (.v (.string ⟨#[98,97,115,115]⟩)),.c (.v (.int .u8 70)),c 2,c 0,c 22,c (-3),c (-5)] []<|o 3 (.build z9 [(0,1),(1,1),(2,1),(3,1),(4,1),(5,1),(6,1)]) [.c (.v (.string ⟨#[97,108,116,111]⟩)),.c (.v (.int .u8 67)),c 0,c 0,c 28,c (-2),c (-4)] []<|o 4 (.build z9 [(0,1),(1,1),(2,1),(3,1),(4,1),(5,1),(6,1)]) [.c (.v (.string ⟨#[116,101,110,111,114]⟩)),.c (.v (.int .u8 67)),c 2,c 0,c 26,c (-2),c (-2)] []<|o 5 (.build z9 [(0,1),(1,1),(2,1),(3,1),(4,1),(5,1),(6,1)]) [.c (.v (.string ⟨#[115,111,112,114,97,110,111]⟩)),.c (.v (.int .u8 67)),c (-4),c 0,c 32,c (-2),c (-3)] []<|o 6 (.build z9 [(0,1),(1,1),(2,1),(3,1),(4,1),(5,1),(6,1)]) [.c (.v (.string ⟨#[109,101,122,122,111,115,111,112,114,97,110,111]⟩)),.c (.v (.int .u8 67)),c (-2),c 0,c 30,c (-2),c (-3)] []<|o 7 (.build z9 [(0,1),(1,1),(2,1),(3,1),(4,1),(5,1),(6,1)]) [.c (.v (.string ⟨#[98,97,114,105,116,111,110,101]⟩)),.c (.v (.int .u8 70)),c 0,c 0,c 24,c (-2),c (-3)] []<|o 8 (.build z9 [(0,1),(1,1),(2,1),(3,1),(4,1),(5,1),(6,1)]) [.c (.v (.string ⟨#[116,114,101,98,108,101,56]⟩)),.c (.v (.int .u8 71)),c (-2),c (-1),c 27,c (-1),c (-3)] []<|o 9 (.build z9 [(0,1),(1,1),(2,1),(3,1),(4,1),(5,1),(6,1)]) [.c (.v (.string ⟨#[98,97,115,115,56]⟩)),.c (.v (.int .u8 70)),c 2,c (-1),c 15,c (-3),c (-5)] []<|U 10 (.build z17 [(0,7),(7,7),(14,7),(21,7),(28,7),(35,7),(42,7),(49,7),(56,7)]) [1,2,3,4,5,6,7,8,9]<|.sto (.store 63) [t 0,t 10] [10]<|.nil)<|.ret,true⟩
def p159:PFn:=⟨19,[.tmp 4],R (o 4 .mov [c 0] [4]<|.nil)<|.seq (R (o 6 .mov [t 0] [4]<|O 7 (.len 0) 6<|o 8 .mov [c 0] []<|.nil)<|.block 0 (.loop [0,1,7,8] [4] (R (b 9 .lss [t 8,t 7] []<|.nil)<|.seq (.cond (t 9) (.skip) (.exit 0))<|.seq (.block 1 (R (m 10 8<|M 5 10<|.nil)<|R (m 11 1<|m 12 0<|m 13 5<|U 14 (.iad 2) [12,13]<|O 15 (.loadA 2) 14<|U 16 .callV [11,15]<|.nil)<|.cond (t 16) (R (M 17 5<|M 4 17<|.nil)<|.ret) (.skip)))<|.reg<|B 18 .add 8 1<|M 8 18<|.nil)))<|R (o 4 .mov [c (-1)] []<|.nil)<|.ret,true⟩
def p160:PFn:=⟨19,[.tmp 4],R (o 4 .mov [c 0] [4]<|.nil)<|.seq (R (o 6 .mov [t 0] [4]<|O 7 (.len 0) 6<|o 8 .mov [c 0] []<|.nil)<|.block 0 (.loop [0,1,7,8] [4] (R (b 9 .lss [t 8,t 7] []<|.nil)<|.seq (.cond (t 9) (.skip) (.exit 0))<|.seq (.block 1 (R (m 10 8<|M 5 10<|.nil)<|R (m 11 1<|m 12 0<|m 13 5<|U 14 (.iad 2) [12,13]<|O 15 (.loadA 2) 14<|U 16 .callV [11,15]<|.nil)<|.cond (t 16) (R (M 17 5<|M 4 17<|.nil)<|.ret) (.skip)))<|.reg<|B 18 .add 8 1<|M 8 18<|.nil)))<|R (o 4 .mov [c (-1)] []<|.nil)<|.ret,true⟩
def p161:PFn:=⟨19,[.tmp 4],R (o 4 .mov [c 0] [4]<|.nil)<|.seq (R (o 6 .mov [t 0] [4]<|O 7 (.len 0) 6<|o 8 .mov [c 0] []<|.nil)<|.block 0 (.loop [0,1,7,8] [4] (R (b 9 .lss [t 8,t 7] []<|.nil)<|.seq (.cond (t 9) (.skip) (.exit 0))<|.seq (.block 1 (R (m 10 8<|M 5 10<|.nil)<|R (m 11 1<|m 12 0<|m 13 5<|U 14 (.iad 13) [12,13]<|O 15 (.loadA 13) 14<|U 16 .callV [11,15]<|.nil)<|.cond (t 16) (R (M 17 5<|M 4 17<|.nil)<|.ret) (.skip)))<|.reg<|B 18 .add 8 1<|M 8 18<|.nil)))<|R (o 4 .mov [c (-1)] []<|.nil)<|.ret,true⟩
def p162:PFn:=⟨26,[.tmp 4],R (o 4 .mov [cf] [4]<|.nil)<|.seq (R (o 6 .mov [t 0] [4]<|O 7 (.len 0) 6<|m 8 1<|O 9 (.len 0) 8<|C 10 .neq 7 9<|.nil)<|.cond (t 10) (R (o 4 .mov [cf] []<|.nil)<|.ret) (.skip))<|.seq (R (m 11 0<|O 12 (.len 0) 11<|o 13 .mov [c 0] []<|.nil)<|.block 0 (.loop [0,1,12,13] [4] (R (b 14 .lss [t 13,t 12] []<|.nil)<|.seq (.cond (t 14) (.skip) (.exit 0))<|.seq (.block 1 (R (m 15 13<|M 5 15<|.nil)<|.seq (.regD 3 (m 16 0<|m 17 5<|U 18 (.iad 5) [16,17]<|O 19 (.loadA 5) 18<|m 20 1<|M 21 5<|U 22 (.iad 5) [20,21]<|O 23 (.loadA 5) 22<|U 24 (.eqA true [.i,.i,.i,.b,.i]) [19,23]<|.nil) [0,0,3,7,0,0,48,112,255])<|.cond (t 24) (R (o 4 .mov [cf] []<|.nil)<|.ret) (.skip)))<|.reg<|B 25 .add 13 1<|M 13 25<|.nil)))<|R (o 4 .mov [ct] []<|.nil)<|.ret,true⟩
def p163:PFn:=⟨26,[.tmp 4],R (o 4 .mov [cf] [4]<|.nil)<|.seq (R (o 6 .mov [t 0] [4]<|O 7 (.len 0) 6<|m 8 1<|O 9 (.len 0) 8<|C 10 .neq 7 9<|.nil)<|.cond (t 10) (R (o 4 .mov [cf] []<|.nil)<|.ret) (.skip))<|.seq (R (m 11 0<|O 12 (.len 0) 11<|o 13 .mov [c 0] []<|.nil)<|.block 0 (.loop [0,1,12,13] [4] (R (b 14 .lss [t 13,t 12] []<|.nil)<|.seq (.cond (t 14) (.skip) (.exit 0))<|.seq (.block 1 (R (m 15 13<|M 5 15<|.nil)<|.seq (.regD 3 (m 16 0<|m 17 5<|U 18 (.iad 5) [16,17]<|O 19 (.loadA 5) 18<|m 20 1<|M 21 5<|U 22 (.iad 5) [20,21]<|O 23 (.loadA 5) 22<|U 24 (.eqA true [.i,.i,.i,.i,.b]) [19,23]<|.nil) [0,0,3,7,0,0,48,112,255])<|.cond (t 24) (R (o 4 .mov [cf] []<|.nil)<|.ret) (.skip)))<|.reg<|B 25 .add 13 1<|M 13 25<|.nil)))<|R (o 4 .mov [ct] []<|.nil)<|.ret,true⟩
def p164:PFn:=⟨26,[.tmp 4],R (o 4 .mov [cf] [4]<|.nil)<|.seq (R (o 6 .mov [t 0] [4]<|O 7 (.len 0) 6<|m 8 1<|O 9 (.len 0) 8<|C 10 .neq 7 9<|.nil)<|.cond (t 10) (R (o 4 .mov [cf] []<|.nil)<|.ret) (.skip))<|.seq (R (m 11 0<|O 12 (.len 0) 11<|o 13 .mov [c 0] []<|.nil)<|.block 0 (.loop [0,1,12,13] [4] (R (b 14 .lss [t 13,t 12] []<|.nil)<|.seq (.cond (t 14) (.skip) (.exit 0))<|.seq (.block 1 (R (m 15 13<|M 5 15<|.nil)<|.seq (.regD 3 (m 16 0<|m 17 5<|U 18 (.iad 2) [16,17]<|O 19 (.loadA 2) 18<|m 20 1<|M 21 5<|U 22 (.iad 2) [20,21]<|O 23 (.loadA 2) 22<|U 24 (.eqA true [.s,.i]) [19,23]<|.nil) [0,0,3,7,0,0,48,112,255])<|.cond (t 24) (R (o 4 .mov [cf] []<|.nil)<|.ret) (.skip)))<|.reg<|B 25 .add 13 1<|M 13 25<|.nil)))<|R (o 4 .mov [ct] []<|.nil)<|.ret,true⟩
def p165:PFn:=⟨7,[.tmp 2],R (o 2 .mov [c 0] [2]<|.nil)<|.seq (R (o 3 .mov [t 0] [2]<|B 4 .lss 3 0<|.nil)<|.cond (t 4) (R (o 2 .mov [c 0] []<|.nil)<|.ret) (.skip))<|R (M 5 0<|B 6 .and 5 16<|M 2 6<|.nil)<|.ret,true⟩
def p166:PFn:=⟨17,[.tmp 2],R (O 1 (.box 81 5) 0<|o 2 .mov [c 0] [2]<|.nil)<|R (o 6 (.fad 0) [t 1] [2]<|O 7 (.loadA 3) 6<|O 8 (.callF 167) 7<|M 5 8<|e 9 0 5 []<|O 10 (.ext 1) 5<|o 3 .mov [t 9] [3,9]<|o 4 .mov [t 10] [3,10]<|.nil)<|R (M 11 4<|A 12 4 1<|L 13 12<|f 14 121 [t 13,c 2] [13]<|U 15 (.buildSl 36 1 2 [(J 0)] [0,1]) [11,14]<|O 16 (.callF 120) 15<|M 2 16<|.nil)<|.ret,true⟩
def p167:PFn:=⟨22,[.tmp 2,.tmp 3],R (O 1 (.box 79 3) 0<|o 2 .mov [c 0] [2]<|o 3 .mov [c 0] [2,3]<|.nil)<|R (o 7 (.loadA 3) [t 1] [1,3]<|O 8 (.callF 54) 7<|M 6 8<|e 9 0 6 []<|O 10 (.ext 1) 6<|M 4 9<|M 5 10<|.nil)<|.seq (R (M 11 5<|B 12 .neq 11 0<|M 13 12<|x 16 13 false (m 14 4<|B 15 .lss 14 0<|.nil) (t 15) [13]<|M 17 16<|x 20 17 false (m 18 4<|B 19 .gtr 18 127<|.nil) (t 19) [17]<|.nil)<|.cond (t 20) (R (o 2 .mov [c 0] []<|o 3 .mov [c 18] []<|.nil)<|.ret) (.skip))<|R (M 21 4<|M 2 21<|o 3 .mov [c 0] []<|.nil)<|.ret,true⟩
def p168:PFn:=⟨45,[.tmp 2],R (O 1 (.box 219 2) 0<|o 2 .mov [c 0] [2]<|.nil)<|.seq (.block 0 (R (o 5 (.fad 1) [t 1] [2]<|L 6 5<|B 7 .lss 6 0<|M 8 7<|x 12 8 false (a 9 1 1<|L 10 9<|B 11 .gtr 10 2<|.nil) (t 11) [8]<|M 4 12<|.nil)<|.cond (t 4) (R (o 2 .mov [c 2] []<|.nil)<|.ret) (R (a 14 0 1<|L 15 14<|O 16 (.len 1) 15<|B 17 .gtr 16 256<|M 13 17<|.nil)<|.cond (t 13) (R (o 2 .mov [c 5] []<|.nil)<|.ret) (.skip))))<|.seq (R (a 18 0 1<|L 19 18<|O 20 (.len 1) 19<|o 21 .mov [c 0] []<|.nil)<|.block 1 (.loop [1,20,21] [1,2] (R (b 22 .lss [t 21,t 20] []<|.nil)<|.seq (.cond (t 22) (.skip) (.exit 1))<|.seq (.block 2 (R (m 23 21<|M 3 23<|.nil)<|R (a 24 0 1<|L 25 24<|m 26 3<|U 27 .idxStr [25,26]<|b 28 .lss [t 27,.c (.v (.int .u8 32))] [27]<|M 29 28<|x 35 29 false (a 30 0 1<|L 31 30<|M 32 3<|U 33 .idxStr [31,32]<|b 34 .eql [t 33,.c (.v (.int .u8 127))] [33]<|.nil) (t 34) [3,29]<|.nil)<|.cond (t 35) (R (o 2 .mov [c 6] []<|.nil)<|.ret) (.skip)))<|.reg<|B 36 .add 21 1<|M 21 36<|.nil)))<|.seq (R (a 37 0 1<|L 38 37<|b 39 .eql [t 38,.c (.v (.string ⟨#[]⟩))] [38]<|M 40 39<|x 44 40 true (A 41 1 1<|L 42 41<|B 43 .eql 42 1<|.nil) (t 43) [1,40]<|.nil)<|.cond (t 44) (R (o 2 .mov [c 3] []<|.nil)<|.ret) (.skip))<|R (o 2 .mov [c 0] []<|.nil)<|.ret,true⟩
def p169:PFn:=⟨6,[.tmp 2],R (O 1 (.box 219 2) 0<|o 2 .mov [cf] [2]<|.nil)<|R (o 3 (.loadA 2) [t 1] [1,2]<|U 4 (.build [ZS,(J 0)] []) []<|U 5 (.eqA false [.s,.i]) [3,4]<|M 2 5<|.nil)<|.ret,true⟩
def q173_13a:PC:=R (U 6 (.alloc 145 z7) []<|.sto (.store 7) [t 6,t 13] [13]<|.nil)<|.reg<|M 7 14<|.nil
def q173_13b:PC:=.block 1 (.seq (.regD 3 (M 15 7<|O 16 .nilc 15<|O 17 (.loadA 2) 16<|O 18 (.loadA 2) 3<|U 19 (.eqA false [.i,.i]) [17,18]<|.nil) [0,1,3,0,15])<|.cond (t 19) (R (O 20 (.loadA 7) 6<|.sto (.store 7) [t 4,t 20] [4,20]<|.sto (.store 1) [t 5,ct] [5]<|.nil)<|.ret) (.skip))
def p173:PFn:=⟨22,[.cellA 4 7,.cellS 5],R (O 2 (.box 44 6) 0<|O 3 (.box 25 2) 1<|U 4 (.alloc 145 z7) []<|U 5 (.alloc 4 [ZB]) []<|.nil)<|.seq (R (o 8 (.loadA 2) [t 3] []<|U 9 (.build z4 []) []<|U 10 (.eqA false [.i,.i]) [8,9]<|.nil)<|.cond (t 10) (R (U 11 (.build z7 []) []<|.sto (.store 7) [t 4,t 11] [11]<|.sto (.store 1) [t 5,cf] []<|.nil)<|.ret) (.skip))<|.seq (R (O 12 (.callF 109) 2<|.nil)<|.block 0 (.rangeF 22 [3,4,5] (t 12) [13,14] q173_13a q173_13b))<|R (U 21 (.build z7 []) []<|.sto (.store 7) [t 4,t 21] [21]<|.sto (.store 1) [t 5,cf] []<|.nil)<|.ret,true⟩
def p174:PFn:=⟨26,[.tmp 2],R (O 1 (.box 171 4) 0<|o 2 .mov [cf] [2]<|.nil)<|R (o 3 .mov [.c (.fn 183 [] [])] [2]<|.nil)<|R (m 4 3<|a 5 0 1<|L 6 5<|o 7 .callV [t 4,t 6,c 1023] [4,6]<|M 8 7<|x 13 8 true (m 9 3<|a 10 1 1<|L 11 10<|o 12 .callV [t 9,t 11,c 4398046511104] [9,11]<|.nil) (t 12) [8]<|M 14 13<|x 19 14 true (m 15 3<|a 16 2 1<|L 17 16<|o 18 .callV [t 15,t 17,c 127] [15,17]<|.nil) (t 18) [14]<|M 20 19<|x 25 20 true (M 21 3<|A 22 3 1<|L 23 22<|o 24 .callV [t 21,t 23,c 1] [21,23]<|.nil) (t 24) [1,3,20]<|M 2 25<|.nil)<|.ret,true⟩
def p175:PFn:=⟨9,[.tmp 2],R (o 2 .mov [cf] [2]<|.nil)<|R (o 3 .mov [t 0] [2]<|B 4 .eql 3 1<|M 5 4<|x 8 5 false (M 6 0<|B 7 .eql 6 7<|.nil) (t 7) [0,5]<|M 2 8<|.nil)<|.ret,true⟩
def p176:PFn:=⟨17,[.tmp 4],R (O 2 (.box 171 4) 0<|O 3 (.box 171 4) 1<|o 4 .mov [c 0] [4]<|.nil)<|.seq (.regD 3 (o 5 (.fad 0) [t 2] [4]<|L 6 5<|a 7 0 3<|L 8 7<|U 9 (.callF 11) [6,8]<|A 10 1 2<|L 11 10<|A 12 1 3<|L 13 12<|U 14 (.callF 11) [11,13]<|U 15 (.buildSl 3 1 2 [(J 0)] [0,1]) [9,14]<|O 16 (.callF 10) 15<|M 4 16<|.nil) [0,1,0,4,15,0,32,0,128,511,1023,2047,4095])<|.ret,true⟩
def p177:PFn:=⟨13,[.tmp 2],R (o 2 .mov [c 0] [2]<|.nil)<|.seq (R (o 3 .mov [t 0] [2]<|B 4 .lss 3 1<|M 5 4<|x 8 5 false (m 6 0<|B 7 .gtr 6 7<|.nil) (t 7) [5]<|.nil)<|.cond (t 8) (R (o 2 .mov [c 0] []<|.nil)<|.ret) (.skip))<|R (o 9 (.build z7 [(0,1),(1,1),(2,1),(3,1),(4,1),(5,1),(6,1)]) [c 1,c 2,c 2,c 4,c 4,c 6,c 7] []<|M 10 0<|B 11 .sub 10 1<|U 12 (.idxA 7 1 false) [9,11]<|M 2 12<|.nil)<|.ret,true⟩
def p178:PFn:=⟨19,[.tmp 4],R (O 2 (.box 173 9) 0<|O 3 (.box 173 9) 1<|o 4 .mov [cf] [4]<|.nil)<|R (o 5 (.fad 1) [t 2] [4]<|O 6 (.loadA 4) 5<|a 7 1 3<|O 8 (.loadA 4) 7<|U 9 (.callF 176) [6,8]<|B 10 .geq 9 0<|M 11 10<|x 18 11 true (A 12 5 2<|O 13 (.loadA 4) 12<|A 14 5 3<|O 15 (.loadA 4) 14<|U 16 (.callF 176) [13,15]<|B 17 .leq 16 0<|.nil) (t 17) [2,3,11]<|M 4 18<|.nil)<|.ret,true⟩
def p179:PFn:=⟨8,[.tmp 2],R (o 2 .mov [c 0] [2]<|.nil)<|.seq (.condL (cf) (R (o 3 .mov [t 0] [0,2]<|O 4 (.convI .u32) 3<|O 5 (.callF 184) 4<|M 2 5<|.nil)<|.ret) (.skip))<|R (o 6 .mov [t 0] [0,2]<|O 7 (.callF 185) 6<|M 2 7<|.nil)<|.ret,true⟩
def p180:PFn:=⟨9,[.tmp 3],R (O 2 (.box 75 22) 0<|o 3 .mov [cf] [3]<|.nil)<|R (o 4 (.fad 16) [t 2] [2,3]<|L 5 4<|L 6 1<|C 7 .and 5 6<|B 8 .neq 7 0<|M 3 8<|.nil)<|.ret,true⟩
def p181:PFn:=⟨15,[.tmp 2],R (O 1 (.box 92 2) 0<|o 2 .mov [cf] [2]<|.nil)<|R (o 3 (.fad 0) [t 1] [2]<|L 4 3<|O 5 (.len 0) 4<|B 6 .gtr 5 0<|M 7 6<|x 14 7 true (A 8 0 1<|L 9 8<|o 10 (.iad 13) [t 9,c 0] [9]<|A 11 2 10<|L 12 11<|B 13 .eql 12 3<|.nil) (t 13) [1,7]<|M 2 14<|.nil)<|.ret,true⟩
def p182:PFn:=⟨62,[.tmp 2,.tmp 3],R (O 1 (.box 92 2) 0<|o 2 .mov [cn] [2]<|o 3 .mov [c 0] [2,3]<|.nil)<|.seq (R (o 12 (.fad 0) [t 1] [3]<|L 13 12<|o 14 (.len 0) [t 13] []<|o 15 .mov [c 0] []<|.nil)<|.block 0 (.loop [1,13,14,15] [1,2,3] (R (b 16 .lss [t 15,t 14] []<|.nil)<|.seq (.cond (t 16) (.skip) (.exit 0))<|.seq (.block 1 (R (m 17 15<|o 18 (.iad 13) [t 13,t 15] []<|O 19 (.loadA 13) 18<|U 5 (.alloc 88 z10) []<|M 4 17<|.sto (.store 13) [t 5,t 19] [19]<|.nil)<|.seq (R (o 20 (.loadA 13) [t 5] []<|O 21 (.callF 75) 20<|M 6 21<|.nil)<|R (m 22 6<|B 23 .neq 22 0<|.nil)<|.cond (t 23) (R (M 24 6<|o 2 .mov [cn] []<|.lax 2 [some 1]<|M 3 24<|.nil)<|.ret) (.skip))<|R (A 25 2 5<|L 26 25<|B 27 .eql 26 3<|M 28 27<|x 37 28 true (M 29 4<|B 30 .gtr 29 0<|M 31 30<|x 36 31 false (a 32 0 1<|L 33 32<|O 34 (.len 0) 33<|B 35 .gtr 34 1<|.nil) (t 35) [31]<|.nil) (t 36) [4,28]<|.nil)<|.cond (t 37) (R (o 2 .mov [cn] []<|.lax 2 [some 1]<|o 3 .mov [c 11] []<|.nil)<|.ret) (.skip)))<|.reg<|B 38 .add 15 1<|M 15 38<|.nil)))<|R (a 39 0 1<|L 40 39<|O 41 (.callF 186) 40<|M 7 41<|.nil)<|R (a 43 1 1<|L 44 43<|m 45 7<|U 46 (.callF 187) [44,45]<|M 42 46<|e 47 0 42 []<|O 48 (.ext 1) 42<|M 8 47<|M 9 48<|.nil)<|.seq (R (m 49 9<|B 50 .neq 49 0<|.nil)<|.cond (t 50) (R (M 51 9<|o 2 .mov [cn] []<|.lax 2 [some 1]<|M 3 51<|.nil)<|.ret) (.skip))<|.seq (R (A 53 1 1<|L 54 53<|M 55 7<|U 56 (.callF 188) [54,55]<|M 52 56<|e 57 0 52 []<|O 58 (.ext 1) 52<|o 10 .mov [t 57] [10,57]<|o 11 .mov [t 58] [10,58]<|.nil)<|R (M 59 11<|B 60 .neq 59 0<|.nil)<|.cond (t 60) (R (o 2 .mov [cn] []<|.lax 2 [some 1]<|o 3 .mov [c 21] []<|.nil)<|.ret) (.skip))<|R (M 61 8<|M 2 61<|o 3 .mov [c 0] []<|.nil)<|.ret,true⟩
def p183:PFn:=⟨12,[.tmp 4],R (o 4 .mov [cf] [4]<|.nil)<|R (o 5 .mov [t 0] [4]<|B 6 .geq 5 0<|M 7 6<|x 11 7 true (M 8 0<|M 9 1<|C 10 .leq 8 9<|.nil) (t 10) [0,1,7]<|M 4 11<|.nil)<|.ret,true⟩
def p185:PFn:=⟨25,[.tmp 2],R (o 2 .mov [c 0] []<|.nil)<|.seq (R (m 3 0<|b 4 .geq [t 3,.c (.v (.int .u64 4294967296))] [3]<|.nil)<|.condJ [0,2] (t 4) (R (M 5 0<|b 6 .shr [t 5,.c (.v (.int .u64 32))] [5]<|M 0 6<|.nil)<|.reg<|o 2 .mov [c 32] []<|.nil) (.skip))<|.seq (R (m 7 0<|b 8 .geq [t 7,.c (.v (.int .u64 65536))] [7]<|.nil)<|.condJ [0,2] (t 8) (R (M 9 0<|b 10 .shr [t 9,.c (.v (.int .u64 16))] [9]<|M 0 10<|.nil)<|.reg<|M 11 2<|B 12 .add 11 16<|M 2 12<|.nil) (.skip))<|.seq (R (m 13 0<|b 14 .geq [t 13,.c (.v (.int .u64 256))] [13]<|.nil)<|.condJ [0,2] (t 14) (R (M 15 0<|b 16 .shr [t 15,.c (.v (.int .u64 8))] [15]<|M 0 16<|.nil)<|.reg<|M 17 2<|B 18 .add 17 8<|M 2 18<|.nil) (.skip))<|R (M 19 2<|M 20 0<|O 21 (.convI .u8) 20<|o 22 .idxStr [.c (.v (.string ⟨#[0,1,2,2,3,3,3,3,4,4,4,4,4,4,4,4,5,5,5,5,5,5,5,5,5,5,5,5,5,5,5,5,6,6,6,6,6,6,6,6,6,6,6,6,6,6,6,6,6,6,6,6,6,6,6,6,6,6,6,6,6,6,6,6,7,7,7,7,7,7,7,7,7,7,7,7,7,7,7,7,7,7,7,7,7,7,7,7,7,7,7,7,7,7,7,7,7,7,7,7,7,7,7,7,7,7,7,7,7,7,7,7,7,7,7,7,7,7,7,7,7,7,7,7,7,7,7,7,8,8,8,8,8,8,8,8,8,8,8,8,8,8,8,8,8,8,8,8,8,8,8,8,8,8,8,8,8,8,8,8,8,8,8,8,8,8,8,8,8,8,8,8,8,8,8,8,8,8,8,8,8,8,8,8,8,8,8,8,8,8,8,8,8,8,8,8,8,8,8,8,8,8,8,8,8,8,8,8,8,8,8,8,8,8,8,8,8,8,8,8,8,8,8,8,8,8,8,8,8,8,8,8,8,8,8,8,8,8,8,8,8,8,8,8,8,8,8,8,8,8,8,8,8,8,8,8]⟩)),t 21] [21]<|O 23 (.convI .i64) 22<|C 24 .add 19 23<|M 2 24<|.nil)<|.ret,true⟩
def p186:PFn:=⟨26,[.tmp 2],R (o 2 .mov [cn] [2]<|.nil)<|R (o 6 .mov [t 0] [2]<|O 7 (.len 0) 6<|o 8 (.mksl 3 1 8 [(.int .i64 0)]) [t 7,t 7] [7]<|M 3 8<|.nil)<|.seq (R (M 9 0<|o 10 (.len 0) [t 9] []<|o 11 .mov [c 0] []<|.nil)<|.block 0 (.loop [3,9,10,11] [3] (R (b 12 .lss [t 11,t 10] []<|.nil)<|.seq (.cond (t 12) (.skip) (.exit 0))<|.seq (.block 1 (R (m 13 11<|o 14 (.iad 13) [t 9,t 11] []<|O 15 (.loadA 13) 14<|U 5 (.alloc 88 z10) []<|M 4 13<|.sto (.store 13) [t 5,t 15] [15]<|.nil)<|.reg<|m 17 3<|M 18 4<|O 19 (.loadA 13) 5<|O 20 (.callF 189) 19<|M 16 20<|e 21 0 16 []<|e 22 1 16 [16,22]<|o 23 (.iad 1) [t 17,t 18] [17,18,22]<|.sto (.store 1) [t 23,t 21] [21,23]<|.nil))<|.reg<|B 24 .add 11 1<|M 11 24<|.nil)))<|R (M 25 3<|M 2 25<|.nil)<|.ret,true⟩
def p187:PFn:=⟨45,[.tmp 4,.tmp 5],R (o 4 .mov [cn] [4]<|o 5 .mov [c 0] [4,5]<|.nil)<|.seq (R (o 12 .mov [t 0] [5]<|m 13 1<|O 14 (.len 0) 13<|U 15 (.callF 190) [12,14]<|M 6 15<|.nil)<|R (m 16 6<|B 17 .neq 16 0<|.nil)<|.cond (t 17) (R (M 18 6<|o 4 .mov [cn] []<|.lax 4 [some 1]<|M 5 18<|.nil)<|.ret) (.skip))<|R (m 19 1<|O 20 (.len 0) 19<|o 21 (.mksl 3 1 8 [(.int .i64 0)]) [c 0,t 20] [20]<|M 7 21<|.nil)<|.seq (R (M 22 1<|o 23 (.len 0) [t 22] []<|o 24 .mov [c 0] []<|.nil)<|.block 0 (.loop [0,7,22,23,24] [4,5,7] (R (b 25 .lss [t 24,t 23] []<|.nil)<|.seq (.cond (t 25) (.skip) (.exit 0))<|.seq (.block 1 (R (m 26 24<|o 27 (.iad 1) [t 22,t 24] []<|L 28 27<|M 8 26<|M 9 28<|.nil)<|R (m 30 0<|M 31 8<|M 32 9<|U 33 (.callF 191) [30,31,32]<|M 29 33<|e 34 0 29 []<|O 35 (.ext 1) 29<|M 10 34<|M 11 35<|.nil)<|.seq (R (m 36 11<|B 37 .neq 36 0<|.nil)<|.cond (t 37) (R (M 38 11<|o 4 .mov [cn] []<|.lax 4 [some 1]<|M 5 38<|.nil)<|.ret) (.skip))<|.reg<|M 39 7<|M 40 10<|O 41 (.buildSl 3 1 1 [(J 0)] [0]) 40<|U 42 (.append 3 1 8 [(J 0)] false) [39,41]<|M 7 42<|.nil))<|.reg<|B 43 .add 24 1<|M 24 43<|.nil)))<|R (M 44 7<|M 4 44<|o 5 .mov [c 0] []<|.nil)<|.ret,true⟩
def p188:PFn:=⟨44,[.tmp 4,.tmp 5],R (o 4 .mov [cn] [4]<|o 5 .mov [c 0] [4,5]<|.nil)<|.seq (R (o 13 .mov [t 0] [5]<|m 14 1<|U 15 (.callF 187) [13,14]<|M 12 15<|e 16 0 12 []<|O 17 (.ext 1) 12<|o 6 .mov [t 16] [6,16]<|o 7 .mov [t 17] [6,17]<|.nil)<|R (m 18 7<|B 19 .neq 18 0<|.nil)<|.cond (t 19) (R (M 20 7<|o 4 .mov [cn] []<|.lax 4 [some 1]<|M 5 20<|.nil)<|.ret) (.skip))<|R (m 21 0<|O 22 (.len 0) 21<|o 23 (.mksl 3 1 8 [(.int .i64 0)]) [c 0,t 22] [22]<|M 8 23<|.nil)<|.seq (R (m 24 0<|O 25 (.len 0) 24<|o 26 .mov [c 0] []<|.nil)<|.block 0 (.loop [0,1,8,25,26] [4,5,8] (R (b 27 .lss [t 26,t 25] []<|.nil)<|.seq (.cond (t 27) (.skip) (.exit 0))<|.seq (.block 1 (R (m 28 26<|M 9 28<|.nil)<|R (m 30 0<|M 31 9<|m 32 1<|U 33 (.callF 192) [30,31,32]<|M 29 33<|e 34 0 29 []<|O 35 (.ext 1) 29<|M 10 34<|M 11 35<|.nil)<|.seq (R (M 36 11<|O 37 (.un .not) 36<|.nil)<|.cond (t 37) (R (o 4 .mov [cn] []<|.lax 4 [some 1]<|o 5 .mov [c 21] []<|.nil)<|.ret) (.skip))<|.reg<|M 38 8<|M 39 10<|O 40 (.buildSl 3 1 1 [(J 0)] [0]) 39<|U 41 (.append 3 1 8 [(J 0)] false) [38,40]<|M 8 41<|.nil))<|.reg<|B 42 .add 26 1<|M 26 42<|.nil)))<|R (M 43 8<|M 4 43<|o 5 .mov [c 0] []<|.nil)<|.ret,true⟩
def p189:PFn:=⟨20,[.tmp 2,.tmp 3],R (O 1 (.box 88 13) 0<|o 2 .mov [c 0] [2]<|o 3 .mov [c 0] [2,3]<|.nil)<|.seq (R (o 5 (.loadA 13) [t 1] [3]<|O 6 (.callF 75) 5<|M 4 6<|.nil)<|R (m 7 4<|B 8 .neq 7 0<|M 9 8<|x 13 9 false (a 10 2 1<|L 11 10<|B 12 .eql 11 3<|.nil) (t 12) [9]<|.nil)<|.cond (t 13) (R (M 14 4<|o 2 .mov [c 0] []<|M 3 14<|.nil)<|.ret) (.skip))<|R (A 15 3 1<|O 16 (.loadA 2) 15<|O 17 (.callF 193) 16<|e 18 0 17 []<|O 19 (.ext 1) 17<|M 2 18<|M 3 19<|.nil)<|.ret,true⟩
def p190:PFn:=⟨85,[.tmp 4],R (o 4 .mov [c 0] [4]<|.nil)<|.seq (R (o 9 .mov [t 1] [4]<|B 10 .lss 9 0<|M 11 10<|x 14 11 false (m 12 1<|B 13 .gtr 12 128<|.nil) (t 13) [11]<|.nil)<|.cond (t 14) (R (o 4 .mov [c 2] []<|.nil)<|.ret) (.skip))<|.seq (R (m 15 0<|O 16 (.len 0) 15<|B 17 .gtr 16 16<|.nil)<|.cond (t 17) (R (o 4 .mov [c 9] []<|.nil)<|.ret) (.skip))<|R (U 5 (.alloc 90 [ZN]) []<|.ownc 5 0 265 4 true<|.nil)<|R (O 18 (.mkfn (.func 194) 0) 5<|M 6 18<|.nil)<|.seq (R (m 19 0<|o 20 (.len 0) [t 19] []<|o 21 .mov [c 0] []<|.nil)<|.block 0 (.loop [0,1,6,19,20,21] [4] (R (b 22 .lss [t 21,t 20] []<|.nil)<|.seq (.cond (t 22) (.skip) (.exit 0))<|.seq (.block 1 (R (m 23 21<|o 24 (.iad 4) [t 19,t 21] []<|O 25 (.loadA 4) 24<|U 8 (.alloc 265 z12) []<|M 7 23<|.sto (.store 4) [t 8,t 25] [25]<|.nil)<|.seq (R (a 26 1 8<|L 27 26<|B 28 .lss 27 1<|M 29 28<|x 34 29 false (a 30 1 8<|L 31 30<|m 32 1<|C 33 .gtr 31 32<|.nil) (t 33) [29]<|M 35 34<|x 39 35 false (a 36 0 8<|L 37 36<|B 38 .lss 37 0<|.nil) (t 38) [35]<|M 40 39<|x 48 40 false (a 41 0 8<|L 42 41<|m 43 1<|a 44 1 8<|L 45 44<|C 46 .sub 43 45<|C 47 .gtr 42 46<|.nil) (t 47) [40]<|M 49 48<|x 54 49 false (a 50 2 8<|L 51 50<|O 52 (.callF 196) 51<|O 53 (.un .not) 52<|.nil) (t 53) [49]<|M 55 54<|x 60 55 false (a 56 3 8<|L 57 56<|O 58 (.callF 196) 57<|O 59 (.un .not) 58<|.nil) (t 59) [55]<|M 61 60<|x 67 61 false (a 62 2 8<|L 63 62<|a 64 3 8<|L 65 64<|C 66 .eql 63 65<|.nil) (t 66) [61]<|.nil)<|.cond (t 67) (R (o 4 .mov [c 2] []<|.nil)<|.ret) (.skip))<|.seq (.seq (.regD 3 (m 68 7<|B 69 .gtr 68 0<|M 70 69<|x 79 70 true (m 71 0<|M 72 7<|B 73 .sub 72 1<|U 74 (.iad 4) [71,73]<|O 75 (.loadA 4) 74<|o 76 (.loadA 4) [t 8] []<|U 77 (.callF 197) [75,76]<|B 78 .gtr 77 0<|.nil) (t 78) [7,70]<|.nil) [0,1,3,7,7,23,63,127,7,511,1023,2047])<|.cond (t 79) (R (o 4 .mov [c 25] []<|.nil)<|.ret) (.skip))<|R (m 80 6<|O 81 (.loadA 4) 8<|U 82 .callV [80,81]<|O 83 (.un .not) 82<|.nil)<|.cond (t 83) (R (o 4 .mov [c 21] []<|.nil)<|.ret) (.skip)))<|.reg<|B 84 .add 21 1<|M 21 84<|.nil)))<|R (o 4 .mov [c 0] []<|.nil)<|.ret,true⟩
def p191:PFn:=⟨33,[.tmp 6,.tmp 7],R (o 6 .mov [c 0] [6]<|o 7 .mov [c 0] [6,7]<|.nil)<|.seq (R (o 10 .mov [t 2] [7]<|B 11 .lss 10 0<|M 12 11<|x 15 12 false (m 13 2<|B 14 .gtr 13 7741440<|.nil) (t 14) [12]<|.nil)<|.cond (t 15) (R (o 6 .mov [c 0] []<|o 7 .mov [c 2] []<|.nil)<|.ret) (.skip))<|R (M 17 0<|M 18 1<|U 19 (.callF 198) [17,18]<|M 16 19<|e 20 0 16 []<|O 21 (.ext 1) 16<|M 8 20<|M 9 21<|.nil)<|.seq (R (m 22 2<|m 23 8<|C 24 .mul 22 23<|m 25 9<|C 26 .rem 24 25<|B 27 .neq 26 0<|.nil)<|.cond (t 27) (R (o 6 .mov [c 0] []<|o 7 .mov [c 16] []<|.nil)<|.ret) (.skip))<|R (M 28 2<|M 29 8<|C 30 .mul 28 29<|M 31 9<|C 32 .quo 30 31<|M 6 32<|o 7 .mov [c 0] []<|.nil)<|.ret,true⟩
def p192:PFn:=⟨57,[.tmp 6,.tmp 7],R (o 6 .mov [c 0] [6]<|o 7 .mov [cf] [6,7]<|.nil)<|R (o 14 .mov [t 0] [7]<|m 15 1<|U 16 (.iad 4) [14,15]<|O 17 (.loadA 4) 16<|U 8 (.alloc 265 z12) []<|.sto (.store 4) [t 8,t 17] [17]<|.nil)<|R (o 9 .mov [c 0] []<|.nil)<|.seq (R (a 18 0 8<|L 19 18<|M 10 19<|.nil)<|.block 0 (.loop [0,1,2,8,9,10] [6,7,8,9] (.seq (R (m 20 10<|o 21 (.loadA 4) [t 8] []<|O 22 (.callF 195) 21<|C 23 .lss 20 22<|.nil)<|.cond (t 23) (.skip) (.exit 0))<|.seq (.block 1 (.seq (.regD 3 (m 27 0<|m 28 1<|B 29 .add 28 1<|U 30 (.slc 4 true false false) [27,29]<|m 31 10<|m 32 2<|m 33 10<|U 34 (.iad 1) [32,33]<|L 35 34<|U 36 (.callF 191) [30,31,35]<|M 26 36<|e 37 0 26 []<|O 38 (.ext 1) 26<|M 11 37<|M 12 38<|.nil) [0,0,2,7,0,0,0,96,224,511,1023,2047,2047,4095,16383])<|.seq (R (M 39 12<|B 40 .neq 39 0<|.nil)<|.cond (t 40) (R (o 6 .mov [c 0] []<|o 7 .mov [cf] []<|.nil)<|.ret) (.skip))<|.reg<|M 41 9<|M 42 11<|C 43 .add 41 42<|M 9 43<|.nil))<|.reg<|M 24 10<|B 25 .add 24 1<|M 10 25<|.nil)))<|.seq (R (o 13 .mov [c (-1)] []<|.nil)<|.block 2 (.loop [8,9,13] [6,7] (.seq (R (m 44 13<|B 45 .leq 44 8<|.nil)<|.cond (t 45) (.skip) (.exit 2))<|.seq (.block 3 (.seq (.regD 3 (m 48 9<|a 49 2 8<|L 50 49<|m 51 13<|B 52 .add 51 1<|b 53 .shr [c 3870720,t 52] [52]<|C 54 .mul 50 53<|C 55 .eql 48 54<|.nil) [0,0,2,0,8,24,62,127])<|.cond (t 55) (R (M 56 13<|M 6 56<|o 7 .mov [ct] []<|.nil)<|.ret) (.skip)))<|.reg<|M 46 13<|B 47 .add 46 1<|M 13 47<|.nil)))<|R (o 6 .mov [c 0] []<|o 7 .mov [cf] []<|.nil)<|.ret,true⟩
def p193:PFn:=⟨12,[.tmp 2,.tmp 3],R (O 1 (.box 84 2) 0<|o 2 .mov [c 0] [2]<|o 3 .mov [c 0] [2,3]<|.nil)<|.seq (R (o 5 (.loadA 2) [t 1] [3]<|O 6 (.callF 125) 5<|M 4 6<|.nil)<|R (m 7 4<|B 8 .neq 7 0<|.nil)<|.cond (t 8) (R (M 9 4<|o 2 .mov [c 0] []<|M 3 9<|.nil)<|.ret) (.skip))<|R (O 10 (.loadA 2) 1<|O 11 (.callF 199) 10<|M 2 11<|o 3 .mov [c 0] []<|.nil)<|.ret,true⟩
def p194:PFn:=⟨48,[.tmp 3],R (O 2 (.box 265 4) 0<|o 3 .mov [cf] [3]<|.nil)<|.seq (.block 0 (.loop [1,2] [1,2] (.seq (.seq (.regD 3 (o 5 .loadS [t 1] []<|O 6 (.len 0) 5<|B 7 .gtr 6 0<|M 8 7<|x 19 8 true (o 9 .loadS [t 1] []<|o 10 .loadS [t 1] []<|O 11 (.len 0) 10<|B 12 .sub 11 1<|U 13 (.iad 4) [9,12]<|O 14 (.loadA 4) 13<|O 15 (.callF 195) 14<|a 16 0 2<|L 17 16<|C 18 .leq 15 17<|.nil) (t 18) [8]<|.nil) [0,1,3,7,15,15,47,111,255,511,1023,15,2063,8191,16383])<|.cond (t 19) (.skip) (.exit 0))<|.block 1 (.reg<|o 20 .loadS [t 1] []<|o 21 .loadS [t 1] []<|O 22 (.len 0) 21<|B 23 .sub 22 1<|U 24 (.slc 4 false true false) [20,23]<|.sto (.store 1) [t 1,t 24] [24]<|.nil))))<|.seq (R (o 25 .loadS [t 1] []<|O 26 (.len 0) 25<|M 4 26<|.nil)<|.seq (.regD 3 (m 27 4<|B 28 .eql 27 3<|M 29 28<|x 43 29 false (m 30 4<|B 31 .gtr 30 0<|M 32 31<|x 42 32 true (o 33 (.loadA 4) [t 2] []<|O 34 (.callF 195) 33<|o 35 .loadS [t 1] []<|M 36 4<|B 37 .sub 36 1<|U 38 (.iad 4) [35,37]<|O 39 (.loadA 4) 38<|O 40 (.callF 195) 39<|C 41 .gtr 34 40<|.nil) (t 41) [4,32]<|.nil) (t 42) [4,29]<|.nil) [0,1,3,7,15,31,63,127,63,63,575,1855,3903,8191,16383,32767,65535])<|.cond (t 43) (R (o 3 .mov [cf] []<|.nil)<|.ret) (.skip))<|R (o 44 .loadS [t 1] []<|O 45 (.loadA 4) 2<|O 46 (.buildSl 265 4 1 z12 [0]) 45<|U 47 (.append 265 4 32 z12 false) [44,46]<|.sto (.store 1) [t 1,t 47] [1,47]<|.nil)<|R (o 3 .mov [ct] []<|.nil)<|.ret,true⟩
def p195:PFn:=⟨8,[.tmp 2],R (O 1 (.box 265 4) 0<|o 2 .mov [c 0] [2]<|.nil)<|R (o 3 (.fad 0) [t 1] [2]<|L 4 3<|A 5 1 1<|L 6 5<|C 7 .add 4 6<|M 2 7<|.nil)<|.ret,true⟩
def p196:PFn:=⟨9,[.tmp 2],R (o 2 .mov [cf] [2]<|.nil)<|R (o 3 .mov [t 0] [2]<|B 4 .geq 3 1<|M 5 4<|x 8 5 true (M 6 0<|B 7 .leq 6 32<|.nil) (t 7) [0,5]<|M 2 8<|.nil)<|.ret,true⟩
def p197:PFn:=⟨25,[.tmp 4],R (O 2 (.box 265 4) 0<|O 3 (.box 265 4) 1<|o 4 .mov [c 0] [4]<|.nil)<|.seq (R (o 5 (.fad 0) [t 2] [4]<|L 6 5<|a 7 0 3<|L 8 7<|C 9 .neq 6 8<|.nil)<|.cond (t 9) (.seq (R (A 10 0 2<|L 11 10<|A 12 0 3<|L 13 12<|C 14 .lss 11 13<|.nil)<|.cond (t 14) (R (o 4 .mov [c (-1)] []<|.nil)<|.ret) (.skip))<|R (o 4 .mov [c 1] []<|.nil)<|.ret) (.skip))<|.seq (R (a 15 1 2<|L 16 15<|a 17 1 3<|L 18 17<|C 19 .neq 16 18<|.nil)<|.cond (t 19) (.seq (R (A 20 1 2<|L 21 20<|A 22 1 3<|L 23 22<|C 24 .gtr 21 23<|.nil)<|.cond (t 24) (R (o 4 .mov [c (-1)] []<|.nil)<|.ret) (.skip))<|R (o 4 .mov [c 1] []<|.nil)<|.ret) (.skip))<|R (o 4 .mov [c 0] []<|.nil)<|.ret,true⟩
def p198:PFn:=⟨38,[.tmp 4,.tmp 5],R (o 4 .mov [c 0] [4]<|o 5 .mov [c 0] [4,5]<|.nil)<|R (o 4 .mov [c 1] [5]<|o 5 .mov [c 1] []<|.nil)<|.seq (R (M 9 0<|o 10 (.len 0) [t 9] []<|o 11 .mov [c 0] []<|.nil)<|.block 0 (.loop [1,4,5,9,10,11] [4,5] (R (b 12 .lss [t 11,t 10] []<|.nil)<|.seq (.cond (t 12) (.skip) (.exit 0))<|.seq (.block 1 (R (o 13 (.iad 4) [t 9,t 11] []<|O 14 (.loadA 4) 13<|U 7 (.alloc 265 z12) []<|.sto (.store 4) [t 7,t 14] [14]<|.nil)<|R (o 15 (.loadA 4) [t 7] []<|m 16 1<|U 17 (.callF 200) [15,16]<|.nil)<|.condJ [1,4,5,9,10,11] (t 17) (.seq (.regD 3 (M 18 4<|a 19 3 7<|L 20 19<|C 21 .mul 18 20<|M 22 5<|A 23 2 7<|L 24 23<|C 25 .mul 22 24<|M 4 21<|M 5 25<|.nil) [0,0,2,7,0,0,32,112,15,511])<|R (m 26 4<|m 27 5<|U 28 (.callF 201) [26,27]<|M 8 28<|.nil)<|.regD 3 (M 29 4<|m 30 8<|C 31 .quo 29 30<|M 32 5<|M 33 8<|C 34 .quo 32 33<|M 4 31<|M 5 34<|.nil) [0,0,3,0,0,24,7,127]) (.skip)))<|.reg<|B 35 .add 11 1<|M 11 35<|.nil)))<|R (M 36 4<|M 37 5<|M 4 36<|M 5 37<|.nil)<|.ret,true⟩
def p199:PFn:=⟨21,[.tmp 2],R (O 1 (.box 84 2) 0<|o 2 .mov [c 0] [2]<|.nil)<|R (o 5 (.fad 0) [t 1] [2]<|L 6 5<|B 7 .add 6 1<|b 8 .shr [c 3870720,t 7] [7]<|M 3 8<|.nil)<|R (m 9 3<|M 4 9<|.nil)<|.seq (R (A 10 1 1<|L 11 10<|o 12 .mov [c 0] []<|.nil)<|.block 0 (.loop [3,4,11,12] [4] (R (b 13 .lss [t 12,t 11] []<|.nil)<|.seq (.cond (t 13) (.skip) (.exit 0))<|.seq (.block 1 (R (M 14 3<|B 15 .quo 14 2<|M 3 15<|.nil)<|.reg<|M 16 4<|m 17 3<|C 18 .add 16 17<|M 4 18<|.nil))<|.reg<|B 19 .add 12 1<|M 12 19<|.nil)))<|R (M 20 4<|M 2 20<|.nil)<|.ret,true⟩
def p200:PFn:=⟨18,[.tmp 4],R (O 2 (.box 265 4) 0<|o 4 .mov [cf] [4]<|.nil)<|R (o 5 .mov [t 1] [4]<|a 6 0 2<|L 7 6<|C 8 .geq 5 7<|M 9 8<|x 17 9 true (M 10 1<|a 11 0 2<|L 12 11<|C 13 .sub 10 12<|A 14 1 2<|L 15 14<|C 16 .lss 13 15<|.nil) (t 16) [1,2,9]<|M 4 17<|.nil)<|.ret,true⟩
def p201:PFn:=⟨12,[.tmp 4],R (o 4 .mov [c 0] [4]<|.nil)<|.seq (.block 0 (.loop [0,1] [0] (.seq (R (m 5 1<|B 6 .gtr 5 0<|.nil)<|.cond (t 6) (.skip) (.exit 0))<|.block 1 (.regD 3 (m 7 1<|M 8 0<|M 9 1<|C 10 .rem 8 9<|M 0 7<|M 1 10<|.nil) [0,0,0,6,3,31]))))<|R (M 11 0<|M 4 11<|.nil)<|.ret,true⟩
end
noncomputable section
def pl:List (Option PFn):=[none,none,none,some p3,some p4,some p5,some p6,none,some p8,some p9,some p10,some p11,none,none,none,none,some p16,some p17,some p18,some p19,none,some p21,some p22,none,none,some p25,some p26,some p27,some p28,some p29,none,none,some p32,some p33,some p34,some p35,some p36,some p37,some p38,some p39,some p40,some p41,some p42,some p43,some p44,some p45,some p46,some p47,some p48,some p49,some p50,some p51,none,some p53,some p54,some p55,some p56,some p57,some p58,some p59,some p60,some p61,some p62,some p63,some p64,some p65,some p66,some p67,some p68,some p69,some p70,some p71,some p72,some p73,some p74,some p75,some p76,some p77,some p78,some p79,some p80,some p81,some p82,some p83,some p84,some p85,some p86,some p87,some p88,some p89,some p90,some p91,some p92,some p93,some p94,some p95,some p96,some p97,some p98,some p99,some p100,some p101,some p102,some p103,some p104,some p105,some p106,some p107,some p108,some p109,some p110,some p111,some p112,some p113,some p114,some p115,some p116,some p117,some p118,some p119,some p120,some p121,some p122,some p123,some p124,some p125,some p126,some p127,some p128,some p129,some p130,some p131,some p132,some p133,some p134,some p135,some p136,some p137,some p138,some p139,some p140,some p141,some p142,some p143,some p144,some p145,some p146,some p147,some p148,some p149,some p150,some p151,some p152,some p153,some p154,some p155,some p156,some p157,some p158,some p159,some p160,some p161,some p162,some p163,some p164,some p165,some p166,some p167,some p168,some p169,none,none,none,some p173,some p174,some p175,some p176,some p177,some p178,some p179,some p180,some p181,some p182,some p183,none,some p185,some p186,some p187,some p188,some p189,some p190,some p191,some p192,some p193,some p194,some p195,some p196,some p197,some p198,some p199,some p200,some p201]
def P40:PTab:=fun f=>bif Nat.beq f 56 then none else(pl[f]?).join
def NF40 (f:Nat):Bool:=mem f [9,16,17,25,26,27,32,33,34,35,36,37,38,39,40,41,42,43,44,45,46,47,48,49,50,55,56,57,64,70,73,87,89,106,109,155,157,194]
def NW1 (f:Nat):Bool:=mem f [9,16,17,25,32,89,109]
def clN:Nat->Option (Nat×Nat):=fun f=>none
structure Rc where
 G:Int->Int->Int->List aE->Option (List aE)
def RD [Inhabited Rc]:Rc:=default
abbrev RA:=Int×Int×Int×(List aE)
def rxs (q:RA):List PV:=[.own 2,i64 q.1,i64 q.2.1,i64 q.2.2.1,.fn 5 [] []]
def rhp (q:RA):Heap:=[(2,.lst 4294967323 9 false (List.map aE.g q.2.2.2))]
def rhr (q:RA) (a:List aE):Heap:=[(2,.lst 4294967323 9 false (List.map aE.g a))]
theorem rinj (a b:RA) (h1:rxs a=rxs b) (h2:rhp a=rhp b):a=b:=by
 obtain⟨d,a1,a2,a3⟩:=a
 obtain⟨e,b1,b2,b3⟩:=b
 simp only[rxs,i64,oV1,PV.v.injEq,Value.int.injEq,true_and,and_true]at h1
 simp only[rhp,oV1,mJ1,PObj.lst.injEq,true_and,and_true]at h2
 have c:=(List.map_inj_right (fun x y h=>by
  obtain⟨_,_,_,_,_,_,⟨_,_⟩,_⟩:=x;obtain⟨_,_,_,_,_,_,⟨_,_⟩,_⟩:=y
  simp[aE.g,i64]at h
  simp[h])).1 h2
 simp[h1,c]
def NW40 [Inhabited Rc]:NB:=⟨NW1,fB1 (kC clN) (pM 56 3 rxs rhp rhr fun q=>RD.G q.1 q.2.1 q.2.2.1 q.2.2.2)⟩
def cl40 (f e:Nat):Bool:=mem f [170,171,172]&&Nat.beq e (match f with|170=>5|171=>5|172=>2|_=>0)
def hd17 (t:Bool):List Zb:=[⟨⟨0,0,4⟩,t,0⟩]
def ev17 (n k l:Int) (h:List Zb):Ze:=⟨⟨1,n⟩,k,⟨l,0⟩,h,[],0,0,0,[],0,0⟩
def sc60:Z0:=⟨⟨#[]⟩,false,[⟨⟨1,1⟩,⟨#[97]⟩,⟨0,0⟩,[⟨⟨1,2⟩,1⟩]⟩],[⟨⟨1,3⟩,⟨4,4,⟨0,0,0,0,0,0⟩⟩,0,0,false,0,0,0,0,0,0,⟨#[]⟩,[],[⟨[],[⟨[ev17 4 1 1 (hd17 true),ev17 5 1 2 (hd17 false),ev17 6 2 2 []],[]⟩]⟩]⟩],[],[⟨1,6⟩]⟩
def tV {A:Type} (l:List A):Option (List A):=bif Nat.ble l.length 1073741824 then some l else none
def B40 (k:Bool):Orc:=fun f xs=>match xs with
 |[.is e rows]=>bif cl40 f e&&Nat.ble rows.length 1073741824 then some (.is e rows)else none
 |[]=>bif k&&Nat.beq f 7 then some (bv true)else none
 |_=>none
theorem okg [Inhabited Rc] {k:Bool} {d N:Nat} {ps:List Nat} {a b:PC} (h:okL NF40 N ps a b=true):okG (Xd (B40 k) NF40 NW40 P40 d).is N ps a b=some ():=by
 unfold okG
 rw[show(Xd (B40 k) NF40 NW40 P40 d).is=NF40 from bY1 d,mA1 h]
noncomputable abbrev OD [Inhabited Rc] (k:Bool) (d:Nat):Orc:=Od (B40 k) NF40 NW40 P40 d
noncomputable abbrev XD [Inhabited Rc] (k:Bool) (d:Nat):NX:=Xd (B40 k) NF40 NW40 P40 d
theorem od [Inhabited Rc] {k:Bool} {f:Nat} {fn:PFn} (a:NF40 f=false) (h:P40 f=some fn) (b:fn.frz=true) {d:Nat} {xs:List PV}:OD k (d+1) f xs=rG (OD k d) (XD k d) fn xs some:=lJ1 a h b d xs
theorem od2 [Inhabited Rc] {k:Bool} {f:Nat} {fn:PFn} (a:NF40 f=false) (h:P40 f=some fn) (b:fn.frz=false) {d:Nat} {xs:List PV} {A:Type} {F:Option A} {enc:A->PV} (hg:∀y,gndP 4 (enc y)=false) (hb:rG (OD k d) (XD k d) fn xs some=F.map enc):OD k (d+1) f xs=F.map enc:=kR1 a h b d xs hg hb
theorem xd [Inhabited Rc] {k:Bool} {f:Nat} {fn:PFn} (h:P40 f=some fn) {d:Nat} {xs:List PV} {hs:Heap} {m:Nat} {nw:Bool}:runR (XD k (d+1)) f xs hs m nw=runK (OD k d) (XD k d) fn xs hs m (retK hs nw m):=lK1 h d xs hs m _
theorem yd [Inhabited Rc] {a:Bool} {k d:Nat} {xs:List PV} {hs:Heap} {m:Nat}:yldR (XD a (d+1)) k xs hs m=yldK (OD a d) (XD a d) k xs hs m (retK hs false m):=rfl
theorem kX [Inhabited Rc] {k:Bool} (f d:Nat) {A:Type} (e:Nat) (c:A->List PV) (l:List A) (h1:NF40 f=false) (h2:P40 f=none) (a:cl40 f e=true):OD k d f [.is e (l.map c)]=(tV l).map fun l=>.is e (l.map c):=by
 rw[OD,bZ1 h1 h2]
 unfold tV
 simp only[B40,a,Bool.true_and,oU1]
 cases Nat.ble l.length 1073741824<;>rfl
theorem kT1 [Inhabited Rc] (d:Nat):OD true d 7 []=(some true).map fun y=>bv y:=by
 rw[OD,bZ1 rfl rfl]
 rfl
theorem fI1:okL NF40 13 [7] q32_4a q32_4b=true:=by kernel_rfl
theorem kE:okL NF40 16 [7,8] q61_5a q61_5b=true:=by kernel_rfl
theorem fS:okL NF40 22 [13,14] q173_13a q173_13b=true:=by kernel_rfl
end
end Go.P
namespace Go.P
open Go.Sim (Ex OpK CK)
open K (I Q rq nq xq ck)
def F6 (a b:aE):Option Int:=
 (aP (E:=Int⊕Unit) (fun(c:Int)=>if decide (c<([a.On,a.Number,a.Part,a.Staff,a.Voice,a.Off,a.Event.Site,a.Event.Number,a.Head].length:Int))then(lidx [a.On,a.Number,a.Part,a.Staff,a.Voice,a.Off,a.Event.Site,a.Event.Number,a.Head] c).bind fun d=>(lnth [a.On,a.Number,a.Part,a.Staff,a.Voice,a.Off,a.Event.Site,a.Event.Number,a.Head] d).bind fun e=>(lidx [b.On,b.Number,b.Part,b.Staff,b.Voice,b.Off,b.Event.Site,b.Event.Number,b.Head] c).bind fun f=>(lnth [b.On,b.Number,b.Part,b.Staff,b.Voice,b.Off,b.Event.Site,b.Event.Number,b.Head] f).bind fun g=>if decide (e<g)then some (.inr (.inl (-1)))else(lidx [a.On,a.Number,a.Part,a.Staff,a.Voice,a.Off,a.Event.Site,a.Event.Number,a.Head] c).bind fun h=>(lnth [a.On,a.Number,a.Part,a.Staff,a.Voice,a.Off,a.Event.Site,a.Event.Number,a.Head] h).bind fun i=>(lidx [b.On,b.Number,b.Part,b.Staff,b.Voice,b.Off,b.Event.Site,b.Event.Number,b.Head] c).bind fun j=>(lnth [b.On,b.Number,b.Part,b.Staff,b.Voice,b.Off,b.Event.Site,b.Event.Number,b.Head] j).bind fun k=>if decide (i>k)then some (.inr (.inl 1))else some (.inl (w64 (c+1)))else some (.inr (.inr ()))) B64 0).bind fun l=>(match l with|.inl x20=>some x20|.inr _=>some 0)
theorem ok6 [Inhabited Rc] {k} (d) (a b:aE):OD k (d+1) 6 [.agg (aE.g a),.agg (aE.g b)]=(F6 a b).map (fun r=>i64 r):=by
 rw[od (fn:=p6) rfl rfl rfl]
 refine bo (aG (S:=Int) (enc:=fun e=>(Q [(5,.own 2),(6,.own 3),(7,i64 e)] [(3,.lst 3 1 false (I cI [b.On,b.Number,b.Part,b.Staff,b.Voice,b.Off,b.Event.Site,b.Event.Number,b.Head])),(2,.lst 3 1 false (I cI [a.On,a.Number,a.Part,a.Staff,a.Voice,a.Off,a.Event.Site,a.Event.Number,a.Head])),(1,.box (aE.g b)),(0,.box (aE.g a))])) (encE:=(fun|.inl l=>(rq [(4,i64 l)] [(3,.lst 3 1 false (I cI [b.On,b.Number,b.Part,b.Staff,b.Voice,b.Off,b.Event.Site,b.Event.Number,b.Head])),(2,.lst 3 1 false (I cI [a.On,a.Number,a.Part,a.Staff,a.Voice,a.Off,a.Event.Site,a.Event.Number,a.Head])),(1,.box (aE.g b)),(0,.box (aE.g a))])|.inr _=>(xq 0 [] [(3,.lst 3 1 false (I cI [b.On,b.Number,b.Part,b.Staff,b.Voice,b.Off,b.Event.Site,b.Event.Number,b.Head])),(2,.lst 3 1 false (I cI [a.On,a.Number,a.Part,a.Staff,a.Voice,a.Off,a.Event.Site,a.Event.Number,a.Head])),(1,.box (aE.g b)),(0,.box (aE.g a))]))) (fun e=>?_) B64 0) fun m=>?_
 refine bz (bL cI [a.On,a.Number,a.Part,a.Staff,a.Voice,a.Off,a.Event.Site,a.Event.Number,a.Head]) ?_
 refine io ?_ (lf rfl)
 refine bo (aK cI [a.On,a.Number,a.Part,a.Staff,a.Voice,a.Off,a.Event.Site,a.Event.Number,a.Head] _) fun n=>?_
 refine bo (aX (A:=Int) (c:=cI) (g:=fun f=>i64 f) (fun _=>rfl) [a.On,a.Number,a.Part,a.Staff,a.Voice,a.Off,a.Event.Site,a.Event.Number,a.Head] _) fun f=>?_
 refine bo (aK cI [b.On,b.Number,b.Part,b.Staff,b.Voice,b.Off,b.Event.Site,b.Event.Number,b.Head] _) fun o=>?_
 refine bo (aX (A:=Int) (c:=cI) (g:=fun h=>i64 h) (fun _=>rfl) [b.On,b.Number,b.Part,b.Staff,b.Voice,b.Off,b.Event.Site,b.Event.Number,b.Head] _) fun h=>?_
 refine io (lf rfl) ?_
 refine bo (aK cI [a.On,a.Number,a.Part,a.Staff,a.Voice,a.Off,a.Event.Site,a.Event.Number,a.Head] _) fun p=>?_
 refine bo (aX (A:=Int) (c:=cI) (g:=fun i=>i64 i) (fun _=>rfl) [a.On,a.Number,a.Part,a.Staff,a.Voice,a.Off,a.Event.Site,a.Event.Number,a.Head] _) fun i=>?_
 refine bo (aK cI [b.On,b.Number,b.Part,b.Staff,b.Voice,b.Off,b.Event.Site,b.Event.Number,b.Head] _) fun q=>?_
 refine bo (aX (A:=Int) (c:=cI) (g:=fun j=>i64 j) (fun _=>rfl) [b.On,b.Number,b.Part,b.Staff,b.Voice,b.Off,b.Event.Site,b.Event.Number,b.Head] _) fun j=>?_
 refine io (lf rfl) (lf rfl)
 rcases m with l|_
 exact lf rfl
 exact lf rfl
def F4 (a:List aE) (i:aE):Option (List aE):=
 (aP (E:=Int) (fun(c:Int)=>((if decide (c>0)then(lget a (w64 (c-1))).bind fun j=>(F6 j i).bind fun k=>some (decide (k>0))else some false:Option (Bool))).bind fun l=>if l then some (.inl (w64 (c-1)))else some (.inr c)) B64 (a.length:Int)).bind fun b=>(eY a 0 b).bind fun d=>(lapp false ([]:List aE) d).bind fun e=>(lapp false e [i]).bind fun f=>(eY a b ((a).length)).bind fun g=>(lapp false f g).bind fun h=>some h
theorem ok4 [Inhabited Rc] {k} (d) (b:List aE) (a:aE):OD k (d+2) 4 [.is 9 (I aE.g b),.agg (aE.g a)]=(F4 b a).map (fun o=>.is 9 (I aE.g o)):=by
 refine od2 (fn:=p4) rfl rfl rfl (fun _=>rfl) ?_
 refine bz lm ?_
 refine bo (aG (S:=Int) (enc:=fun l=>(Q [(0,.is 9 (I aE.g b)),(3,.ref 0 0),(5,i64 l)] [(0,.box (aE.g a))])) (encE:=(fun(c:Int)=>(xq 0 [(0,.is 9 (I aE.g b)),(3,.ref 0 0),(5,i64 c)] [(0,.box (aE.g a))]))) (fun l=>?_) B64 (b.length:Int)) fun c=>?_
 refine bo (e:=id) ?_ fun q=>?_
 refine io ?_ (lf rfl)
 refine bo rg fun n=>?_
 refine bo (ok6 d n a) fun p=>?_
 exact lf rfl
 refine io (lf rfl) (lf rfl)
 refine bo (eZ _ _ _ _) fun f=>?_
 refine bo (bD false aE.g ([]:List aE) f) fun h=>?_
 refine bo (bD false aE.g h [a]) fun i=>?_
 refine bo (kD _ _ _) fun j=>?_
 refine bo (bD false aE.g i j) fun m=>?_
 exact lf rfl
def F18 (a:Int):Option Bool:=
 some (a !=a)
theorem ok18 [Inhabited Rc] {k} (d) (a:Int):OD k (d+1) 18 [i64 a]=(F18 a).map (fun b=>bv b):=by
 rw[od (fn:=p18) rfl rfl rfl]
 exact lf rfl
def F11 (a b:Int):Option Int:=
 (F18 a).bind fun d=>(F18 b).bind fun c=>if d then if c then some 0 else some (-1)else if c then some 1 else if decide (a<b)then some (-1)else if decide (a>b)then some 1 else some 0
theorem ok11 [Inhabited Rc] {k} (d) (a b:Int):OD k (d+2) 11 [i64 a,i64 b]=(F11 a b).map (fun c=>i64 c):=by
 rw[od (fn:=p11) rfl rfl rfl]
 refine bo (ok18 d a) fun e=>?_
 refine bo (ok18 d b) fun f=>?_
 refine io ?_ ?_
 refine io (lf rfl) (lf rfl)
 refine io (lf rfl) ?_
 refine io (lf rfl) ?_
 refine io (lf rfl) (lf rfl)
def F10 (b:List Int):Option Int:=
 (aP (E:=Int⊕Unit) (fun(a:Int)=>if decide (a<(b.length:Int))then(lget b a).bind fun c=>if c !=0 then some (.inr (.inl c))else some (.inl (w64 (a+1)))else some (.inr (.inr ()))) B64 0).bind fun d=>(match d with|.inl x5=>some x5|.inr _=>some 0)
theorem ok10 [Inhabited Rc] {k} (d) (a:List Int):OD k (d+1) 10 [.is 1 (I cI a)]=(F10 a).map (fun f=>i64 f):=by
 rw[od (fn:=p10) rfl rfl rfl]
 refine bz lm ?_
 refine bo (aG (S:=Int) (enc:=fun b=>(Q [(3,i64 0),(6,.is 1 (I cI a)),(7,i64 (a.length:Int)),(8,i64 b)] [])) (encE:=(fun|.inl c=>(rq [(2,i64 c),(3,i64 0)] [])|.inr _=>(xq 0 [(3,i64 0)] []))) (fun b=>?_) B64 0) fun e=>?_
 refine io ?_ (lf rfl)
 refine bo rg fun g=>?_
 refine io (lf rfl) (lf rfl)
 rcases e with c|_
 exact lf rfl
 exact lf rfl
def F5 (a b:aE):Option Int:=
 (F11 a.On b.On).bind fun f=>(F11 a.Number b.Number).bind fun g=>(F11 a.Part b.Part).bind fun h=>(F11 a.Staff b.Staff).bind fun i=>(F11 a.Voice b.Voice).bind fun j=>(F11 a.Off b.Off).bind fun k=>(F11 a.Event.Site b.Event.Site).bind fun l=>(F11 a.Event.Number b.Event.Number).bind fun c=>(F11 a.Head b.Head).bind fun d=>(F10 [f,g,h,i,j,k,l,c,d]).bind fun e=>some e
theorem ok5 [Inhabited Rc] {k} (d) (a b:aE):OD k (d+3) 5 [.agg (aE.g a),.agg (aE.g b)]=(F5 a b).map (fun p=>i64 p):=by
 rw[od (fn:=p5) rfl rfl rfl]
 refine bo (ok11 d a.On b.On) fun h=>?_
 refine bo (ok11 d a.Number b.Number) fun i=>?_
 refine bo (ok11 d a.Part b.Part) fun j=>?_
 refine bo (ok11 d a.Staff b.Staff) fun l=>?_
 refine bo (ok11 d a.Voice b.Voice) fun m=>?_
 refine bo (ok11 d a.Off b.Off) fun n=>?_
 refine bo (ok11 d a.Event.Site b.Event.Site) fun o=>?_
 refine bo (ok11 d a.Event.Number b.Event.Number) fun c=>?_
 refine bo (ok11 d a.Head b.Head) fun e=>?_
 refine bo (ok10 (d+1) [h,i,j,l,m,n,o,c,e]) fun f=>?_
 exact lf rfl
def Fn17 (a:List aE):Option Unit:=
 some ()
theorem okn17 [Inhabited Rc] {k} (d) (a:List aE):runR (XD k (d+1)) 17 [.is 9 (I aE.g a)] [] 0 true=(Fn17 a).map (fun(_:Unit)=>((.fn 27 [] [.ref 0 0],[(0,.box [.is 9 (I aE.g a)])],1))):=by
 rw[xd (fn:=p17) rfl]
 exact lf rfl
def Fy32_4 (a:aE) (b:List aE):Option (List aE):=
 (lapp false b [a]).bind fun c=>some c
theorem oky32_4 [Inhabited Rc] {k} (d) (a:aE) (b:List aE):yldR (XD k (d+1)) 3 [.agg (aE.g a)] [(3,.loop 13 [(2,.ref 1 0)] [7] q32_4a q32_4b false none),(2,.lst 27 9 false (I aE.g b)),(1,.box [.own 2])] 4=(Fy32_4 a b).map (fun(c:List aE)=>((bv true,[(3,.loop 13 [(2,.ref 1 0)] [7] q32_4a q32_4b false none),(2,.lst 27 9 false (I aE.g c)),(1,.box [.own 2])],0))):=by
 rw[yd]
 refine bz (okg fI1) ?_
 refine bo (bD false aE.g b [a]) fun e=>?_
 exact lf rfl
def Fn27 (d b:List aE):Option (List aE):=
 (aP (E:=List aE) (fun(⟨a,c⟩:Int×(List aE))=>if decide (a<(b.length:Int))then(lget b a).bind fun e=>(Fy32_4 e c).bind fun f=>some (.inl ((w64 (a+1)),f))else some (.inr c)) B64 (0,d)).bind fun g=>some g
theorem okn27 [Inhabited Rc] {k} (d) (b a:List aE):runR (XD k (d+2)) 27 [.yld 3,.ref 0 0] [(3,.loop 13 [(2,.ref 1 0)] [7] q32_4a q32_4b false none),(2,.lst 27 9 false (I aE.g b)),(1,.box [.own 2]),(0,.box [.is 9 (I aE.g a)])] 4 false=(Fn27 b a).map (fun(c:List aE)=>((.tup [],[(3,.loop 13 [(2,.ref 1 0)] [7] q32_4a q32_4b false none),(2,.lst 27 9 false (I aE.g c)),(1,.box [.own 2]),(0,.box [.is 9 (I aE.g a)])],0))):=by
 rw[xd (fn:=p27) rfl]
 refine bz lm ?_
 refine bo (aG (S:=Int×(List aE)) (enc:=fun⟨f,e⟩=>(Q [(0,.yld 3),(5,.is 9 (I aE.g a)),(6,i64 (a.length:Int)),(7,i64 f)] [(3,.loop 13 [(2,.ref 1 0)] [7] q32_4a q32_4b false none),(2,.lst 27 9 false (I aE.g e)),(1,.box [.own 2]),(0,.box [.is 9 (I aE.g a)])])) (encE:=(fun(h:List aE)=>(xq 0 [] [(3,.loop 13 [(2,.ref 1 0)] [7] q32_4a q32_4b false none),(2,.lst 27 9 false (I aE.g h)),(1,.box [.own 2]),(0,.box [.is 9 (I aE.g a)])]))) (fun⟨f,e⟩=>?_) B64 (0,b)) fun h=>?_
 refine io ?_ (lf rfl)
 refine bo rg fun i=>?_
 refine bo (oky32_4 d i e) fun j=>?_
 exact lf rfl
 exact lf rfl
def Fn32 (a:List aE):Option (List aE):=
 (Fn27 [] a).bind fun b=>some b
theorem okn32 [Inhabited Rc] {k} (d) (a:List aE):runR (XD k (d+3)) 32 [.v (.slice none 0 0),.fn 27 [] [.ref 0 0]] [(0,.box [.is 9 (I aE.g a)])] 1 true=(Fn32 a).map (fun(b:List aE)=>((.own 2,[(2,.lst 27 9 false (I aE.g b)),(0,.box [.is 9 (I aE.g a)])],4))):=by
 rw[xd (fn:=p32) rfl]
 refine bo (okn27 d [] a) fun c=>?_
 exact lf rfl
def Fn25 (a:List aE):Option (List aE):=
 (Fn32 a).bind fun b=>some b
theorem okn25 [Inhabited Rc] {k} (d) (a:List aE):runR (XD k (d+4)) 25 [.fn 27 [] [.ref 0 0]] [(0,.box [.is 9 (I aE.g a)])] 1 true=(Fn25 a).map (fun(b:List aE)=>((.own 2,[(2,.lst 27 9 false (I aE.g b)),(0,.box [.is 9 (I aE.g a)])],4))):=by
 rw[xd (fn:=p25) rfl]
 refine bo (okn32 d a) fun c=>?_
 exact lf rfl
def Fn55 (u v:Int) (w:List aE):Option (List aE):=
 (aP (E:=List aE) (fun(⟨c,d⟩:Int×(List aE))=>if decide (c<v)then(aP (E:=List aE) (fun(⟨b,a⟩:Int×(List aE))=>((if decide (b>u)then(lidx a b).bind fun f=>(lnth a f).bind fun g=>(lidx a (w64 (b-1))).bind fun h=>(lnth a h).bind fun i=>(F5 g i).bind fun j=>some (decide (j<0))else some false:Option (Bool))).bind fun k=>if k then(lidx a (w64 (b-1))).bind fun l=>(lnth a l).bind fun m=>(lidx a b).bind fun n=>(lnth a n).bind fun o=>(lidx a b).bind fun p=>(lput a p (fun x=>m)).bind fun e=>(lidx e (w64 (b-1))).bind fun q=>(lput e q (fun y=>o)).bind fun r=>some (.inl ((w64 (b-1)),r))else some (.inr a)) B64 (c,d)).bind fun s=>some (.inl ((w64 (c+1)),s))else some (.inr d)) B64 ((w64 (u+1)),w)).bind fun t=>some t
theorem okn55 [Inhabited Rc] {k} (d) (o p:Int) (u:List aE):runR (XD k (d+4)) 55 [.own 2,i64 o,i64 p,.fn 5 [] []] [(2,.lst 4294967323 9 false (I aE.g u))] 3 false=(Fn55 o p u).map (fun(v:List aE)=>((.tup [],[(2,.lst 4294967323 9 false (I aE.g v))],0))):=by
 rw[xd (fn:=p55) rfl]
 refine bo (aG (S:=Int×(List aE)) (enc:=fun⟨l,n⟩=>(Q [(0,.own 2),(1,i64 o),(2,i64 p),(3,.fn 5 [] []),(8,i64 l)] [(2,.lst 4294967323 9 false (I aE.g n))])) (encE:=(fun(t:List aE)=>(xq 0 [] [(2,.lst 4294967323 9 false (I aE.g t))]))) (fun⟨l,n⟩=>?_) B64 ((w64 (o+1)),u)) fun t=>?_
 refine io ?_ (lf rfl)
 refine bo (aG (S:=Int×(List aE)) (enc:=fun⟨q,a⟩=>(Q [(0,.own 2),(1,i64 o),(2,i64 p),(3,.fn 5 [] []),(8,i64 l),(9,i64 q)] [(2,.lst 4294967323 9 false (I aE.g a))])) (encE:=(fun(s:List aE)=>(xq 2 [(0,.own 2),(1,i64 o),(2,i64 p),(3,.fn 5 [] []),(8,i64 l)] [(2,.lst 4294967323 9 false (I aE.g s))]))) (fun⟨q,a⟩=>?_) B64 (l,n)) fun s=>?_
 refine bo (e:=id) ?_ fun z=>?_
 refine io ?_ (lf rfl)
 refine bo (aK aE.g a _) fun w=>?_
 refine bo (bA (A:=aE) (c:=aE.g) (m:=9) (g:=fun b=>[i64 b.On,i64 b.Off,i64 b.Number,i64 b.Part,i64 b.Staff,i64 b.Voice,i64 b.Event.Site,i64 b.Event.Number,i64 b.Head]) (fun _=>⟨rfl,rfl⟩) (mD1 rfl) a _) fun b=>?_
 refine bo (aK aE.g a _) fun x=>?_
 refine bo (bA (A:=aE) (c:=aE.g) (m:=9) (g:=fun h=>[i64 h.On,i64 h.Off,i64 h.Number,i64 h.Part,i64 h.Staff,i64 h.Voice,i64 h.Event.Site,i64 h.Event.Number,i64 h.Head]) (fun _=>⟨rfl,rfl⟩) (mD1 rfl) a _) fun h=>?_
 refine bo (ok5 d b h) fun y=>?_
 exact lf rfl
 refine io ?_ (lf rfl)
 refine bo (aK aE.g a _) fun B=>?_
 refine bo (bA (A:=aE) (c:=aE.g) (m:=9) (g:=fun i=>[i64 i.On,i64 i.Off,i64 i.Number,i64 i.Part,i64 i.Staff,i64 i.Voice,i64 i.Event.Site,i64 i.Event.Number,i64 i.Head]) (fun _=>⟨rfl,rfl⟩) (mD1 rfl) a _) fun i=>?_
 refine bo (aK aE.g a _) fun C=>?_
 refine bo (bA (A:=aE) (c:=aE.g) (m:=9) (g:=fun j=>[i64 j.On,i64 j.Off,i64 j.Number,i64 j.Part,i64 j.Staff,i64 j.Voice,i64 j.Event.Site,i64 j.Event.Number,i64 j.Head]) (fun _=>⟨rfl,rfl⟩) (mD1 rfl) a _) fun j=>?_
 refine bo (aK aE.g a _) fun D=>?_
 refine bo (cX (A:=aE) (c:=aE.g) (m:=9) (f:=fun E=>i) (fun _=>⟨rfl,rfl⟩) (mD1 rfl) a _) fun r=>?_
 refine bo (aK aE.g r _) fun F=>?_
 refine bo (cX (A:=aE) (c:=aE.g) (m:=9) (f:=fun G=>j) (fun _=>⟨rfl,rfl⟩) (mD1 rfl) r _) fun H=>?_
 exact lf rfl
 exact lf rfl
 exact lf rfl
def Fn155 (l m p:Int) (q:List aE):Option (List aE):=
 (aP (E:=List aE) (fun(⟨b,a⟩:Int×(List aE))=>if decide (b<p)then(lidx a (w64 (m+b))).bind fun d=>(lnth a d).bind fun e=>(lidx a (w64 (l+b))).bind fun f=>(lnth a f).bind fun g=>(lidx a (w64 (l+b))).bind fun h=>(lput a h (fun n=>e)).bind fun c=>(lidx c (w64 (m+b))).bind fun i=>(lput c i (fun o=>g)).bind fun j=>some (.inl ((w64 (b+1)),j))else some (.inr a)) B64 (0,q)).bind fun k=>some k
theorem okn155 [Inhabited Rc] {k} (d) (l n p:Int) (q:List aE):runR (XD k (d+1)) 155 [.own 2,i64 l,i64 n,i64 p,.fn 5 [] []] [(2,.lst 4294967323 9 false (I aE.g q))] 3 false=(Fn155 l n p q).map (fun(o:List aE)=>((.tup [],[(2,.lst 4294967323 9 false (I aE.g o))],0))):=by
 rw[xd (fn:=p155) rfl]
 refine bo (aG (S:=Int×(List aE)) (enc:=fun⟨h,e⟩=>(Q [(0,.own 2),(1,i64 l),(2,i64 n),(3,i64 p),(10,i64 h)] [(2,.lst 4294967323 9 false (I aE.g e))])) (encE:=(fun(j:List aE)=>(xq 0 [] [(2,.lst 4294967323 9 false (I aE.g j))]))) (fun⟨h,e⟩=>?_) B64 (0,q)) fun j=>?_
 refine io ?_ (lf rfl)
 refine bo (aK aE.g e _) fun r=>?_
 refine bo (bA (A:=aE) (c:=aE.g) (m:=9) (g:=fun a=>[i64 a.On,i64 a.Off,i64 a.Number,i64 a.Part,i64 a.Staff,i64 a.Voice,i64 a.Event.Site,i64 a.Event.Number,i64 a.Head]) (fun _=>⟨rfl,rfl⟩) (mD1 rfl) e _) fun a=>?_
 refine bo (aK aE.g e _) fun s=>?_
 refine bo (bA (A:=aE) (c:=aE.g) (m:=9) (g:=fun b=>[i64 b.On,i64 b.Off,i64 b.Number,i64 b.Part,i64 b.Staff,i64 b.Voice,i64 b.Event.Site,i64 b.Event.Number,i64 b.Head]) (fun _=>⟨rfl,rfl⟩) (mD1 rfl) e _) fun b=>?_
 refine bo (aK aE.g e _) fun t=>?_
 refine bo (cX (A:=aE) (c:=aE.g) (m:=9) (f:=fun u=>a) (fun _=>⟨rfl,rfl⟩) (mD1 rfl) e _) fun i=>?_
 refine bo (aK aE.g i _) fun v=>?_
 refine bo (cX (A:=aE) (c:=aE.g) (m:=9) (f:=fun w=>b) (fun _=>⟨rfl,rfl⟩) (mD1 rfl) i _) fun x=>?_
 exact lf rfl
 exact lf rfl
def Fn106 (m c n:Int) (o:List aE):Option (List aE):=
 (aP (E:=Int×(List aE)) (fun(⟨a,b,d⟩:Int×Int×(List aE))=>if a !=b then((if decide (a>b)then(Fn155 (w64 (c-a)) c b d).bind fun f=>some ((w64 (a-b)),b,f)else(Fn155 (w64 (c-a)) (w64 ((w64 (c+b))-a)) a d).bind fun g=>some (a,(w64 (b-a)),g):Option (Int×Int×(List aE)))).bind fun⟨h,i,j⟩=>some (.inl (h,i,j))else some (.inr (a,d))) B64 ((w64 (c-m)),(w64 (n-c)),o)).bind fun⟨e,k⟩=>(Fn155 (w64 (c-e)) c e k).bind fun l=>some l
theorem okn106 [Inhabited Rc] {k} (d) (n b p:Int) (q:List aE):runR (XD k (d+2)) 106 [.own 2,i64 n,i64 b,i64 p,.fn 5 [] []] [(2,.lst 4294967323 9 false (I aE.g q))] 3 false=(Fn106 n b p q).map (fun(o:List aE)=>((.tup [],[(2,.lst 4294967323 9 false (I aE.g o))],0))):=by
 rw[xd (fn:=p106) rfl]
 refine bo (aG (S:=Int×Int×(List aE)) (enc:=fun⟨a,c,f⟩=>(Q [(0,.own 2),(2,i64 b),(4,.fn 5 [] []),(10,i64 a),(11,i64 c)] [(2,.lst 4294967323 9 false (I aE.g f))])) (encE:=(fun(⟨h,i⟩:Int×(List aE))=>(xq 0 [(0,.own 2),(2,i64 b),(4,.fn 5 [] []),(10,i64 h)] [(2,.lst 4294967323 9 false (I aE.g i))]))) (fun⟨a,c,f⟩=>?_) B64 ((w64 (b-n)),(w64 (p-b)),q)) fun⟨h,i⟩=>?_
 refine io ?_ (lf rfl)
 refine bo (e:=(fun(⟨j,l,m⟩:Int×Int×(List aE))=>(nq [(0,.own 2),(2,i64 b),(4,.fn 5 [] []),(10,i64 j),(11,i64 l)] [(2,.lst 4294967323 9 false (I aE.g m))]))) ?_ fun⟨j,l,m⟩=>?_
 refine io ?_ ?_
 refine bo (okn155 d (w64 (b-a)) b c f) fun r=>?_
 exact lf rfl
 refine bo (okn155 d (w64 (b-a)) (w64 ((w64 (b+c))-a)) a f) fun s=>?_
 exact lf rfl
 exact lf rfl
 refine bo (okn155 d (w64 (b-h)) b h i) fun t=>?_
 exact lf rfl
def Fn56r (rec:Int->Int->Int->List aE->Option (List aE)) (n c u:Int) (d:List aE):Option (List aE):=
 if(w64 (c-n))==1 then(aP (E:=Int) (fun(⟨l,q⟩:Int×Int)=>if decide (l<q)then(shrO .u64 (IntKind.wrap .u64 ((w64 (l+q)))) 1).bind fun r=>(lidx d (w64 (r))).bind fun K=>(lnth d K).bind fun L=>(lidx d n).bind fun M=>(lnth d M).bind fun N=>(F5 L N).bind fun O=>((if decide (O<0)then some ((w64 ((w64 (r))+1)),q)else some (l,(w64 (r))):Option (Int×Int))).bind fun⟨P,R⟩=>some (.inl (P,R))else some (.inr l)) B64 (c,u)).bind fun S=>(aP (E:=List aE) (fun(⟨i,e⟩:Int×(List aE))=>if decide (i<(w64 (S-1)))then(lidx e (w64 (i+1))).bind fun T=>(lnth e T).bind fun U=>(lidx e i).bind fun V=>(lnth e V).bind fun W=>(lidx e i).bind fun X=>(lput e X (fun e3=>U)).bind fun H=>(lidx H (w64 (i+1))).bind fun Y=>(lput H Y (fun e4=>W)).bind fun Z=>some (.inl ((w64 (i+1)),Z))else some (.inr e)) B64 (n,d)).bind fun a0=>some a0 else if(w64 (u-c))==1 then(aP (E:=Int) (fun(⟨m,s⟩:Int×Int)=>if decide (m<s)then(shrO .u64 (IntKind.wrap .u64 ((w64 (m+s)))) 1).bind fun t=>(lidx d c).bind fun b0=>(lnth d b0).bind fun b4=>(lidx d (w64 (t))).bind fun b5=>(lnth d b5).bind fun b6=>(F5 b4 b6).bind fun b7=>((if !(decide (b7<0))then some ((w64 ((w64 (t))+1)),s)else some (m,(w64 (t))):Option (Int×Int))).bind fun⟨b8,b9⟩=>some (.inl (b8,b9))else some (.inr m)) B64 (n,c)).bind fun d1=>(aP (E:=List aE) (fun(⟨j,f⟩:Int×(List aE))=>if decide (j>d1)then(lidx f (w64 (j-1))).bind fun d2=>(lnth f d2).bind fun d3=>(lidx f j).bind fun d4=>(lnth f d4).bind fun d5=>(lidx f j).bind fun d6=>(lput f d6 (fun e5=>d3)).bind fun J=>(lidx J (w64 (j-1))).bind fun d7=>(lput J d7 (fun e6=>d5)).bind fun d8=>some (.inl ((w64 (j-1)),d8))else some (.inr f)) B64 (c,d)).bind fun d9=>some d9 else(shrO .u64 (IntKind.wrap .u64 ((w64 (n+u)))) 1).bind fun b=>((if decide (c>(w64 (b)))then some ((w64 ((w64 ((w64 (b))+c))-u)),(w64 (b)))else some (n,c):Option (Int×Int))).bind fun⟨e0,e1⟩=>(aP (E:=Int) (fun(⟨g,k⟩:Int×Int)=>if decide (g<k)then(shrO .u64 (IntKind.wrap .u64 ((w64 (g+k)))) 1).bind fun h=>(lidx d (w64 ((w64 ((w64 ((w64 (b))+c))-1))-(w64 (h))))).bind fun v=>(lnth d v).bind fun w=>(lidx d (w64 (h))).bind fun x=>(lnth d x).bind fun y=>(F5 w y).bind fun z=>((if !(decide (z<0))then some ((w64 ((w64 (h))+1)),k)else some (g,(w64 (h))):Option (Int×Int))).bind fun⟨A,B⟩=>some (.inl (A,B))else some (.inr g)) B64 (e0,e1)).bind fun a=>((if(decide (a<c))&&(decide (c<(w64 ((w64 ((w64 (b))+c))-a))))then(Fn106 a c (w64 ((w64 ((w64 (b))+c))-a)) d).bind fun C=>some C else some d:Option (List aE))).bind fun o=>((if(decide (n<a))&&(decide (a<(w64 (b))))then(rec n a (w64 (b)) o).bind fun D=>some D else some o:Option (List aE))).bind fun p=>((if(decide ((w64 (b))<(w64 ((w64 ((w64 (b))+c))-a))))&&(decide ((w64 ((w64 ((w64 (b))+c))-a))<u))then(rec (w64 (b)) (w64 ((w64 ((w64 (b))+c))-a)) u p).bind fun F=>some F else some p:Option (List aE))).bind fun G=>some G
theorem hrec [Inhabited Rc] {k} (d) (a c e:Int) (f:List aE):runR (XD k (d+1)) 56 [.own 2,i64 a,i64 c,i64 e,.fn 5 [] []] [(2,.lst 4294967323 9 false (I aE.g f))] 3 false=(RD.G a c e f).map (fun(b:List aE)=>((.tup [],[(2,.lst 4294967323 9 false (I aE.g b))],0))):=by
 show(Xd (B40 k) NF40 NW40 P40 (d+1)).run 56 _ _ _ _=_
 rw[iK1 rfl]
 simp only[NW40,fB1]
 rw[show kC clN 56 _ _ _=none from rfl,show pM 56 3 rxs rhp rhr _ 56 [.own 2,i64 a,i64 c,i64 e,.fn 5 [] []] [(2,.lst 4294967323 9 false (I aE.g f))] 3=_ from cA1 rinj (a,c,e,f)]
 dsimp only
 cases RD.G a c e f
 .rfl
 .rfl
theorem lN1 [Inhabited Rc] {k} (d) (x o B:Int) (j:List aE):runK (OD k (d+3)) (XD k (d+3)) p56 [.own 2,i64 x,i64 o,i64 B,.fn 5 [] []] [(2,.lst 4294967323 9 false (I aE.g j))] 3 (retK [(2,.lst 4294967323 9 false (I aE.g j))] false 3)=(Fn56r RD.G x o B j).map (fun(N:List aE)=>((.tup [],[(2,.lst 4294967323 9 false (I aE.g N))],0))):=by
 refine io ?_ ?_
 refine bo (aG (S:=Int×Int) (enc:=fun⟨O,P⟩=>(Q [(0,.own 2),(1,i64 x),(4,.fn 5 [] []),(10,i64 O),(11,i64 P)] [(2,.lst 4294967323 9 false (I aE.g j))])) (encE:=(fun(J:Int)=>(xq 0 [(0,.own 2),(1,i64 x),(10,i64 J)] [(2,.lst 4294967323 9 false (I aE.g j))]))) (fun⟨O,P⟩=>?_) B64 (o,B)) fun J=>?_
 refine io ?_ (lf rfl)
 refine bo oi fun d4=>?_
 refine bo (aK aE.g j _) fun d5=>?_
 refine bo (bA (A:=aE) (c:=aE.g) (m:=9) (g:=fun l=>[i64 l.On,i64 l.Off,i64 l.Number,i64 l.Part,i64 l.Staff,i64 l.Voice,i64 l.Event.Site,i64 l.Event.Number,i64 l.Head]) (fun _=>⟨rfl,rfl⟩) (mD1 rfl) j _) fun l=>?_
 refine bo (aK aE.g j _) fun d6=>?_
 refine bo (bA (A:=aE) (c:=aE.g) (m:=9) (g:=fun n=>[i64 n.On,i64 n.Off,i64 n.Number,i64 n.Part,i64 n.Staff,i64 n.Voice,i64 n.Event.Site,i64 n.Event.Number,i64 n.Head]) (fun _=>⟨rfl,rfl⟩) (mD1 rfl) j _) fun n=>?_
 refine bo (ok5 d l n) fun d7=>?_
 refine bo (e:=(fun(⟨R,T⟩:Int×Int)=>(nq [(0,.own 2),(1,i64 x),(4,.fn 5 [] []),(10,i64 R),(11,i64 T)] [(2,.lst 4294967323 9 false (I aE.g j))]))) ?_ fun⟨R,T⟩=>?_
 refine io (lf rfl) (lf rfl)
 exact lf rfl
 refine bo (aG (S:=Int×(List aE)) (enc:=fun⟨U,v⟩=>(Q [(0,.own 2),(10,i64 J),(13,i64 U)] [(2,.lst 4294967323 9 false (I aE.g v))])) (encE:=(fun(W:List aE)=>(xq 2 [] [(2,.lst 4294967323 9 false (I aE.g W))]))) (fun⟨U,v⟩=>?_) B64 (x,j)) fun W=>?_
 refine io ?_ (lf rfl)
 refine bo (aK aE.g v _) fun d8=>?_
 refine bo (bA (A:=aE) (c:=aE.g) (m:=9) (g:=fun p=>[i64 p.On,i64 p.Off,i64 p.Number,i64 p.Part,i64 p.Staff,i64 p.Voice,i64 p.Event.Site,i64 p.Event.Number,i64 p.Head]) (fun _=>⟨rfl,rfl⟩) (mD1 rfl) v _) fun p=>?_
 refine bo (aK aE.g v _) fun d9=>?_
 refine bo (bA (A:=aE) (c:=aE.g) (m:=9) (g:=fun q=>[i64 q.On,i64 q.Off,i64 q.Number,i64 q.Part,i64 q.Staff,i64 q.Voice,i64 q.Event.Site,i64 q.Event.Number,i64 q.Head]) (fun _=>⟨rfl,rfl⟩) (mD1 rfl) v _) fun q=>?_
 refine bo (aK aE.g v _) fun e0=>?_
 refine bo (cX (A:=aE) (c:=aE.g) (m:=9) (f:=fun e1=>p) (fun _=>⟨rfl,rfl⟩) (mD1 rfl) v _) fun V=>?_
 refine bo (aK aE.g V _) fun e3=>?_
 refine bo (cX (A:=aE) (c:=aE.g) (m:=9) (f:=fun e4=>q) (fun _=>⟨rfl,rfl⟩) (mD1 rfl) V _) fun e5=>?_
 exact lf rfl
 exact lf rfl
 refine io ?_ ?_
 refine bo (aG (S:=Int×Int) (enc:=fun⟨X,Y⟩=>(Q [(0,.own 2),(2,i64 o),(4,.fn 5 [] []),(14,i64 X),(15,i64 Y)] [(2,.lst 4294967323 9 false (I aE.g j))])) (encE:=(fun(K:Int)=>(xq 4 [(0,.own 2),(2,i64 o),(14,i64 K)] [(2,.lst 4294967323 9 false (I aE.g j))]))) (fun⟨X,Y⟩=>?_) B64 (x,o)) fun K=>?_
 refine io ?_ (lf rfl)
 refine bo oi fun e6=>?_
 refine bo (aK aE.g j _) fun e7=>?_
 refine bo (bA (A:=aE) (c:=aE.g) (m:=9) (g:=fun r=>[i64 r.On,i64 r.Off,i64 r.Number,i64 r.Part,i64 r.Staff,i64 r.Voice,i64 r.Event.Site,i64 r.Event.Number,i64 r.Head]) (fun _=>⟨rfl,rfl⟩) (mD1 rfl) j _) fun r=>?_
 refine bo (aK aE.g j _) fun e8=>?_
 refine bo (bA (A:=aE) (c:=aE.g) (m:=9) (g:=fun s=>[i64 s.On,i64 s.Off,i64 s.Number,i64 s.Part,i64 s.Staff,i64 s.Voice,i64 s.Event.Site,i64 s.Event.Number,i64 s.Head]) (fun _=>⟨rfl,rfl⟩) (mD1 rfl) j _) fun s=>?_
 refine bo (ok5 d r s) fun e9=>?_
 refine bo (e:=(fun(⟨Z,a0⟩:Int×Int)=>(nq [(0,.own 2),(2,i64 o),(4,.fn 5 [] []),(14,i64 Z),(15,i64 a0)] [(2,.lst 4294967323 9 false (I aE.g j))]))) ?_ fun⟨Z,a0⟩=>?_
 refine io (lf rfl) (lf rfl)
 exact lf rfl
 refine bo (aG (S:=Int×(List aE)) (enc:=fun⟨b0,w⟩=>(Q [(0,.own 2),(14,i64 K),(17,i64 b0)] [(2,.lst 4294967323 9 false (I aE.g w))])) (encE:=(fun(b5:List aE)=>(xq 6 [] [(2,.lst 4294967323 9 false (I aE.g b5))]))) (fun⟨b0,w⟩=>?_) B64 (o,j)) fun b5=>?_
 refine io ?_ (lf rfl)
 refine bo (aK aE.g w _) fun f1=>?_
 refine bo (bA (A:=aE) (c:=aE.g) (m:=9) (g:=fun t=>[i64 t.On,i64 t.Off,i64 t.Number,i64 t.Part,i64 t.Staff,i64 t.Voice,i64 t.Event.Site,i64 t.Event.Number,i64 t.Head]) (fun _=>⟨rfl,rfl⟩) (mD1 rfl) w _) fun t=>?_
 refine bo (aK aE.g w _) fun f2=>?_
 refine bo (bA (A:=aE) (c:=aE.g) (m:=9) (g:=fun u=>[i64 u.On,i64 u.Off,i64 u.Number,i64 u.Part,i64 u.Staff,i64 u.Voice,i64 u.Event.Site,i64 u.Event.Number,i64 u.Head]) (fun _=>⟨rfl,rfl⟩) (mD1 rfl) w _) fun u=>?_
 refine bo (aK aE.g w _) fun f4=>?_
 refine bo (cX (A:=aE) (c:=aE.g) (m:=9) (f:=fun f5=>t) (fun _=>⟨rfl,rfl⟩) (mD1 rfl) w _) fun b4=>?_
 refine bo (aK aE.g b4 _) fun f6=>?_
 refine bo (cX (A:=aE) (c:=aE.g) (m:=9) (f:=fun f7=>u) (fun _=>⟨rfl,rfl⟩) (mD1 rfl) b4 _) fun f8=>?_
 exact lf rfl
 exact lf rfl
 refine bo oi fun a=>?_
 refine bo (e:=(fun(⟨L,M⟩:Int×Int)=>(nq [(0,.own 2),(1,i64 x),(2,i64 o),(3,i64 B),(4,.fn 5 [] []),(18,i64 (w64 (a))),(19,i64 (w64 ((w64 (a))+o))),(20,i64 L),(21,i64 M)] [(2,.lst 4294967323 9 false (I aE.g j))]))) ?_ fun⟨L,M⟩=>?_
 refine io (lf rfl) (lf rfl)
 refine bo (aG (S:=Int×Int) (enc:=fun⟨C,D⟩=>(Q [(0,.own 2),(1,i64 x),(2,i64 o),(3,i64 B),(4,.fn 5 [] []),(18,i64 (w64 (a))),(19,i64 (w64 ((w64 (a))+o))),(20,i64 C),(21,i64 D),(22,i64 (w64 ((w64 ((w64 (a))+o))-1)))] [(2,.lst 4294967323 9 false (I aE.g j))])) (encE:=(fun(i:Int)=>(xq 8 [(0,.own 2),(1,i64 x),(2,i64 o),(3,i64 B),(4,.fn 5 [] []),(18,i64 (w64 (a))),(19,i64 (w64 ((w64 (a))+o))),(20,i64 i)] [(2,.lst 4294967323 9 false (I aE.g j))]))) (fun⟨C,D⟩=>?_) B64 (L,M)) fun i=>?_
 refine io ?_ (lf rfl)
 refine bo oi fun b6=>?_
 refine bo (aK aE.g j _) fun b7=>?_
 refine bo (bA (A:=aE) (c:=aE.g) (m:=9) (g:=fun b=>[i64 b.On,i64 b.Off,i64 b.Number,i64 b.Part,i64 b.Staff,i64 b.Voice,i64 b.Event.Site,i64 b.Event.Number,i64 b.Head]) (fun _=>⟨rfl,rfl⟩) (mD1 rfl) j _) fun b=>?_
 refine bo (aK aE.g j _) fun b8=>?_
 refine bo (bA (A:=aE) (c:=aE.g) (m:=9) (g:=fun h=>[i64 h.On,i64 h.Off,i64 h.Number,i64 h.Part,i64 h.Staff,i64 h.Voice,i64 h.Event.Site,i64 h.Event.Number,i64 h.Head]) (fun _=>⟨rfl,rfl⟩) (mD1 rfl) j _) fun h=>?_
 refine bo (ok5 d b h) fun b9=>?_
 refine bo (e:=(fun(⟨E,F⟩:Int×Int)=>(nq [(0,.own 2),(1,i64 x),(2,i64 o),(3,i64 B),(4,.fn 5 [] []),(18,i64 (w64 (a))),(19,i64 (w64 ((w64 (a))+o))),(20,i64 E),(21,i64 F),(22,i64 (w64 ((w64 ((w64 (a))+o))-1)))] [(2,.lst 4294967323 9 false (I aE.g j))]))) ?_ fun⟨E,F⟩=>?_
 refine io (lf rfl) (lf rfl)
 exact lf rfl
 refine bz (gand rfl) ?_
 refine bo (e:=(fun(y:List aE)=>(nq [(0,.own 2),(1,i64 x),(3,i64 B),(4,.fn 5 [] []),(18,i64 (w64 (a))),(20,i64 i),(24,i64 (w64 ((w64 ((w64 (a))+o))-i)))] [(2,.lst 4294967323 9 false (I aE.g y))]))) ?_ fun y=>?_
 refine io ?_ (lf rfl)
 refine bo (okn106 (d+1) i o (w64 ((w64 ((w64 (a))+o))-i)) j) fun d1=>?_
 exact lf rfl
 refine bz (gand rfl) ?_
 refine bo (e:=(fun(z:List aE)=>(nq [(0,.own 2),(3,i64 B),(4,.fn 5 [] []),(18,i64 (w64 (a))),(24,i64 (w64 ((w64 ((w64 (a))+o))-i)))] [(2,.lst 4294967323 9 false (I aE.g z))]))) ?_ fun z=>?_
 refine io ?_ (lf rfl)
 refine bo (hrec (d+2) x i (w64 (a)) y) fun d2=>?_
 exact lf rfl
 refine bz (gand rfl) ?_
 refine bo (e:=(fun(H:List aE)=>(nq [] [(2,.lst 4294967323 9 false (I aE.g H))]))) ?_ fun H=>?_
 refine io ?_ (lf rfl)
 refine bo (hrec (d+2) (w64 (a)) (w64 ((w64 ((w64 (a))+o))-i)) B z) fun d3=>?_
 exact lf rfl
 exact lf rfl
def Gsym:Nat->Int->Int->Int->List aE->Option (List aE)
 |0=>fun _ _ _ _=>none
 |k+1=>Fn56r (Gsym k)
def Fn56:Int->Int->Int->List aE->Option (List aE):=Gsym 64
instance:Inhabited Rc:=⟨⟨Fn56⟩⟩
theorem okn56 {k} (d) (b c e:Int) (f:List aE):runR (XD k (d+4)) 56 [.own 2,i64 b,i64 c,i64 e,.fn 5 [] []] [(2,.lst 4294967323 9 false (I aE.g f))] 3 false=(Fn56 b c e f).map (fun(a:List aE)=>((.tup [],[(2,.lst 4294967323 9 false (I aE.g a))],0))):=hrec (d+3) b c e f
def Fn33 (e:Int) (q:List aE):Option (List aE):=
 (aP (E:=Int×(List aE)) (fun(⟨o,i,p⟩:Int×Int×(List aE))=>if decide (i<=e)then(Fn55 o i p).bind fun r=>some (.inl (i,(w64 (i+20)),r))else some (.inr (o,p))) B64 (0,20,q)).bind fun⟨s,t⟩=>(Fn55 s e t).bind fun j=>(aP (E:=List aE) (fun(⟨a,f⟩:Int×(List aE))=>if decide (a<e)then(aP (E:=Int×(List aE)) (fun(⟨c,b,g⟩:Int×Int×(List aE))=>if decide (b<=e)then(Fn56 c (w64 (c+a)) b g).bind fun k=>some (.inl (b,(w64 (b+(w64 (2*a)))),k))else some (.inr (c,g))) B64 (0,(w64 (2*a)),f)).bind fun⟨d,h⟩=>((if decide ((w64 (d+a))<e)then(Fn56 d (w64 (d+a)) e h).bind fun l=>some l else some h:Option (List aE))).bind fun m=>some (.inl ((w64 (a*2)),m))else some (.inr f)) B64 (20,j)).bind fun n=>some n
theorem okn33 {k} (d) (b:Int) (p:List aE):runR (XD k (d+5)) 33 [.own 2,i64 b,.fn 5 [] []] [(2,.lst 4294967323 9 false (I aE.g p))] 3 false=(Fn33 b p).map (fun(q:List aE)=>((.tup [],[(2,.lst 4294967323 9 false (I aE.g q))],0))):=by
 rw[xd (fn:=p33) rfl]
 refine bo (aG (S:=Int×Int×(List aE)) (enc:=fun⟨r,s,t⟩=>(Q [(0,.own 2),(1,i64 b),(2,.fn 5 [] []),(6,i64 20),(7,i64 r),(8,i64 s)] [(2,.lst 4294967323 9 false (I aE.g t))])) (encE:=(fun(⟨u,v⟩:Int×(List aE))=>(xq 0 [(0,.own 2),(1,i64 b),(2,.fn 5 [] []),(6,i64 20),(7,i64 u)] [(2,.lst 4294967323 9 false (I aE.g v))]))) (fun⟨r,s,t⟩=>?_) B64 (0,20,p)) fun⟨u,v⟩=>?_
 refine io ?_ (lf rfl)
 refine bo (okn55 d r s t) fun y=>?_
 exact lf rfl
 refine bo (okn55 d u b v) fun o=>?_
 refine bo (aG (S:=Int×(List aE)) (enc:=fun⟨a,h⟩=>(Q [(0,.own 2),(1,i64 b),(2,.fn 5 [] []),(6,i64 a)] [(2,.lst 4294967323 9 false (I aE.g h))])) (encE:=(fun(n:List aE)=>(xq 2 [] [(2,.lst 4294967323 9 false (I aE.g n))]))) (fun⟨a,h⟩=>?_) B64 (20,o)) fun n=>?_
 refine io ?_ (lf rfl)
 refine bo (aG (S:=Int×Int×(List aE)) (enc:=fun⟨c,i,j⟩=>(Q [(0,.own 2),(1,i64 b),(2,.fn 5 [] []),(6,i64 a),(7,i64 c),(8,i64 i)] [(2,.lst 4294967323 9 false (I aE.g j))])) (encE:=(fun(⟨f,l⟩:Int×(List aE))=>(xq 4 [(0,.own 2),(1,i64 b),(2,.fn 5 [] []),(6,i64 a),(7,i64 f)] [(2,.lst 4294967323 9 false (I aE.g l))]))) (fun⟨c,i,j⟩=>?_) B64 (0,(w64 (2*a)),h)) fun⟨f,l⟩=>?_
 refine io ?_ (lf rfl)
 refine bo (okn56 d c (w64 (c+a)) i j) fun w=>?_
 exact lf rfl
 refine bo (e:=(fun(m:List aE)=>(nq [(0,.own 2),(1,i64 b),(2,.fn 5 [] []),(6,i64 a)] [(2,.lst 4294967323 9 false (I aE.g m))]))) ?_ fun m=>?_
 refine io ?_ (lf rfl)
 refine bo (okn56 d f (w64 (f+a)) b l) fun x=>?_
 exact lf rfl
 exact lf rfl
 exact lf rfl
def Fn26 (a:List aE):Option (List aE):=
 (Fn33 (a.length:Int) a).bind fun b=>some b
theorem okn26 {k} (d) (a:List aE):runR (XD k (d+6)) 26 [.own 2,.fn 5 [] []] [(2,.lst 4294967323 9 false (I aE.g a))] 3 false=(Fn26 a).map (fun(b:List aE)=>((.tup [],[(2,.lst 4294967323 9 false (I aE.g b))],0))):=by
 rw[xd (fn:=p26) rfl]
 refine bz (bL aE.g a) ?_
 refine bo (okn33 d (a.length:Int) a) fun c=>?_
 exact lf rfl
def Fn16 (a:List aE):Option (List aE):=
 (Fn25 a).bind fun b=>(Fn26 b).bind fun c=>some c
theorem okn16 {k} (d) (a:List aE):runR (XD k (d+7)) 16 [.fn 27 [] [.ref 0 0],.fn 5 [] []] [(0,.box [.is 9 (I aE.g a)])] 1 true=(Fn16 a).map (fun(c:List aE)=>((.own 2,[(2,.lst 27 9 false (I aE.g c)),(0,.box [.is 9 (I aE.g a)])],4))):=by
 rw[xd (fn:=p16) rfl]
 refine bo (okn25 (d+2) a) fun b=>?_
 refine bo (okn26 d b) fun e=>?_
 exact lf rfl
def Fn9 (a:List aE):Option (List aE):=
 (Fn17 a).bind fun _=>(Fn16 a).bind fun b=>some b
theorem okn9 {k} (d) (a:List aE):runR (XD k (d+8)) 9 [.is 9 (I aE.g a)] [] 0 true=(Fn9 a).map (fun(b:List aE)=>((.own 2,[(2,.lst 27 9 false (I aE.g b))],4))):=by
 rw[xd (fn:=p9) rfl]
 refine bo (okn17 (d+6) a) fun _=>?_
 refine bo (okn16 d a) fun c=>?_
 exact lf rfl
def F8 (d e:List aE):Option Bool:=
 if(d.length:Int)!=(e.length:Int)then some false else(aP (E:=Unit⊕Unit) (fun(c:Int)=>if decide (c<(d.length:Int))then(lget d c).bind fun a=>(lget e c).bind fun b=>if((a.On==b.On)&&((a.Off==b.Off)&&((a.Number==b.Number)&&((a.Part==b.Part)&&((a.Staff==b.Staff)&&((a.Voice==b.Voice)&&((a.Event.Site==b.Event.Site)&&((a.Event.Number==b.Event.Number)&&((a.Head==b.Head)&&true)))))))))!=true then some (.inr (.inl ()))else some (.inl (w64 (c+1)))else some (.inr (.inr ()))) B64 0).bind fun f=>(match f with|.inl _=>some false|.inr _=>some true)
theorem ok8 {k} (d) (a b:List aE):OD k (d+1) 8 [.is 9 (I aE.g a),.is 9 (I aE.g b)]=(F8 a b).map (fun f=>bv f):=by
 rw[od (fn:=p8) rfl rfl rfl]
 refine bz lm ?_
 refine bz lm ?_
 refine io (lf rfl) ?_
 refine bo (aG (S:=Int) (enc:=fun c=>(Q [(0,.is 9 (I aE.g a)),(1,.is 9 (I aE.g b)),(5,i64 c)] [])) (encE:=(fun|.inl _=>(rq [(4,bv false)] [])|.inr _=>(xq 0 [] []))) (fun c=>?_) B64 0) fun e=>?_
 refine bz lm ?_
 refine io ?_ (lf rfl)
 refine bo rg fun h=>?_
 refine bo rg fun i=>?_
 refine io (lf rfl) (lf rfl)
 rcases e with _|_
 exact lf rfl
 exact lf rfl
def F3 (e:List aE):Option Bool:=
 (eY e 0 (if 40<(e.length:Int)then 40 else(e.length:Int))).bind fun b=>(aP (E:=(List aE)⊕(List aE)) (fun(⟨c,a⟩:(List aE)×Int)=>if decide (a<(b.length:Int))then(lget b a).bind fun f=>(F4 c f).bind fun d=>(lget b 0).bind fun g=>(lget b a).bind fun h=>(F5 g h).bind fun i=>(lget b 0).bind fun j=>(lget b a).bind fun k=>(F6 j k).bind fun l=>((if i !=l then some true else(lget b a).bind fun m=>(lget b 0).bind fun n=>(F5 m n).bind fun o=>(lget b a).bind fun p=>(lget b 0).bind fun q=>(F6 p q).bind fun r=>some (o !=r):Option (Bool))).bind fun s=>if s then some (.inr (.inl d))else some (.inl (d,(w64 (a+1))))else some (.inr (.inr c))) B64 ([],0)).bind fun t=>(match t with|.inl x35=>some false|.inr x36=>(some true).bind fun u=>if u then(Fn9 b).bind fun v=>(F8 v x36).bind fun w=>some w else some false)
theorem ok3 (d) (s:List aE):OD true (d+9) 3 [.is 9 (I aE.g s)]=(F3 s).map (fun B=>bv B):=by
 rw[od (fn:=p3) rfl rfl rfl]
 refine bz lm ?_
 refine bo (eZ _ _ _ _) fun f=>?_
 refine bo (aG (S:=(List aE)×Int) (enc:=fun⟨a,b⟩=>(Q [(0,.is 9 (I aE.g f)),(3,.is 9 (I aE.g a)),(4,i64 b)] [])) (encE:=(fun|.inl c=>(rq [(0,.is 9 (I aE.g f)),(2,bv false),(3,.is 9 (I aE.g c))] [])|.inr x36=>(xq 0 [(0,.is 9 (I aE.g f)),(3,.is 9 (I aE.g x36))] []))) (fun⟨a,b⟩=>?_) B64 ([],0)) fun q=>?_
 refine bz lm ?_
 refine io ?_ (lf rfl)
 refine bo rg fun h=>?_
 refine bo (ok4 (d+6) a h) fun t=>?_
 refine bo rg fun i=>?_
 refine bo rg fun j=>?_
 refine bo (ok5 (d+5) i j) fun u=>?_
 refine bo rg fun k=>?_
 refine bo rg fun l=>?_
 refine bo (ok6 (d+7) k l) fun v=>?_
 refine bo (e:=id) ?_ fun y=>?_
 refine io (lf rfl) ?_
 refine bo rg fun m=>?_
 refine bo rg fun n=>?_
 refine bo (ok5 (d+5) m n) fun w=>?_
 refine bo rg fun o=>?_
 refine bo rg fun p=>?_
 refine bo (ok6 (d+7) o p) fun x=>?_
 exact lf rfl
 refine io (lf rfl) (lf rfl)
 rcases q with c|x36
 exact lf rfl
 refine bo (kT1 (d+8)) fun z=>?_
 refine io ?_ (lf rfl)
 refine bo (okn9 d f) fun r=>?_
 refine bo (ok8 (d+7) r x36) fun A=>?_
 exact lf rfl
def F107 (a:Int):Option Bool:=
 some ((decide (a<32))||(a==127))
theorem ok107 {k} (d) (a:Int):OD k (d+1) 107 [.v (.int .u8 a)]=(F107 a).map (fun b=>bv b):=by
 rw[od (fn:=p107) rfl rfl rfl]
 refine bz (gor rfl) ?_
 exact lf rfl
def F156 (b:List UInt8):Option Int:=
 (aP (E:=Int⊕Unit) (fun(a:Int)=>if decide (a<(b.length:Int))then(lget b a).bind fun c=>(F107 (c.toNat:Int)).bind fun d=>if d then some (.inr (.inl a))else some (.inl (w64 (a+1)))else some (.inr (.inr ()))) B64 0).bind fun e=>(match e with|.inl x7=>some x7|.inr _=>some (-1))
theorem ok156 {k} (d) (a:List UInt8):OD k (d+2) 156 [.is 1 (I iM1 a),.fn 107 [] []]=(F156 a).map (fun g=>i64 g):=by
 rw[od (fn:=p156) rfl rfl rfl]
 refine bz lm ?_
 refine bo (aG (S:=Int) (enc:=fun b=>(Q [(0,.is 1 (I iM1 a)),(1,.fn 107 [] []),(7,i64 (a.length:Int)),(8,i64 b)] [])) (encE:=(fun|.inl c=>(rq [(4,i64 c)] [])|.inr _=>(xq 0 [] []))) (fun b=>?_) B64 0) fun f=>?_
 refine io ?_ (lf rfl)
 refine bo rg fun e=>?_
 refine bo (ok107 d (e.toNat:Int)) fun h=>?_
 refine io (lf rfl) (lf rfl)
 rcases f with c|_
 exact lf rfl
 exact lf rfl
def F108 (a:List UInt8):Option Bool:=
 (F156 a).bind fun b=>some (decide (b>=0))
theorem ok108 {k} (d) (a:List UInt8):OD k (d+3) 108 [.is 1 (I iM1 a),.fn 107 [] []]=(F108 a).map (fun b=>bv b):=by
 rw[od (fn:=p108) rfl rfl rfl]
 refine bo (ok156 d a) fun c=>?_
 exact lf rfl
def F58 (a:ByteArray):Option Bool:=
 ((if decide ((a.size:Int)<=256)then(F108 a.data.toList).bind fun b=>some (!b)else some false:Option (Bool))).bind fun c=>some c
theorem ok58 {k} (d) (a:ByteArray):OD k (d+4) 58 [.v (.string a)]=(F58 a).map (fun b=>bv b):=by
 rw[od (fn:=p58) rfl rfl rfl]
 refine bo (e:=id) ?_ fun f=>?_
 refine io ?_ (lf rfl)
 refine bo (ok108 d a.data.toList) fun c=>?_
 exact lf rfl
 exact lf rfl
def F59 (a b c:Int):Option Bool:=
 some ((decide (a>=b))&&(decide (a<=c)))
theorem ok59 {k} (d) (a b c:Int):OD k (d+1) 59 [i64 a,i64 b,i64 c]=(F59 a b c).map (fun e=>bv e):=by
 rw[od (fn:=p59) rfl rfl rfl]
 refine bz (gand rfl) ?_
 exact lf rfl
def F60 (a:Zl):Option Int:=
 if(((decide (a.Steps<(-77)))||(decide (a.Steps>77)))||(decide (a.Semitones<(-140))))||(decide (a.Semitones>140))then some 2 else some 0
theorem ok60 {k} (d) (a:Zl):OD k (d+1) 60 [.agg (Zl.g a)]=(F60 a).map (fun b=>i64 b):=by
 rw[od (fn:=p60) rfl rfl rfl]
 refine bz (gor rfl) ?_
 refine bz (gor rfl) ?_
 refine bz (gor rfl) ?_
 refine io (lf rfl) (lf rfl)
def Fn57 (b:Bool) (c:Zz) (a:List Zv) (g:Z0) (d:Int):Option (List Zv):=
 ((if b then(lapp false a [(Zv.mk d c)]).bind fun e=>some e else some a:Option (List Zv))).bind fun f=>some f
theorem okn57 {k} (d) (h:Bool) (b:Zz) (f:List Zv) (c:Z0) (a:Int):runR (XD k (d+1)) 57 [.ref 1 0,bv h,.agg (Zz.g b)] [(2,.lst 119 3 false (I Zv.g f)),(1,.box (ck c a (.own 2)))] 3 false=(Fn57 h b f c a).map (fun(j:List Zv)=>((.tup [],[(2,.lst 119 3 false (I Zv.g j)),(1,.box (ck c a (.own 2)))],0))):=by
 rw[xd (fn:=p57) rfl]
 refine bo (e:=(fun(i:List Zv)=>(nq [] [(3,.box (Zz.g b)),(2,.lst 119 3 false (I Zv.g i)),(1,.box (ck c a (.own 2)))]))) ?_ fun i=>?_
 refine io ?_ (lf rfl)
 refine bo (bD false Zv.g f [(Zv.mk a b)]) fun l=>?_
 exact lf rfl
 exact lf rfl
def Fn34 (H:List Zv) (a:Z0) (u:Int):Option (List Zv):=
 (aP (E:=List Zv) (fun(⟨e,i⟩:Int×(List Zv))=>if decide (e<(a.Parts.length:Int))then(lget a.Parts e).bind fun c=>(F58 c.Name).bind fun n=>((if !n then some true else(F59 (c.Staves.length:Int) 1 4).bind fun o=>some (!o):Option (Bool))).bind fun p=>((if p then some true else(F60 c.Transpose).bind fun q=>some (q !=0):Option (Bool))).bind fun r=>(Fn57 r c.ID i a u).bind fun s=>some (.inl ((w64 (e+1)),s))else some (.inr i)) B64 (0,H)).bind fun t=>(aP (E:=List Zv) (fun(⟨f,j⟩:Int×(List Zv))=>if decide (f<(a.Measures.length:Int))then(lget a.Measures f).bind fun b=>(F58 b.Rehearsal).bind fun v=>(aP (E:=Bool) (fun(⟨k,g⟩:Bool×Int)=>if decide (g<(b.Cells.length:Int))then(lget b.Cells g).bind fun d=>(aP (E:=Bool) (fun(⟨l,h⟩:Bool×Int)=>if decide (h<(d.Voices.length:Int))then(lget d.Voices h).bind fun m=>some (.inl (((l||(decide ((m.Events.length:Int)>128)))||(decide ((m.Tuplets.length:Int)>16))),(w64 (h+1))))else some (.inr l)) B64 (((k||(decide ((d.Clefs.length:Int)>64)))||(decide ((d.Voices.length:Int)>2))),0)).bind fun w=>some (.inl (w,(w64 (g+1))))else some (.inr k)) B64 (((!v)||(decide ((b.Tempi.length:Int)>64))),0)).bind fun x=>(Fn57 x b.ID j a u).bind fun y=>some (.inl ((w64 (f+1)),y))else some (.inr j)) B64 (0,t)).bind fun z=>(F58 a.Title).bind fun A=>((if !A then some true else(F59 (a.Parts.length:Int) 1 32).bind fun B=>some (!B):Option (Bool))).bind fun C=>((if C then some true else(F59 (a.Measures.length:Int) 1 1024).bind fun D=>some (!D):Option (Bool))).bind fun F=>(Fn57 ((F||(decide ((a.Spanners.length:Int)>4096)))||(decide ((a.Last.length:Int)>100))) (Zz.mk 0 0) z a u).bind fun G=>some G
theorem okn34 {k} (d) (v:List Zv) (a:Z0) (f:Int):runR (XD k (d+5)) 34 [.ref 1 0] [(2,.lst 119 3 false (I Zv.g v)),(1,.box (ck a f (.own 2)))] 3 false=(Fn34 v a f).map (fun(z:List Zv)=>((.tup [],[(2,.lst 119 3 false (I Zv.g z)),(1,.box (ck a f (.own 2)))],0))):=by
 rw[xd (fn:=p34) rfl]
 refine bz lm ?_
 refine bo (aG (S:=Int×(List Zv)) (enc:=fun⟨r,m⟩=>(Q [(0,.ref 1 0),(15,.is 6 (I Zj.g a.Parts)),(16,i64 (a.Parts.length:Int)),(17,i64 r)] [(2,.lst 119 3 false (I Zv.g m)),(1,.box (ck a f (.own 2)))])) (encE:=(fun(n:List Zv)=>(xq 0 [(0,.ref 1 0)] [(2,.lst 119 3 false (I Zv.g n)),(1,.box (ck a f (.own 2)))]))) (fun⟨r,m⟩=>?_) B64 (0,v)) fun n=>?_
 refine io ?_ (lf rfl)
 refine bo rg fun j=>?_
 refine bo (ok58 d j.Name) fun A=>?_
 refine bo (e:=id) ?_ fun C=>?_
 refine io (lf rfl) ?_
 refine bz lm ?_
 refine bo (ok59 (d+3) (j.Staves.length:Int) 1 4) fun B=>?_
 exact lf rfl
 refine bo (e:=id) ?_ fun w=>?_
 refine io (lf rfl) ?_
 refine bo (ok60 (d+3) j.Transpose) fun D=>?_
 exact lf rfl
 refine bo (okn57 (d+3) w j.ID m a f) fun E=>?_
 exact lf rfl
 refine bz lm ?_
 refine bo (aG (S:=Int×(List Zv)) (enc:=fun⟨h,c⟩=>(Q [(0,.ref 1 0),(47,.is 22 (I Zm.g a.Measures)),(48,i64 (a.Measures.length:Int)),(49,i64 h)] [(2,.lst 119 3 false (I Zv.g c)),(1,.box (ck a f (.own 2)))])) (encE:=(fun(q:List Zv)=>(xq 2 [(0,.ref 1 0)] [(2,.lst 119 3 false (I Zv.g q)),(1,.box (ck a f (.own 2)))]))) (fun⟨h,c⟩=>?_) B64 (0,n)) fun q=>?_
 refine io ?_ (lf rfl)
 refine bo rg fun b=>?_
 refine bo (ok58 d b.Rehearsal) fun x=>?_
 refine bz (gor (bz lm rfl)) ?_
 refine bz lm ?_
 refine bo (aG (S:=Bool×Int) (enc:=fun⟨o,l⟩=>(Q [(0,.ref 1 0),(5,.ref 3 0),(6,bv o),(47,.is 22 (I Zm.g a.Measures)),(48,i64 (a.Measures.length:Int)),(49,i64 h),(64,.is 2 (I Zw.g b.Cells)),(65,i64 (b.Cells.length:Int)),(66,i64 l)] [(3,.box (Zm.g b)),(2,.lst 119 3 false (I Zv.g c)),(1,.box (ck a f (.own 2)))])) (encE:=(fun(p:Bool)=>(xq 4 [(0,.ref 1 0),(5,.ref 3 0),(6,bv p),(47,.is 22 (I Zm.g a.Measures)),(48,i64 (a.Measures.length:Int)),(49,i64 h)] [(3,.box (Zm.g b)),(2,.lst 119 3 false (I Zv.g c)),(1,.box (ck a f (.own 2)))]))) (fun⟨o,l⟩=>?_) B64 (((!x)||(decide ((b.Tempi.length:Int)>64))),0)) fun p=>?_
 refine io ?_ (lf rfl)
 refine bo rg fun i=>?_
 refine bz (gor (bz lm rfl)) ?_
 refine bz (gor (bz lm rfl)) ?_
 refine bz lm ?_
 refine bo (aG (S:=Bool×Int) (enc:=fun⟨s,t⟩=>(Q [(0,.ref 1 0),(5,.ref 3 0),(6,bv s),(47,.is 22 (I Zm.g a.Measures)),(48,i64 (a.Measures.length:Int)),(49,i64 h),(64,.is 2 (I Zw.g b.Cells)),(65,i64 (b.Cells.length:Int)),(66,i64 l),(84,.is 2 (I Zo.g i.Voices)),(85,i64 (i.Voices.length:Int)),(86,i64 t)] [(4,.box (Zw.g i)),(3,.box (Zm.g b)),(2,.lst 119 3 false (I Zv.g c)),(1,.box (ck a f (.own 2)))])) (encE:=(fun(u:Bool)=>(xq 6 [(0,.ref 1 0),(5,.ref 3 0),(6,bv u),(47,.is 22 (I Zm.g a.Measures)),(48,i64 (a.Measures.length:Int)),(49,i64 h),(64,.is 2 (I Zw.g b.Cells)),(65,i64 (b.Cells.length:Int)),(66,i64 l)] [(4,.box (Zw.g i)),(3,.box (Zm.g b)),(2,.lst 119 3 false (I Zv.g c)),(1,.box (ck a f (.own 2)))]))) (fun⟨s,t⟩=>?_) B64 (((o||(decide ((i.Clefs.length:Int)>64)))||(decide ((i.Voices.length:Int)>2))),0)) fun u=>?_
 refine io ?_ (lf rfl)
 refine bo rg fun F=>?_
 refine bz (gor (bz lm rfl)) ?_
 refine bz (gor (bz lm rfl)) ?_
 exact lf rfl
 exact lf rfl
 refine bo (okn57 (d+3) p b.ID c a f) fun G=>?_
 exact lf rfl
 refine bo (ok58 d a.Title) fun H=>?_
 refine bo (e:=id) ?_ fun K=>?_
 refine io (lf rfl) ?_
 refine bz lm ?_
 refine bo (ok59 (d+3) (a.Parts.length:Int) 1 32) fun J=>?_
 exact lf rfl
 refine bo (e:=id) ?_ fun y=>?_
 refine io (lf rfl) ?_
 refine bz lm ?_
 refine bo (ok59 (d+3) (a.Measures.length:Int) 1 1024) fun L=>?_
 exact lf rfl
 refine bz (gor (bz lm rfl)) ?_
 refine bz (gor (bz lm rfl)) ?_
 refine bo (okn57 (d+3) ((y||(decide ((a.Spanners.length:Int)>4096)))||(decide ((a.Last.length:Int)>100))) (Zz.mk 0 0) q a f) fun M=>?_
 exact lf rfl
def Fn109 (a:Z0):Option Unit:=
 some ()
theorem okn109 {k} (d) (a:Z0):runR (XD k (d+1)) 109 [.ref 0 0] [(0,.box (Z0.g a))] 3 true=(Fn109 a).map (fun(_:Unit)=>((.fn 157 [] [.ref 3 0],[(3,.box [.ref 0 0]),(0,.box (Z0.g a))],4))):=by
 rw[xd (fn:=p109) rfl]
 exact lf rfl
def Fy61_5 (d e:Int) (f g:Int) (h i j:Int) (b:Zj) (c:List Zz):Option (List Zz):=
 (lapp false c [b.ID]).bind fun a=>some a
theorem oky61_5 {k} (d) (e f:Int) (h i:Int) (j l m:Int) (b:Zj) (c:List Zz):yldR (XD k (d+1)) 4 [.agg [i64 e,i64 f,i64 h,i64 i,i64 j,i64 l,i64 m],.ip (Zj.g b)] [(4,.loop 16 [(3,.ref 1 0)] [7,8] q61_5a q61_5b false none),(2,.lst 25 2 false (I Zz.g c)),(1,.box [.own 2])] 5=(Fy61_5 e f h i j l m b c).map (fun(a:List Zz)=>((bv true,[(4,.loop 16 [(3,.ref 1 0)] [7,8] q61_5a q61_5b false none),(2,.lst 25 2 false (I Zz.g a)),(1,.box [.own 2])],0))):=by
 rw[yd]
 refine bz (okg kE) ?_
 refine bo (bD false Zz.g c [b.ID]) fun n=>?_
 exact lf rfl
def Fy61_5_2 (d e:Int) (f g:Int) (h i j:Int) (b:Zf) (c:List Zz):Option (List Zz):=
 (lapp false c [b.ID]).bind fun a=>some a
theorem oky61_5_2 {k} (d) (e f:Int) (h i:Int) (j l m:Int) (b:Zf) (c:List Zz):yldR (XD k (d+1)) 4 [.agg [i64 e,i64 f,i64 h,i64 i,i64 j,i64 l,i64 m],.ip (Zf.g b)] [(4,.loop 16 [(3,.ref 1 0)] [7,8] q61_5a q61_5b false none),(2,.lst 25 2 false (I Zz.g c)),(1,.box [.own 2])] 5=(Fy61_5_2 e f h i j l m b c).map (fun(a:List Zz)=>((bv true,[(4,.loop 16 [(3,.ref 1 0)] [7,8] q61_5a q61_5b false none),(2,.lst 25 2 false (I Zz.g a)),(1,.box [.own 2])],0))):=by
 rw[yd]
 refine bz (okg kE) ?_
 refine bo (bD false Zz.g c [b.ID]) fun n=>?_
 exact lf rfl
def Fy61_5_3 (d e:Int) (f g:Int) (h i j:Int) (b:Zm) (c:List Zz):Option (List Zz):=
 (lapp false c [b.ID]).bind fun a=>some a
theorem oky61_5_3 {k} (d) (e f:Int) (h i:Int) (j l m:Int) (b:Zm) (c:List Zz):yldR (XD k (d+1)) 4 [.agg [i64 e,i64 f,i64 h,i64 i,i64 j,i64 l,i64 m],.ip (Zm.g b)] [(4,.loop 16 [(3,.ref 1 0)] [7,8] q61_5a q61_5b false none),(2,.lst 25 2 false (I Zz.g c)),(1,.box [.own 2])] 5=(Fy61_5_3 e f h i j l m b c).map (fun(a:List Zz)=>((bv true,[(4,.loop 16 [(3,.ref 1 0)] [7,8] q61_5a q61_5b false none),(2,.lst 25 2 false (I Zz.g a)),(1,.box [.own 2])],0))):=by
 rw[yd]
 refine bz (okg kE) ?_
 refine bo (bD false Zz.g c [b.ID]) fun n=>?_
 exact lf rfl
def Fy61_5_4 (d e:Int) (f g:Int) (h i j:Int) (b:Ze) (c:List Zz):Option (List Zz):=
 (lapp false c [b.ID]).bind fun a=>some a
theorem oky61_5_4 {k} (d) (e f:Int) (h i:Int) (j l m:Int) (b:Ze) (c:List Zz):yldR (XD k (d+1)) 4 [.agg [i64 e,i64 f,i64 h,i64 i,i64 j,i64 l,i64 m],.ip (Ze.g b)] [(4,.loop 16 [(3,.ref 1 0)] [7,8] q61_5a q61_5b false none),(2,.lst 25 2 false (I Zz.g c)),(1,.box [.own 2])] 5=(Fy61_5_4 e f h i j l m b c).map (fun(a:List Zz)=>((bv true,[(4,.loop 16 [(3,.ref 1 0)] [7,8] q61_5a q61_5b false none),(2,.lst 25 2 false (I Zz.g a)),(1,.box [.own 2])],0))):=by
 rw[yd]
 refine bz (okg kE) ?_
 refine bo (bD false Zz.g c [b.ID]) fun n=>?_
 exact lf rfl
def Fy61_5_5 (d e:Int) (f g:Int) (h i j:Int) (b:Zn) (c:List Zz):Option (List Zz):=
 (lapp false c [b.ID]).bind fun a=>some a
theorem oky61_5_5 {k} (d) (e f:Int) (h i:Int) (j l m:Int) (b:Zn) (c:List Zz):yldR (XD k (d+1)) 4 [.agg [i64 e,i64 f,i64 h,i64 i,i64 j,i64 l,i64 m],.ip (Zn.g b)] [(4,.loop 16 [(3,.ref 1 0)] [7,8] q61_5a q61_5b false none),(2,.lst 25 2 false (I Zz.g c)),(1,.box [.own 2])] 5=(Fy61_5_5 e f h i j l m b c).map (fun(a:List Zz)=>((bv true,[(4,.loop 16 [(3,.ref 1 0)] [7,8] q61_5a q61_5b false none),(2,.lst 25 2 false (I Zz.g a)),(1,.box [.own 2])],0))):=by
 rw[yd]
 refine bz (okg kE) ?_
 refine bo (bD false Zz.g c [b.ID]) fun n=>?_
 exact lf rfl
def Fn157 (g:Z0) (X:List Zz):Option (List Zz):=
 (aP (E:=List Zz) (fun(⟨M,f,x⟩:Int×Int×(List Zz))=>if decide (f<(g.Parts.length:Int))then(lget g.Parts f).bind fun N=>(Fy61_5 1 f 0 0 0 0 0 N x).bind fun O=>(lget g.Parts f).bind fun P=>(aP (E:=Int×(List Zz)) (fun(⟨m,n,L⟩:Int×Int×(List Zz))=>if decide (n<(P.Staves.length:Int))then(lget g.Parts f).bind fun R=>(lget R.Staves n).bind fun S=>(Fy61_5_2 2 0 m 0 0 0 0 S L).bind fun T=>some (.inl ((w64 (m+1)),(w64 (n+1)),T))else some (.inr (m,L))) B64 (M,0,O)).bind fun⟨U,V⟩=>some (.inl (U,(w64 (f+1)),V))else some (.inr x)) B64 (0,0,X)).bind fun W=>(aP (E:=List Zz) (fun(⟨a,h⟩:Int×(List Zz))=>if decide (a<(g.Measures.length:Int))then(lget g.Measures a).bind fun o=>(Fy61_5_3 3 0 0 a 0 0 0 o h).bind fun p=>(lget g.Measures a).bind fun q=>(aP (E:=List Zz) (fun(⟨b,i⟩:Int×(List Zz))=>if decide (b<(q.Cells.length:Int))then(lget g.Measures a).bind fun r=>(lget r.Cells b).bind fun s=>(aP (E:=List Zz) (fun(⟨c,j⟩:Int×(List Zz))=>if decide (c<(s.Voices.length:Int))then(lget g.Measures a).bind fun t=>(lget t.Cells b).bind fun u=>(lget u.Voices c).bind fun v=>(aP (E:=List Zz) (fun(⟨d,k⟩:Int×(List Zz))=>if decide (d<(v.Events.length:Int))then(lget g.Measures a).bind fun w=>(lget w.Cells b).bind fun y=>(lget y.Voices c).bind fun z=>(lget z.Events d).bind fun A=>(Fy61_5_4 4 0 b a c d 0 A k).bind fun B=>some (.inl ((w64 (d+1)),B))else some (.inr k)) B64 (0,j)).bind fun C=>some (.inl ((w64 (c+1)),C))else some (.inr j)) B64 (0,i)).bind fun D=>some (.inl ((w64 (b+1)),D))else some (.inr i)) B64 (0,p)).bind fun F=>some (.inl ((w64 (a+1)),F))else some (.inr h)) B64 (0,W)).bind fun G=>(aP (E:=List Zz) (fun(⟨e,l⟩:Int×(List Zz))=>if decide (e<(g.Spanners.length:Int))then(lget g.Spanners e).bind fun H=>(Fy61_5_5 5 0 0 0 0 0 e H l).bind fun J=>some (.inl ((w64 (e+1)),J))else some (.inr l)) B64 (0,G)).bind fun K=>some K
theorem okn157 {k} (d) (c:Z0) (L:List Zz):runR (XD k (d+2)) 157 [.yld 4,.ref 3 0] [(4,.loop 16 [(3,.ref 1 0)] [7,8] q61_5a q61_5b false none),(3,.box [.ref 0 0]),(0,.box (Z0.g c)),(2,.lst 25 2 false (I Zz.g L)),(1,.box [.own 2])] 5 false=(Fn157 c L).map (fun(G:List Zz)=>((.tup [],[(4,.loop 16 [(3,.ref 1 0)] [7,8] q61_5a q61_5b false none),(3,.box [.ref 0 0]),(0,.box (Z0.g c)),(2,.lst 25 2 false (I Zz.g G)),(1,.box [.own 2])],0))):=by
 rw[xd (fn:=p157) rfl]
 refine bz lm ?_
 refine bo (aG (S:=Int×Int×(List Zz)) (enc:=fun⟨w,h,x⟩=>(Q [(0,.yld 4),(1,.ref 3 0),(3,i64 w),(15,i64 (c.Parts.length:Int)),(16,i64 h)] [(4,.loop 16 [(3,.ref 1 0)] [7,8] q61_5a q61_5b false none),(3,.box [.ref 0 0]),(0,.box (Z0.g c)),(2,.lst 25 2 false (I Zz.g x)),(1,.box [.own 2])])) (encE:=(fun(A:List Zz)=>(xq 0 [(0,.yld 4),(1,.ref 3 0)] [(4,.loop 16 [(3,.ref 1 0)] [7,8] q61_5a q61_5b false none),(3,.box [.ref 0 0]),(0,.box (Z0.g c)),(2,.lst 25 2 false (I Zz.g A)),(1,.box [.own 2])]))) (fun⟨w,h,x⟩=>?_) B64 (0,0,L)) fun A=>?_
 refine io ?_ (lf rfl)
 refine bo rg fun M=>?_
 refine bo (oky61_5 d 1 h 0 0 0 0 0 M x) fun N=>?_
 refine bo rg fun O=>?_
 refine bz lm ?_
 refine bo (aG (S:=Int×Int×(List Zz)) (enc:=fun⟨y,H,z⟩=>(Q [(0,.yld 4),(1,.ref 3 0),(3,i64 y),(4,i64 h),(15,i64 (c.Parts.length:Int)),(16,i64 h),(39,i64 (O.Staves.length:Int)),(40,i64 H)] [(4,.loop 16 [(3,.ref 1 0)] [7,8] q61_5a q61_5b false none),(2,.lst 25 2 false (I Zz.g z)),(1,.box [.own 2]),(3,.box [.ref 0 0]),(0,.box (Z0.g c))])) (encE:=(fun(⟨J,K⟩:Int×(List Zz))=>(xq 2 [(0,.yld 4),(1,.ref 3 0),(3,i64 J),(15,i64 (c.Parts.length:Int)),(16,i64 h)] [(4,.loop 16 [(3,.ref 1 0)] [7,8] q61_5a q61_5b false none),(2,.lst 25 2 false (I Zz.g K)),(1,.box [.own 2]),(3,.box [.ref 0 0]),(0,.box (Z0.g c))]))) (fun⟨y,H,z⟩=>?_) B64 (w,0,N)) fun⟨J,K⟩=>?_
 refine io ?_ (lf rfl)
 refine bo rg fun a0=>?_
 refine bo rg fun P=>?_
 refine bo (oky61_5_2 d 2 0 y 0 0 0 0 P z) fun b0=>?_
 exact lf rfl
 exact lf rfl
 refine bz lm ?_
 refine bo (aG (S:=Int×(List Zz)) (enc:=fun⟨a,i⟩=>(Q [(0,.yld 4),(1,.ref 3 0),(67,i64 (c.Measures.length:Int)),(68,i64 a)] [(4,.loop 16 [(3,.ref 1 0)] [7,8] q61_5a q61_5b false none),(3,.box [.ref 0 0]),(0,.box (Z0.g c)),(2,.lst 25 2 false (I Zz.g i)),(1,.box [.own 2])])) (encE:=(fun(p:List Zz)=>(xq 4 [(0,.yld 4),(1,.ref 3 0)] [(4,.loop 16 [(3,.ref 1 0)] [7,8] q61_5a q61_5b false none),(3,.box [.ref 0 0]),(0,.box (Z0.g c)),(2,.lst 25 2 false (I Zz.g p)),(1,.box [.own 2])]))) (fun⟨a,i⟩=>?_) B64 (0,A)) fun p=>?_
 refine io ?_ (lf rfl)
 refine bo rg fun B=>?_
 refine bo (oky61_5_3 d 3 0 0 a 0 0 0 B i) fun C=>?_
 refine bo rg fun f=>?_
 refine bz lm ?_
 refine bo (aG (S:=Int×(List Zz)) (enc:=fun⟨b,j⟩=>(Q [(0,.yld 4),(1,.ref 3 0),(6,i64 a),(67,i64 (c.Measures.length:Int)),(68,i64 a),(91,i64 (f.Cells.length:Int)),(92,i64 b)] [(4,.loop 16 [(3,.ref 1 0)] [7,8] q61_5a q61_5b false none),(2,.lst 25 2 false (I Zz.g j)),(1,.box [.own 2]),(3,.box [.ref 0 0]),(0,.box (Z0.g c))])) (encE:=(fun(u:List Zz)=>(xq 6 [(0,.yld 4),(1,.ref 3 0),(67,i64 (c.Measures.length:Int)),(68,i64 a)] [(4,.loop 16 [(3,.ref 1 0)] [7,8] q61_5a q61_5b false none),(2,.lst 25 2 false (I Zz.g u)),(1,.box [.own 2]),(3,.box [.ref 0 0]),(0,.box (Z0.g c))]))) (fun⟨b,j⟩=>?_) B64 (0,C)) fun u=>?_
 refine io ?_ (lf rfl)
 refine bo rg fun R=>?_
 refine bo rg fun l=>?_
 refine bz lm ?_
 refine bo (aG (S:=Int×(List Zz)) (enc:=fun⟨e,m⟩=>(Q [(0,.yld 4),(1,.ref 3 0),(6,i64 a),(7,i64 b),(67,i64 (c.Measures.length:Int)),(68,i64 a),(91,i64 (f.Cells.length:Int)),(92,i64 b),(107,i64 (l.Voices.length:Int)),(108,i64 e)] [(4,.loop 16 [(3,.ref 1 0)] [7,8] q61_5a q61_5b false none),(2,.lst 25 2 false (I Zz.g m)),(1,.box [.own 2]),(3,.box [.ref 0 0]),(0,.box (Z0.g c))])) (encE:=(fun(t:List Zz)=>(xq 8 [(0,.yld 4),(1,.ref 3 0),(6,i64 a),(67,i64 (c.Measures.length:Int)),(68,i64 a),(91,i64 (f.Cells.length:Int)),(92,i64 b)] [(4,.loop 16 [(3,.ref 1 0)] [7,8] q61_5a q61_5b false none),(2,.lst 25 2 false (I Zz.g t)),(1,.box [.own 2]),(3,.box [.ref 0 0]),(0,.box (Z0.g c))]))) (fun⟨e,m⟩=>?_) B64 (0,j)) fun t=>?_
 refine io ?_ (lf rfl)
 refine bo rg fun T=>?_
 refine bo rg fun U=>?_
 refine bo rg fun D=>?_
 refine bz lm ?_
 refine bo (aG (S:=Int×(List Zz)) (enc:=fun⟨n,o⟩=>(Q [(0,.yld 4),(1,.ref 3 0),(6,i64 a),(7,i64 b),(8,i64 e),(67,i64 (c.Measures.length:Int)),(68,i64 a),(91,i64 (f.Cells.length:Int)),(92,i64 b),(107,i64 (l.Voices.length:Int)),(108,i64 e),(127,i64 (D.Events.length:Int)),(128,i64 n)] [(4,.loop 16 [(3,.ref 1 0)] [7,8] q61_5a q61_5b false none),(2,.lst 25 2 false (I Zz.g o)),(1,.box [.own 2]),(3,.box [.ref 0 0]),(0,.box (Z0.g c))])) (encE:=(fun(s:List Zz)=>(xq 10 [(0,.yld 4),(1,.ref 3 0),(6,i64 a),(7,i64 b),(67,i64 (c.Measures.length:Int)),(68,i64 a),(91,i64 (f.Cells.length:Int)),(92,i64 b),(107,i64 (l.Voices.length:Int)),(108,i64 e)] [(4,.loop 16 [(3,.ref 1 0)] [7,8] q61_5a q61_5b false none),(2,.lst 25 2 false (I Zz.g s)),(1,.box [.own 2]),(3,.box [.ref 0 0]),(0,.box (Z0.g c))]))) (fun⟨n,o⟩=>?_) B64 (0,m)) fun s=>?_
 refine io ?_ (lf rfl)
 refine bo rg fun V=>?_
 refine bo rg fun W=>?_
 refine bo rg fun X=>?_
 refine bo rg fun E=>?_
 refine bo (oky61_5_4 d 4 0 b a e n 0 E o) fun Y=>?_
 exact lf rfl
 exact lf rfl
 exact lf rfl
 exact lf rfl
 refine bz lm ?_
 refine bo (aG (S:=Int×(List Zz)) (enc:=fun⟨q,r⟩=>(Q [(0,.yld 4),(1,.ref 3 0),(166,i64 (c.Spanners.length:Int)),(167,i64 q)] [(4,.loop 16 [(3,.ref 1 0)] [7,8] q61_5a q61_5b false none),(3,.box [.ref 0 0]),(0,.box (Z0.g c)),(2,.lst 25 2 false (I Zz.g r)),(1,.box [.own 2])])) (encE:=(fun(v:List Zz)=>(xq 12 [] [(4,.loop 16 [(3,.ref 1 0)] [7,8] q61_5a q61_5b false none),(3,.box [.ref 0 0]),(0,.box (Z0.g c)),(2,.lst 25 2 false (I Zz.g v)),(1,.box [.own 2])]))) (fun⟨q,r⟩=>?_) B64 (0,p)) fun v=>?_
 refine io ?_ (lf rfl)
 refine bo rg fun F=>?_
 refine bo (oky61_5_5 d 5 0 0 0 0 0 q F r) fun Z=>?_
 exact lf rfl
 exact lf rfl
end Go.P
namespace Go.P
open Go.Sim (Ex OpK CK)
open K (I Q rq nq xq ck)
def F61 (a:Z0):Option (List Zz):=
 (Fn109 a).bind fun _=>(Fn157 a []).bind fun b=>some b
theorem ok61 {k} (d) (a:Z0):OD k (d+3) 61 [.agg (Z0.g a)]=(F61 a).map (fun b=>.is 2 (I Zz.g b)):=by
 rw[od (fn:=p61) rfl rfl rfl]
 refine bo (okn109 (d+1) a) fun _=>?_
 refine bo (okn157 d a []) fun c=>?_
 exact lf rfl
def F62 (a:Zz):Option Bool:=
 (F59 a.Site 0 99).bind fun b=>((if b then(F59 a.Number 1 1073741824).bind fun c=>some c else some false:Option (Bool))).bind fun d=>some d
theorem ok62 {k} (d) (a:Zz):OD k (d+2) 62 [.agg (Zz.g a)]=(F62 a).map (fun b=>bv b):=by
 rw[od (fn:=p62) rfl rfl rfl]
 refine bo (ok59 d a.Site 0 99) fun c=>?_
 refine bo (e:=id) ?_ fun h=>?_
 refine io ?_ (lf rfl)
 refine bo (ok59 d a.Number 1 1073741824) fun f=>?_
 exact lf rfl
 exact lf rfl
def F63 (b:Z0) (d:Int):Option Int:=
 (aP (E:=Int⊕Unit) (fun(a:Int)=>if decide (a<(b.Last.length:Int))then(lget b.Last a).bind fun c=>if c.Site==d then some (.inr (.inl c.Number))else some (.inl (w64 (a+1)))else some (.inr (.inr ()))) B64 0).bind fun e=>(match e with|.inl x6=>some x6|.inr _=>some 0)
theorem ok63 {k} (d) (a:Z0) (b:Int):OD k (d+1) 63 [.agg (Z0.g a),i64 b]=(F63 a b).map (fun h=>i64 h):=by
 rw[od (fn:=p63) rfl rfl rfl]
 refine bz lm ?_
 refine bo (aG (S:=Int) (enc:=fun c=>(Q [(1,i64 b),(8,.is 2 (I Zz.g a.Last)),(9,i64 (a.Last.length:Int)),(10,i64 c)] [(0,.box (Z0.g a))])) (encE:=(fun|.inl e=>(rq [(4,i64 e)] [(0,.box (Z0.g a))])|.inr _=>(xq 0 [] [(0,.box (Z0.g a))]))) (fun c=>?_) B64 0) fun f=>?_
 refine io ?_ (lf rfl)
 refine bo rg fun i=>?_
 refine io (lf rfl) (lf rfl)
 rcases f with e|_
 exact lf rfl
 exact lf rfl
def Fn35 (w:List Zv) (e:Z0) (u:Int):Option (List Zv):=
 (F61 e).bind fun v=>(aP (E:=(List (Zz×Bool))×(List Zv)) (fun(⟨c,d,f⟩:Int×(List (Zz×Bool))×(List Zv))=>if decide (c<(v.length:Int))then(lget v c).bind fun a=>(F62 a).bind fun i=>((if(!i)||(mget d a false)then some true else(F63 e a.Site).bind fun j=>some (decide (a.Number>j)):Option (Bool))).bind fun k=>(Fn57 k a f e u).bind fun l=>some (.inl ((w64 (c+1)),(mput d a true),l))else some (.inr (d,f))) B64 (0,[],w)).bind fun⟨x,m⟩=>(aP (E:=Bool) (fun(⟨g,b⟩:Bool×Int)=>if decide (b<(e.Last.length:Int))then(lget e.Last b).bind fun h=>((if g then some true else(F62 h).bind fun n=>some (!n):Option (Bool))).bind fun o=>((if o then some true else((if decide (b>0)then(lget e.Last (w64 (b-1))).bind fun p=>some (decide (h.Site<=p.Site))else some false:Option (Bool))).bind fun q=>some q:Option (Bool))).bind fun r=>some (.inl (r,(w64 (b+1))))else some (.inr g)) B64 (false,0)).bind fun s=>(Fn57 s (Zz.mk 0 0) m e u).bind fun t=>some t
theorem okn35 {k} (d) (p:List Zv) (a:Z0) (i:Int):runR (XD k (d+4)) 35 [.ref 1 0] [(2,.lst 119 3 false (I Zv.g p)),(1,.box (ck a i (.own 2)))] 3 false=(Fn35 p a i).map (fun(s:List Zv)=>((.tup [],[(2,.lst 119 3 false (I Zv.g s)),(1,.box (ck a i (.own 2)))],0))):=by
 rw[xd (fn:=p35) rfl]
 refine bo (ok61 d a) fun t=>?_
 refine bz lm ?_
 refine bo (aG (S:=Int×(List (Zz×Bool))×(List Zv)) (enc:=fun⟨m,f,j⟩=>(Q [(0,.ref 1 0),(2,.map 3),(13,.is 2 (I Zz.g t)),(14,i64 (t.length:Int)),(15,i64 m)] [(3,.mp (I (mEnt (eA Zz.g) bv) f)),(2,.lst 119 3 false (I Zv.g j)),(1,.box (ck a i (.own 2)))])) (encE:=(fun(⟨h,c⟩:(List (Zz×Bool))×(List Zv))=>(xq 0 [(0,.ref 1 0)] [(3,.mp (I (mEnt (eA Zz.g) bv) h)),(2,.lst 119 3 false (I Zv.g c)),(1,.box (ck a i (.own 2)))]))) (fun⟨m,f,j⟩=>?_) B64 (0,[],p)) fun⟨h,c⟩=>?_
 refine io ?_ (lf rfl)
 refine bo rg fun b=>?_
 refine bo (ok62 (d+1) b) fun u=>?_
 refine bz (gor (bz (pN cI1 bv f b false) rfl)) ?_
 refine bo (e:=id) ?_ fun q=>?_
 refine io (lf rfl) ?_
 refine bo (ok63 (d+2) a b.Site) fun v=>?_
 exact lf rfl
 refine bo (okn57 (d+2) q b j a i) fun w=>?_
 refine bz (iJ cI1 bv f b true) ?_
 exact lf rfl
 refine bz lm ?_
 refine bo (aG (S:=Bool×Int) (enc:=fun⟨n,o⟩=>(Q [(0,.ref 1 0),(5,bv n),(49,.is 2 (I Zz.g a.Last)),(50,i64 (a.Last.length:Int)),(51,i64 o)] [(3,.mp (I (mEnt (eA Zz.g) bv) h)),(2,.lst 119 3 false (I Zv.g c)),(1,.box (ck a i (.own 2)))])) (encE:=(fun(l:Bool)=>(xq 2 [(0,.ref 1 0),(5,bv l)] [(3,.mp (I (mEnt (eA Zz.g) bv) h)),(2,.lst 119 3 false (I Zv.g c)),(1,.box (ck a i (.own 2)))]))) (fun⟨n,o⟩=>?_) B64 (false,0)) fun l=>?_
 refine io ?_ (lf rfl)
 refine bo rg fun r=>?_
 refine bo (e:=id) ?_ fun y=>?_
 refine io (lf rfl) ?_
 refine bo (ok62 (d+1) r) fun x=>?_
 exact lf rfl
 refine bo (e:=id) ?_ fun B=>?_
 refine io (lf rfl) ?_
 refine bo (e:=id) ?_ fun A=>?_
 refine io ?_ (lf rfl)
 refine bo rg fun z=>?_
 exact lf rfl
 exact lf rfl
 exact lf rfl
 refine bo (okn57 (d+2) l (Zz.mk 0 0) c a i) fun C=>?_
 exact lf rfl
def F21 (b:Z0):Option Int:=
 (aP (E:=Int) (fun(⟨c,a⟩:Int×Int)=>if decide (a<(b.Parts.length:Int))then(lget b.Parts a).bind fun d=>some (.inl ((w64 (c+(d.Staves.length:Int))),(w64 (a+1))))else some (.inr c)) B64 (0,0)).bind fun e=>some e
theorem ok21 {k} (d) (a:Z0):OD k (d+1) 21 [.agg (Z0.g a)]=(F21 a).map (fun f=>i64 f):=by
 rw[od (fn:=p21) rfl rfl rfl]
 refine bz lm ?_
 refine bo (aG (S:=Int×Int) (enc:=fun⟨b,c⟩=>(Q [(3,i64 b),(7,.is 6 (I Zj.g a.Parts)),(8,i64 (a.Parts.length:Int)),(9,i64 c)] [(0,.box (Z0.g a))])) (encE:=(fun(e:Int)=>(xq 0 [(3,i64 e)] [(0,.box (Z0.g a))]))) (fun⟨b,c⟩=>?_) B64 (0,0)) fun e=>?_
 refine io ?_ (lf rfl)
 refine bo rg fun h=>?_
 refine bz lm ?_
 exact lf rfl
 exact lf rfl
def F65 (o:Int) (j:Zm) (n:Int):Option Bool:=
 (aP (E:=Bool) (fun(⟨d,b⟩:Bool×Int)=>if decide (b<(j.Cells.length:Int))then(lget j.Cells b).bind fun a=>((if d||((a.Voices.length:Int)==0)then some true else(lget a.Voices 0).bind fun g=>some ((g.Events.length:Int)==0):Option (Bool))).bind fun h=>((if h then some true else(lget a.Voices (w64 ((a.Voices.length:Int)-1))).bind fun i=>some ((i.Events.length:Int)==0):Option (Bool))).bind fun k=>(aP (E:=Bool) (fun(⟨e,c⟩:Bool×Int)=>if decide (c<(a.Voices.length:Int))then(lget a.Voices c).bind fun f=>some (.inl ((e||(((f.Events.length:Int)==0)&&(decide ((f.Tuplets.length:Int)>0)))),(w64 (c+1))))else some (.inr e)) B64 (k,0)).bind fun l=>some (.inl (l,(w64 (b+1))))else some (.inr d)) B64 (((j.Cells.length:Int)!=n),0)).bind fun m=>some m
theorem ok65 {k} (d) (o:Int) (a:Zm) (n:Int):OD k (d+1) 65 [i64 o,.agg (Zm.g a),.ip [i64 n]]=(F65 o a n).map (fun t=>bv t):=by
 rw[od (fn:=p65) rfl rfl rfl]
 refine bz lm ?_
 refine bz lm ?_
 refine bo (aG (S:=Bool×Int) (enc:=fun⟨f,b⟩=>(Q [(6,bv f),(18,.is 2 (I Zw.g a.Cells)),(19,i64 (a.Cells.length:Int)),(20,i64 b)] [(0,.box (Zm.g a))])) (encE:=(fun(l:Bool)=>(xq 0 [(6,bv l)] [(0,.box (Zm.g a))]))) (fun⟨f,b⟩=>?_) B64 (((a.Cells.length:Int)!=n),0)) fun l=>?_
 refine io ?_ (lf rfl)
 refine bo rg fun c=>?_
 refine bz (gor (bz lm rfl)) ?_
 refine bo (e:=id) ?_ fun q=>?_
 refine io (lf rfl) ?_
 refine bo rg fun p=>?_
 refine bz lm ?_
 exact lf rfl
 refine bo (e:=id) ?_ fun m=>?_
 refine io (lf rfl) ?_
 refine bz lm ?_
 refine bo rg fun r=>?_
 refine bz lm ?_
 exact lf rfl
 refine bz lm ?_
 refine bo (aG (S:=Bool×Int) (enc:=fun⟨h,i⟩=>(Q [(6,bv h),(18,.is 2 (I Zw.g a.Cells)),(19,i64 (a.Cells.length:Int)),(20,i64 b),(51,.is 2 (I Zo.g c.Voices)),(52,i64 (c.Voices.length:Int)),(53,i64 i)] [(1,.box (Zw.g c)),(0,.box (Zm.g a))])) (encE:=(fun(j:Bool)=>(xq 2 [(6,bv j),(18,.is 2 (I Zw.g a.Cells)),(19,i64 (a.Cells.length:Int)),(20,i64 b)] [(1,.box (Zw.g c)),(0,.box (Zm.g a))]))) (fun⟨h,i⟩=>?_) B64 (m,0)) fun j=>?_
 refine io ?_ (lf rfl)
 refine bo rg fun s=>?_
 refine bz (gor (bz lm (bz (gand (bz lm rfl)) rfl))) ?_
 exact lf rfl
 exact lf rfl
 exact lf rfl
def Fn64 (h:Int) (i:List Zv) (f:Z0) (j:Int):Option (List Zv):=
 (aP (E:=List Zv) (fun(⟨b,g⟩:Int×(List Zv))=>if decide (b<(f.Measures.length:Int))then(lget f.Measures b).bind fun a=>(F65 b a h).bind fun c=>(Fn57 c a.ID g f j).bind fun d=>some (.inl ((w64 (b+1)),d))else some (.inr g)) B64 (0,i)).bind fun e=>some e
theorem okn64 {k} (d) (b:Int) (j:List Zv) (a:Z0) (c:Int):runR (XD k (d+2)) 64 [.ref 1 0,.fn 65 [] [.ref 3 0]] [(3,.box [i64 b]),(2,.lst 119 3 false (I Zv.g j)),(1,.box (ck a c (.own 2)))] 4 false=(Fn64 b j a c).map (fun(i:List Zv)=>((.tup [],[(3,.box [i64 b]),(2,.lst 119 3 false (I Zv.g i)),(1,.box (ck a c (.own 2)))],0))):=by
 rw[xd (fn:=p64) rfl]
 refine bz lm ?_
 refine bo (aG (S:=Int×(List Zv)) (enc:=fun⟨l,m⟩=>(Q [(0,.ref 1 0),(1,.fn 65 [] [.ref 3 0]),(10,.is 22 (I Zm.g a.Measures)),(11,i64 (a.Measures.length:Int)),(12,i64 l)] [(3,.box [i64 b]),(2,.lst 119 3 false (I Zv.g m)),(1,.box (ck a c (.own 2)))])) (encE:=(fun(f:List Zv)=>(xq 0 [] [(3,.box [i64 b]),(2,.lst 119 3 false (I Zv.g f)),(1,.box (ck a c (.own 2)))]))) (fun⟨l,m⟩=>?_) B64 (0,j)) fun f=>?_
 refine io ?_ (lf rfl)
 refine bo rg fun e=>?_
 refine bo (ok65 d l e b) fun h=>?_
 refine bo (okn57 d h e.ID m a c) fun n=>?_
 exact lf rfl
 exact lf rfl
def Fn36 (b:List Zv) (a:Z0) (c:Int):Option (List Zv):=
 (F21 a).bind fun d=>(Fn64 d b a c).bind fun e=>some e
theorem okn36 {k} (d) (c:List Zv) (a:Z0) (b:Int):runR (XD k (d+3)) 36 [.ref 1 0] [(2,.lst 119 3 false (I Zv.g c)),(1,.box (ck a b (.own 2)))] 3 false=(Fn36 c a b).map (fun(f:List Zv)=>((.tup [],[(2,.lst 119 3 false (I Zv.g f)),(1,.box (ck a b (.own 2)))],0))):=by
 rw[xd (fn:=p36) rfl]
 refine bo (ok21 (d+1) a) fun e=>?_
 refine bo (okn64 d e c a b) fun h=>?_
 exact lf rfl
def F158:Option Z9:=
 some (Z9.mk (Zi.mk (⟨#[116,114,101,98,108,101]⟩:ByteArray) 71 (-2) 0 34 (-1) (-3)) (Zi.mk (⟨#[98,97,115,115]⟩:ByteArray) 70 2 0 22 (-3) (-5)) (Zi.mk (⟨#[97,108,116,111]⟩:ByteArray) 67 0 0 28 (-2) (-4)) (Zi.mk (⟨#[116,101,110,111,114]⟩:ByteArray) 67 2 0 26 (-2) (-2)) (Zi.mk (⟨#[115,111,112,114,97,110,111]⟩:ByteArray) 67 (-4) 0 32 (-2) (-3)) (Zi.mk (⟨#[109,101,122,122,111,115,111,112,114,97,110,111]⟩:ByteArray) 67 (-2) 0 30 (-2) (-3)) (Zi.mk (⟨#[98,97,114,105,116,111,110,101]⟩:ByteArray) 70 0 0 24 (-2) (-3)) (Zi.mk (⟨#[116,114,101,98,108,101,56]⟩:ByteArray) 71 (-2) (-1) 27 (-1) (-3)) (Zi.mk (⟨#[98,97,115,115,56]⟩:ByteArray) 70 2 (-1) 15 (-3) (-5)))
theorem ok158 {k} (d):OD k (d+1) 158 []=(F158).map (fun a=>.agg (Z9.g a)):=by
 rw[od (fn:=p158) rfl rfl rfl]
 exact lf rfl
def F110 (b:Int):Option (Zi×Int):=
 if(decide (b<1))||(decide (b>9))then some ((Zi.mk (⟨#[]⟩:ByteArray) 0 0 0 0 0 0),11)else(F158).bind fun a=>(lget [a.c0,a.c1,a.c2,a.c3,a.c4,a.c5,a.c6,a.c7,a.c8] (w64 (b-1))).bind fun c=>some (c,0)
theorem ok110 {k} (d) (b:Int):OD k (d+2) 110 [i64 b]=(F110 b).map (fun⟨c,e⟩=>.tup [.agg (Zi.g c),i64 e]):=by
 rw[od (fn:=p110) rfl rfl rfl]
 refine bz (gor rfl) ?_
 refine io (lf rfl) ?_
 refine bo (ok158 d) fun a=>?_
 refine bo (vO (A:=Zi) Zi.g [a.c0,a.c1,a.c2,a.c3,a.c4,a.c5,a.c6,a.c7,a.c8] (w64 (b-1)) rfl (fun _=>rfl) rfl) fun f=>?_
 exact lf rfl
def F66 (a:Int):Option Int:=
 (F110 a).bind fun⟨c,b⟩=>some b
theorem ok66 {k} (d) (a:Int):OD k (d+3) 66 [i64 a]=(F66 a).map (fun b=>i64 b):=by
 rw[od (fn:=p66) rfl rfl rfl]
 refine bo (ok110 d a) fun⟨c,e⟩=>?_
 exact lf rfl
def F150 (a:Zx):Option Bool:=
 if((a.Groups.c0==0)&&((a.Groups.c1==0)&&((a.Groups.c2==0)&&((a.Groups.c3==0)&&((a.Groups.c4==0)&&((a.Groups.c5==0)&&true))))))!=false then some true else(aP (E:=(Int×Int)⊕(Int×Int)) (fun(⟨d,b,e⟩:Int×Int×Int)=>if decide (e<6)then(lget [a.Groups.c0,a.Groups.c1,a.Groups.c2,a.Groups.c3,a.Groups.c4,a.Groups.c5] e).bind fun c=>if((decide (c<0))||(decide (c>64)))||((decide (c>0))&&(e !=b))then some (.inr (.inl (d,b)))else((if decide (c>0)then some ((w64 (d+c)),(w64 (b+1)))else some (d,b):Option (Int×Int))).bind fun⟨h,f⟩=>some (.inl (h,f,(w64 (e+1))))else some (.inr (.inr (d,b)))) B64 (0,0,0)).bind fun g=>(match g with|.inl ⟨x11,x12⟩=>some false|.inr ⟨x13,x14⟩=>some ((x13==a.Count)&&(decide (x14>=2))))
theorem ok150 {k} (d) (a:Zx):OD k (d+1) 150 [.agg (Zx.g a)]=(F150 a).map (fun n=>bv n):=by
 rw[od (fn:=p150) rfl rfl rfl]
 refine io (lf rfl) ?_
 refine bo (aG (S:=Int×Int×Int) (enc:=fun⟨j,l,h⟩=>(Q [(1,.ref 0 0),(3,i64 j),(4,i64 l),(12,.agg (Z6.g a.Groups)),(13,i64 h)] [(0,.box (Zx.g a))])) (encE:=(fun|.inl ⟨c,f⟩=>(rq [(1,.ref 0 0),(2,bv false),(3,i64 c),(4,i64 f)] [(0,.box (Zx.g a))])|.inr ⟨x13,x14⟩=>(xq 0 [(1,.ref 0 0),(3,i64 x13),(4,i64 x14)] [(0,.box (Zx.g a))]))) (fun⟨j,l,h⟩=>?_) B64 (0,0,0)) fun i=>?_
 refine io ?_ (lf rfl)
 refine bo (kW .i64 [a.Groups.c0,a.Groups.c1,a.Groups.c2,a.Groups.c3,a.Groups.c4,a.Groups.c5] h rfl) fun o=>?_
 refine bz (gor rfl) ?_
 refine bz (gor (bz (gand rfl) rfl)) ?_
 refine io (lf rfl) ?_
 refine bo (e:=(fun(⟨m,b⟩:Int×Int)=>(nq [(1,.ref 0 0),(3,i64 m),(4,i64 b),(12,.agg (Z6.g a.Groups)),(13,i64 h)] [(0,.box (Zx.g a))]))) ?_ fun⟨m,b⟩=>?_
 refine io (lf rfl) (lf rfl)
 exact lf rfl
 rcases i with⟨c,f⟩|⟨x13,x14⟩
 exact lf rfl
 refine bz (gand rfl) ?_
 exact lf rfl
def F100 (a:Zx):Option Int:=
 if(decide (a.Count<1))||(decide (a.Count>64))then some 2 else if((decide (a.Unit<1))||(decide (a.Unit>64)))||((iand .i64 a.Unit (w64 (a.Unit-1)))!=0)then some 17 else(F150 a).bind fun b=>if !b then some 19 else some 0
theorem ok100 {k} (d) (a:Zx):OD k (d+2) 100 [.agg (Zx.g a)]=(F100 a).map (fun b=>i64 b):=by
 rw[od (fn:=p100) rfl rfl rfl]
 refine bz (gor rfl) ?_
 refine io (lf rfl) ?_
 refine bz (gor rfl) ?_
 refine bz (gor rfl) ?_
 refine io (lf rfl) ?_
 refine bo (ok150 d a) fun c=>?_
 refine io (lf rfl) (lf rfl)
def F151 (a:Zx):Option Int:=
 (quoO .i64 1935360 a.Unit).bind fun b=>some b
theorem ok151 {k} (d) (a:Zx):OD k (d+1) 151 [.agg (Zx.g a)]=(F151 a).map (fun b=>i64 b):=by
 rw[od (fn:=p151) rfl rfl rfl]
 refine bo oi fun c=>?_
 exact lf rfl
def F101 (a:Zx):Option Int:=
 (F151 a).bind fun b=>some (w64 (a.Count*b))
theorem ok101 {k} (d) (a:Zx):OD k (d+2) 101 [.agg (Zx.g a)]=(F101 a).map (fun b=>i64 b):=by
 rw[od (fn:=p101) rfl rfl rfl]
 refine bo (ok151 d a) fun c=>?_
 exact lf rfl
def F51 (a:Zx):Option (Int×Int):=
 (F100 a).bind fun b=>if b !=0 then some (0,b)else(F101 a).bind fun c=>some (c,0)
theorem ok51 {k} (d) (a:Zx):OD k (d+3) 51 [.agg (Zx.g a)]=(F51 a).map (fun⟨b,c⟩=>.tup [i64 b,i64 c]):=by
 rw[od (fn:=p51) rfl rfl rfl]
 refine bo (ok100 d a) fun e=>?_
 refine io (lf rfl) ?_
 refine bo (ok101 d a) fun f=>?_
 exact lf rfl
def F29 (a:Zm):Option (Int×Int):=
 (F51 a.Metre).bind fun⟨d,c⟩=>if c !=0 then some (0,c)else if decide (a.Length<0)then some (0,2)else((if decide (a.Length>0)then some a.Length else some d:Option (Int))).bind fun b=>(remO .i64 b 7560).bind fun e=>if e !=0 then some (0,16)else if decide (b>15482880)then some (0,5)else some (b,0)
theorem ok29 {k} (d) (a:Zm):OD k (d+4) 29 [.agg (Zm.g a)]=(F29 a).map (fun⟨c,f⟩=>.tup [i64 c,i64 f]):=by
 rw[od (fn:=p29) rfl rfl rfl]
 refine bo (ok51 d a.Metre) fun⟨h,i⟩=>?_
 refine io (lf rfl) ?_
 refine io (lf rfl) ?_
 refine bo (e:=(fun(b:Int)=>(nq [(4,i64 b)] [(0,.box (Zm.g a))]))) ?_ fun b=>?_
 refine io (lf rfl) (lf rfl)
 refine bo oi fun j=>?_
 refine io (lf rfl) ?_
 refine io (lf rfl) (lf rfl)
def F67 (s:Int) (g:Zm):Option Bool:=
 (F29 g).bind fun⟨q,r⟩=>(aP (E:=Bool) (fun(⟨e,b⟩:Bool×Int)=>if decide (b<(g.Cells.length:Int))then(lget g.Cells b).bind fun c=>(aP (E:=Bool) (fun(⟨f,a⟩:Bool×Int)=>if decide (a<(c.Clefs.length:Int))then(lget c.Clefs a).bind fun d=>((if f then some true else(F66 d.Clef).bind fun h=>some (h !=0):Option (Bool))).bind fun i=>((if i then some true else(F59 d.At 0 (w64 (q-1))).bind fun j=>some (!j):Option (Bool))).bind fun k=>((if k then some true else((if decide (a>0)then(lget c.Clefs (w64 (a-1))).bind fun l=>some (decide (d.At<=l.At))else some false:Option (Bool))).bind fun m=>some m:Option (Bool))).bind fun n=>some (.inl (n,(w64 (a+1))))else some (.inr f)) B64 (e,0)).bind fun o=>some (.inl (o,(w64 (b+1))))else some (.inr e)) B64 (false,0)).bind fun p=>some (p&&(r==0))
theorem ok67 {k} (d) (p:Int) (a:Zm):OD k (d+5) 67 [i64 p,.agg (Zm.g a)]=(F67 p a).map (fun x=>bv x):=by
 rw[od (fn:=p67) rfl rfl rfl]
 refine bo (ok29 d a) fun⟨n,o⟩=>?_
 refine bz lm ?_
 refine bo (aG (S:=Bool×Int) (enc:=fun⟨f,b⟩=>(Q [(5,i64 n),(6,i64 o),(7,bv f),(18,.is 2 (I Zw.g a.Cells)),(19,i64 (a.Cells.length:Int)),(20,i64 b)] [(0,.box (Zm.g a))])) (encE:=(fun(m:Bool)=>(xq 0 [(6,i64 o),(7,bv m)] [(0,.box (Zm.g a))]))) (fun⟨f,b⟩=>?_) B64 (false,0)) fun m=>?_
 refine io ?_ (lf rfl)
 refine bo rg fun c=>?_
 refine bz lm ?_
 refine bo (aG (S:=Bool×Int) (enc:=fun⟨h,i⟩=>(Q [(5,i64 n),(6,i64 o),(7,bv h),(9,.ref 1 0),(18,.is 2 (I Zw.g a.Cells)),(19,i64 (a.Cells.length:Int)),(20,i64 b),(25,.is 2 (I Zc.g c.Clefs)),(26,i64 (c.Clefs.length:Int)),(27,i64 i)] [(1,.box (Zw.g c)),(0,.box (Zm.g a))])) (encE:=(fun(l:Bool)=>(xq 2 [(5,i64 n),(6,i64 o),(7,bv l),(18,.is 2 (I Zw.g a.Cells)),(19,i64 (a.Cells.length:Int)),(20,i64 b)] [(1,.box (Zw.g c)),(0,.box (Zm.g a))]))) (fun⟨h,i⟩=>?_) B64 (f,0)) fun l=>?_
 refine io ?_ (lf rfl)
 refine bo rg fun j=>?_
 refine bo (e:=id) ?_ fun r=>?_
 refine io (lf rfl) ?_
 refine bo (ok66 (d+1) j.Clef) fun q=>?_
 exact lf rfl
 refine bo (e:=id) ?_ fun t=>?_
 refine io (lf rfl) ?_
 refine bo (ok59 (d+3) j.At 0 (w64 (n-1))) fun s=>?_
 exact lf rfl
 refine bo (e:=id) ?_ fun w=>?_
 refine io (lf rfl) ?_
 refine bo (e:=id) ?_ fun v=>?_
 refine io ?_ (lf rfl)
 refine bo rg fun u=>?_
 exact lf rfl
 exact lf rfl
 exact lf rfl
 exact lf rfl
 refine bz (gand rfl) ?_
 exact lf rfl
def Fn64_2 (h:List Zv) (e:Z0) (i:Int):Option (List Zv):=
 (aP (E:=List Zv) (fun(⟨a,f⟩:Int×(List Zv))=>if decide (a<(e.Measures.length:Int))then(lget e.Measures a).bind fun g=>(F67 a g).bind fun b=>(Fn57 b g.ID f e i).bind fun c=>some (.inl ((w64 (a+1)),c))else some (.inr f)) B64 (0,h)).bind fun d=>some d
theorem okn64_2 {k} (d) (e:List Zv) (a:Z0) (b:Int):runR (XD k (d+6)) 64 [.ref 1 0,.fn 67 [] []] [(2,.lst 119 3 false (I Zv.g e)),(1,.box (ck a b (.own 2)))] 3 false=(Fn64_2 e a b).map (fun(h:List Zv)=>((.tup [],[(2,.lst 119 3 false (I Zv.g h)),(1,.box (ck a b (.own 2)))],0))):=by
 rw[xd (fn:=p64) rfl]
 refine bz lm ?_
 refine bo (aG (S:=Int×(List Zv)) (enc:=fun⟨i,j⟩=>(Q [(0,.ref 1 0),(1,.fn 67 [] []),(10,.is 22 (I Zm.g a.Measures)),(11,i64 (a.Measures.length:Int)),(12,i64 i)] [(2,.lst 119 3 false (I Zv.g j)),(1,.box (ck a b (.own 2)))])) (encE:=(fun(c:List Zv)=>(xq 0 [] [(2,.lst 119 3 false (I Zv.g c)),(1,.box (ck a b (.own 2)))]))) (fun⟨i,j⟩=>?_) B64 (0,e)) fun c=>?_
 refine io ?_ (lf rfl)
 refine bo rg fun l=>?_
 refine bo (ok67 d i l) fun f=>?_
 refine bo (okn57 (d+4) f l.ID j a b) fun m=>?_
 exact lf rfl
 exact lf rfl
def Fn37 (n:List Zv) (g:Z0) (m:Int):Option (List Zv):=
 (aP (E:=List Zv) (fun(⟨a,c⟩:Int×(List Zv))=>if decide (a<(g.Parts.length:Int))then(lget g.Parts a).bind fun d=>(aP (E:=List Zv) (fun(⟨b,e⟩:Int×(List Zv))=>if decide (b<(d.Staves.length:Int))then(lget d.Staves b).bind fun f=>(F66 f.Clef).bind fun h=>(Fn57 (h !=0) f.ID e g m).bind fun i=>some (.inl ((w64 (b+1)),i))else some (.inr e)) B64 (0,c)).bind fun j=>some (.inl ((w64 (a+1)),j))else some (.inr c)) B64 (0,n)).bind fun k=>(Fn64_2 k g m).bind fun l=>some l
theorem okn37 {k} (d) (n:List Zv) (a:Z0) (e:Int):runR (XD k (d+7)) 37 [.ref 1 0] [(2,.lst 119 3 false (I Zv.g n)),(1,.box (ck a e (.own 2)))] 3 false=(Fn37 n a e).map (fun(p:List Zv)=>((.tup [],[(2,.lst 119 3 false (I Zv.g p)),(1,.box (ck a e (.own 2)))],0))):=by
 rw[xd (fn:=p37) rfl]
 refine bz lm ?_
 refine bo (aG (S:=Int×(List Zv)) (enc:=fun⟨b,f⟩=>(Q [(0,.ref 1 0),(10,.is 6 (I Zj.g a.Parts)),(11,i64 (a.Parts.length:Int)),(12,i64 b)] [(2,.lst 119 3 false (I Zv.g f)),(1,.box (ck a e (.own 2)))])) (encE:=(fun(i:List Zv)=>(xq 0 [(0,.ref 1 0)] [(2,.lst 119 3 false (I Zv.g i)),(1,.box (ck a e (.own 2)))]))) (fun⟨b,f⟩=>?_) B64 (0,n)) fun i=>?_
 refine io ?_ (lf rfl)
 refine bo rg fun c=>?_
 refine bz lm ?_
 refine bo (aG (S:=Int×(List Zv)) (enc:=fun⟨j,h⟩=>(Q [(0,.ref 1 0),(10,.is 6 (I Zj.g a.Parts)),(11,i64 (a.Parts.length:Int)),(12,i64 b),(17,.is 3 (I Zf.g c.Staves)),(18,i64 (c.Staves.length:Int)),(19,i64 j)] [(3,.box (Zj.g c)),(2,.lst 119 3 false (I Zv.g h)),(1,.box (ck a e (.own 2)))])) (encE:=(fun(m:List Zv)=>(xq 2 [(0,.ref 1 0),(10,.is 6 (I Zj.g a.Parts)),(11,i64 (a.Parts.length:Int)),(12,i64 b)] [(3,.box (Zj.g c)),(2,.lst 119 3 false (I Zv.g m)),(1,.box (ck a e (.own 2)))]))) (fun⟨j,h⟩=>?_) B64 (0,f)) fun m=>?_
 refine io ?_ (lf rfl)
 refine bo rg fun l=>?_
 refine bo (ok66 (d+3) l.Clef) fun o=>?_
 refine bo (okn57 (d+5) (o !=0) l.ID h a e) fun q=>?_
 exact lf rfl
 exact lf rfl
 refine bo (okn64_2 d i a e) fun r=>?_
 exact lf rfl
def F111 (a:Int):Option Int:=
 if(decide (a<(-7)))||(decide (a>7))then some 2 else some 0
theorem ok111 {k} (d) (a:Int):OD k (d+1) 111 [i64 a]=(F111 a).map (fun b=>i64 b):=by
 rw[od (fn:=p111) rfl rfl rfl]
 refine bz (gor rfl) ?_
 refine io (lf rfl) (lf rfl)
def F69 (d:Int) (a:Zl):Option (Int×Int):=
 (F111 d).bind fun e=>if e !=0 then some (0,e)else if(((decide (a.Steps<(-77)))||(decide (a.Steps>77)))||(decide (a.Semitones<(-140))))||(decide (a.Semitones>140))then some (0,2)else(aP (E:=Int) (fun(b:Int)=>if decide (b>7)then some (.inl (w64 (b-12)))else some (.inr b)) B64 (w64 (d+(w64 ((w64 (7*a.Semitones))-(w64 (12*a.Steps))))))).bind fun f=>(aP (E:=Int) (fun(c:Int)=>if decide (c<(-7))then some (.inl (w64 (c+12)))else some (.inr c)) B64 f).bind fun g=>some (g,0)
theorem ok69 {k} (d) (b:Int) (a:Zl):OD k (d+2) 69 [i64 b,.agg (Zl.g a)]=(F69 b a).map (fun⟨i,j⟩=>.tup [i64 i,i64 j]):=by
 rw[od (fn:=p69) rfl rfl rfl]
 refine bo (ok111 d b) fun l=>?_
 refine io (lf rfl) ?_
 refine bz (gor rfl) ?_
 refine bz (gor rfl) ?_
 refine bz (gor rfl) ?_
 refine io (lf rfl) ?_
 refine bo (aG (S:=Int) (enc:=fun e=>(Q [(0,i64 e)] [(0,.box (Zl.g a))])) (encE:=(fun(c:Int)=>(xq 0 [(0,i64 c)] [(0,.box (Zl.g a))]))) (fun e=>?_) B64 (w64 (b+(w64 ((w64 (7*a.Semitones))-(w64 (12*a.Steps))))))) fun c=>?_
 refine io (lf rfl) (lf rfl)
 refine bo (aG (S:=Int) (enc:=fun f=>(Q [(0,i64 f)] [(0,.box (Zl.g a))])) (encE:=(fun(h:Int)=>(xq 2 [(0,i64 h)] [(0,.box (Zl.g a))]))) (fun f=>?_) B64 c) fun h=>?_
 refine io (lf rfl) (lf rfl)
 exact lf rfl
def F68 (m:Int) (g:Zm) (h:Zk):Option Bool:=
 (F29 g).bind fun⟨n,j⟩=>((if j !=0 then some true else(F59 g.Fifths (-7) 7).bind fun k=>some (!k):Option (Bool))).bind fun l=>(aP (E:=Bool) (fun(⟨a,b⟩:Bool×Int)=>if decide (b<(h.s'.Parts.length:Int))then(lget h.s'.Parts b).bind fun c=>((if h.s'.Written&&(!a)then(F69 g.Fifths c.Transpose).bind fun⟨i,d⟩=>some (d !=0)else some a:Option (Bool))).bind fun e=>some (.inl (e,(w64 (b+1))))else some (.inr a)) B64 (l,0)).bind fun f=>some f
theorem ok68 {k} (d) (l:Int) (a:Zm) (b:Zk):OD k (d+5) 68 [i64 l,.agg (Zm.g a),.ip [.ip (Zk.g b)]]=(F68 l a b).map (fun p=>bv p):=by
 rw[od (fn:=p68) rfl rfl rfl]
 refine bo (ok29 d a) fun⟨q,r⟩=>?_
 refine bo (e:=id) ?_ fun o=>?_
 refine io (lf rfl) ?_
 refine bo (ok59 (d+3) a.Fifths (-7) 7) fun s=>?_
 exact lf rfl
 refine bz lm ?_
 refine bo (aG (S:=Bool×Int) (enc:=fun⟨f,c⟩=>(Q [(2,.ip [.ip (Zk.g b)]),(4,.ref 0 0),(8,bv f),(28,.is 6 (I Zj.g b.s'.Parts)),(29,i64 (b.s'.Parts.length:Int)),(30,i64 c)] [(0,.box (Zm.g a))])) (encE:=(fun(j:Bool)=>(xq 0 [(8,bv j)] [(0,.box (Zm.g a))]))) (fun⟨f,c⟩=>?_) B64 (o,0)) fun j=>?_
 refine io ?_ (lf rfl)
 refine bo rg fun h=>?_
 refine bz (gand rfl) ?_
 refine bo (e:=(fun(i:Bool)=>(nq [(2,.ip [.ip (Zk.g b)]),(4,.ref 0 0),(8,bv i),(28,.is 6 (I Zj.g b.s'.Parts)),(29,i64 (b.s'.Parts.length:Int)),(30,i64 c)] [(1,.box (Zj.g h)),(0,.box (Zm.g a))]))) ?_ fun i=>?_
 refine io ?_ (lf rfl)
 refine bo (ok69 (d+2) a.Fifths h.Transpose) fun⟨m,n⟩=>?_
 exact lf rfl
 exact lf rfl
 exact lf rfl
def Fn64_3 (i:List Zv) (a:Z0) (g:Int):Option (List Zv):=
 (aP (E:=List Zv) (fun(⟨b,f⟩:Int×(List Zv))=>if decide (b<(a.Measures.length:Int))then(lget a.Measures b).bind fun h=>(F68 b h (Zk.mk a g f)).bind fun c=>(Fn57 c h.ID f a g).bind fun d=>some (.inl ((w64 (b+1)),d))else some (.inr f)) B64 (0,i)).bind fun e=>some e
theorem okn64_3 {k} (d) (f:List Zv) (a:Z0) (b:Int):runR (XD k (d+6)) 64 [.ref 1 0,.fn 68 [] [.ref 3 0]] [(3,.box [.ref 1 0]),(2,.lst 119 3 false (I Zv.g f)),(1,.box (ck a b (.own 2)))] 4 false=(Fn64_3 f a b).map (fun(i:List Zv)=>((.tup [],[(3,.box [.ref 1 0]),(2,.lst 119 3 false (I Zv.g i)),(1,.box (ck a b (.own 2)))],0))):=by
 rw[xd (fn:=p64) rfl]
 refine bz lm ?_
 refine bo (aG (S:=Int×(List Zv)) (enc:=fun⟨j,e⟩=>(Q [(0,.ref 1 0),(1,.fn 68 [] [.ref 3 0]),(10,.is 22 (I Zm.g a.Measures)),(11,i64 (a.Measures.length:Int)),(12,i64 j)] [(3,.box [.ref 1 0]),(2,.lst 119 3 false (I Zv.g e)),(1,.box (ck a b (.own 2)))])) (encE:=(fun(c:List Zv)=>(xq 0 [] [(3,.box [.ref 1 0]),(2,.lst 119 3 false (I Zv.g c)),(1,.box (ck a b (.own 2)))]))) (fun⟨j,e⟩=>?_) B64 (0,f)) fun c=>?_
 refine io ?_ (lf rfl)
 refine bo rg fun l=>?_
 refine bo (ok68 d j l (Zk.mk a b e)) fun h=>?_
 refine bo (okn57 (d+4) h l.ID e a b) fun m=>?_
 exact lf rfl
 exact lf rfl
def Fn38 (a:List Zv) (b:Z0) (c:Int):Option (List Zv):=
 (Fn64_3 a b c).bind fun d=>some d
theorem okn38 {k} (d) (c:List Zv) (a:Z0) (b:Int):runR (XD k (d+7)) 38 [.ref 1 0] [(2,.lst 119 3 false (I Zv.g c)),(1,.box (ck a b (.own 2)))] 3 false=(Fn38 c a b).map (fun(e:List Zv)=>((.tup [],[(2,.lst 119 3 false (I Zv.g e)),(1,.box (ck a b (.own 2)))],0))):=by
 rw[xd (fn:=p38) rfl]
 refine bo (okn64_3 d c a b) fun f=>?_
 exact lf rfl
def F121 (a b:Int):Option Int:=
 if(decide (a<0))||(decide (a>b))then some 2 else some 0
theorem ok121 {k} (d) (a b:Int):OD k (d+1) 121 [i64 a,i64 b]=(F121 a b).map (fun c=>i64 c):=by
 rw[od (fn:=p121) rfl rfl rfl]
 refine bz (gor rfl) ?_
 refine io (lf rfl) (lf rfl)
def F120 (b:List Int):Option Int:=
 (aP (E:=Int⊕Unit) (fun(a:Int)=>if decide (a<(b.length:Int))then(lget b a).bind fun c=>if c !=0 then some (.inr (.inl c))else some (.inl (w64 (a+1)))else some (.inr (.inr ()))) B64 0).bind fun d=>(match d with|.inl x5=>some x5|.inr _=>some 0)
theorem ok120 {k} (d) (a:List Int):OD k (d+1) 120 [.is 1 (I cI a)]=(F120 a).map (fun f=>i64 f):=by
 rw[od (fn:=p120) rfl rfl rfl]
 refine bz lm ?_
 refine bo (aG (S:=Int) (enc:=fun b=>(Q [(5,.is 1 (I cI a)),(6,i64 (a.length:Int)),(7,i64 b)] [])) (encE:=(fun|.inl c=>(rq [(2,i64 c)] [])|.inr _=>(xq 0 [] []))) (fun b=>?_) B64 0) fun e=>?_
 refine io ?_ (lf rfl)
 refine bo rg fun g=>?_
 refine io (lf rfl) (lf rfl)
 rcases e with c|_
 exact lf rfl
 exact lf rfl
def F122 (a:Int):Option Bool:=
 some ((decide (a>=1))&&(decide (a<=4)))
theorem ok122 {k} (d) (a:Int):OD k (d+1) 122 [i64 a]=(F122 a).map (fun b=>bv b):=by
 rw[od (fn:=p122) rfl rfl rfl]
 refine bz (gand rfl) ?_
 exact lf rfl
def F165 (a:Int):Option Int:=
 if decide (a<0)then some 0 else some (iand .i64 a 16)
theorem ok165 {k} (d) (a:Int):OD k (d+1) 165 [i64 a]=(F165 a).map (fun b=>i64 b):=by
 rw[od (fn:=p165) rfl rfl rfl]
 refine io (lf rfl) (lf rfl)
def F124 (a:Ze):Option Ze:=
 ((if a.Kind==1 then some true else(F122 a.Kind).bind fun b=>some (!b):Option (Bool))).bind fun c=>if c then some a else((if a.Kind !=3 then some a.Value else some (Za.mk 0 0):Option (Za))).bind fun d=>((if a.Kind !=4 then(F165 a.Articulations).bind fun e=>some e else some 0:Option (Int))).bind fun f=>some (Ze.mk a.ID a.Kind d [] [] f 0 a.Dynamic [] 0 0)
theorem ok124 {k} (d) (a:Ze):OD k (d+2) 124 [.agg (Ze.g a)]=(F124 a).map (fun f=>.agg (Ze.g f)):=by
 rw[od (fn:=p124) rfl rfl rfl]
 refine bo (e:=id) ?_ fun i=>?_
 refine io (lf rfl) ?_
 refine bo (ok122 d a.Kind) fun h=>?_
 exact lf rfl
 refine io (lf rfl) ?_
 refine bo (e:=(fun(b:Za)=>(nq [(1,.ref 0 0),(2,.ref 1 0),(3,.ref 2 0)] [(2,.box [i64 a.ID.Site,i64 a.ID.Number,i64 a.Kind,i64 b.Log,i64 b.Dots,.v (.slice none 0 0),.v (.slice none 0 0),i64 0,i64 0,i64 a.Dynamic,.v (.slice none 0 0),i64 0,i64 0]),(1,.box [i64 0,i64 0,i64 0,i64 0,i64 0,.v (.slice none 0 0),.v (.slice none 0 0),i64 0,i64 0,i64 0,.v (.slice none 0 0),i64 0,i64 0]),(0,.box (Ze.g a))]))) ?_ fun b=>?_
 refine io (lf rfl) (lf rfl)
 refine bo (e:=(fun(c:Int)=>(nq [(2,.ref 1 0),(3,.ref 2 0)] [(2,.box [i64 a.ID.Site,i64 a.ID.Number,i64 a.Kind,i64 b.Log,i64 b.Dots,.v (.slice none 0 0),.v (.slice none 0 0),i64 c,i64 0,i64 a.Dynamic,.v (.slice none 0 0),i64 0,i64 0]),(1,.box [i64 0,i64 0,i64 0,i64 0,i64 0,.v (.slice none 0 0),.v (.slice none 0 0),i64 0,i64 0,i64 0,.v (.slice none 0 0),i64 0,i64 0]),(0,.box (Ze.g a))]))) ?_ fun c=>?_
 refine io ?_ (lf rfl)
 refine bo (ok165 d a.Articulations) fun j=>?_
 exact lf rfl
 exact lf rfl
def F162 (d e:List Zb):Option Bool:=
 if(d.length:Int)!=(e.length:Int)then some false else(aP (E:=Unit⊕Unit) (fun(c:Int)=>if decide (c<(d.length:Int))then(lget d c).bind fun a=>(lget e c).bind fun b=>if((a.Pitch.Step==b.Pitch.Step)&&((a.Pitch.Alter==b.Pitch.Alter)&&((a.Pitch.Octave==b.Pitch.Octave)&&((a.Tied==b.Tied)&&((a.Show==b.Show)&&true)))))!=true then some (.inr (.inl ()))else some (.inl (w64 (c+1)))else some (.inr (.inr ()))) B64 0).bind fun f=>(match f with|.inl _=>some false|.inr _=>some true)
theorem ok162 {k} (d) (a b:List Zb):OD k (d+1) 162 [.is 5 (I Zb.g a),.is 5 (I Zb.g b)]=(F162 a b).map (fun f=>bv f):=by
 rw[od (fn:=p162) rfl rfl rfl]
 refine bz lm ?_
 refine bz lm ?_
 refine io (lf rfl) ?_
 refine bz lm ?_
 refine bo (aG (S:=Int) (enc:=fun c=>(Q [(0,.is 5 (I Zb.g a)),(1,.is 5 (I Zb.g b)),(12,i64 (a.length:Int)),(13,i64 c)] [])) (encE:=(fun|.inl _=>(rq [(4,bv false)] [])|.inr _=>(xq 0 [] []))) (fun c=>?_) B64 0) fun e=>?_
 refine io ?_ (lf rfl)
 refine bo rg fun h=>?_
 refine bo rg fun i=>?_
 refine io (lf rfl) (lf rfl)
 rcases e with _|_
 exact lf rfl
 exact lf rfl
def F163 (d e:List Zd):Option Bool:=
 if(d.length:Int)!=(e.length:Int)then some false else(aP (E:=Unit⊕Unit) (fun(c:Int)=>if decide (c<(d.length:Int))then(lget d c).bind fun a=>(lget e c).bind fun b=>if((a.Pitch.Step==b.Pitch.Step)&&((a.Pitch.Alter==b.Pitch.Alter)&&((a.Pitch.Octave==b.Pitch.Octave)&&((a.Log==b.Log)&&((a.Slash==b.Slash)&&true)))))!=true then some (.inr (.inl ()))else some (.inl (w64 (c+1)))else some (.inr (.inr ()))) B64 0).bind fun f=>(match f with|.inl _=>some false|.inr _=>some true)
theorem ok163 {k} (d) (a b:List Zd):OD k (d+1) 163 [.is 5 (I Zd.g a),.is 5 (I Zd.g b)]=(F163 a b).map (fun f=>bv f):=by
 rw[od (fn:=p163) rfl rfl rfl]
 refine bz lm ?_
 refine bz lm ?_
 refine io (lf rfl) ?_
 refine bz lm ?_
 refine bo (aG (S:=Int) (enc:=fun c=>(Q [(0,.is 5 (I Zd.g a)),(1,.is 5 (I Zd.g b)),(12,i64 (a.length:Int)),(13,i64 c)] [])) (encE:=(fun|.inl _=>(rq [(4,bv false)] [])|.inr _=>(xq 0 [] []))) (fun c=>?_) B64 0) fun e=>?_
 refine io ?_ (lf rfl)
 refine bo rg fun h=>?_
 refine bo rg fun i=>?_
 refine io (lf rfl) (lf rfl)
 rcases e with _|_
 exact lf rfl
 exact lf rfl
def F164 (b c:List Zy):Option Bool:=
 if(b.length:Int)!=(c.length:Int)then some false else(aP (E:=Unit⊕Unit) (fun(a:Int)=>if decide (a<(b.length:Int))then(lget b a).bind fun d=>(lget c a).bind fun e=>if((d.Text==e.Text)&&((d.Link==e.Link)&&true))!=true then some (.inr (.inl ()))else some (.inl (w64 (a+1)))else some (.inr (.inr ()))) B64 0).bind fun f=>(match f with|.inl _=>some false|.inr _=>some true)
theorem ok164 {k} (d) (a b:List Zy):OD k (d+1) 164 [.is 2 (I Zy.g a),.is 2 (I Zy.g b)]=(F164 a b).map (fun f=>bv f):=by
 rw[od (fn:=p164) rfl rfl rfl]
 refine bz lm ?_
 refine bz lm ?_
 refine io (lf rfl) ?_
 refine bz lm ?_
 refine bo (aG (S:=Int) (enc:=fun c=>(Q [(0,.is 2 (I Zy.g a)),(1,.is 2 (I Zy.g b)),(12,i64 (a.length:Int)),(13,i64 c)] [])) (encE:=(fun|.inl _=>(rq [(4,bv false)] [])|.inr _=>(xq 0 [] []))) (fun c=>?_) B64 0) fun e=>?_
 refine io ?_ (lf rfl)
 refine bo rg fun h=>?_
 refine bo rg fun i=>?_
 refine io (lf rfl) (lf rfl)
 rcases e with _|_
 exact lf rfl
 exact lf rfl
def F123 (a b:Ze):Option Bool:=
 ((if((((((a.Kind==b.Kind)&&(((a.Value.Log==b.Value.Log)&&((a.Value.Dots==b.Value.Dots)&&true))!=false))&&(a.Articulations==b.Articulations))&&(a.Ornament==b.Ornament))&&(a.Dynamic==b.Dynamic))&&(a.Stem==b.Stem))&&(a.Beam==b.Beam)then(F162 a.Heads b.Heads).bind fun c=>some c else some false:Option (Bool))).bind fun d=>((if d then(F163 a.Graces b.Graces).bind fun e=>some e else some false:Option (Bool))).bind fun f=>((if f then(F164 a.Lyrics b.Lyrics).bind fun g=>some g else some false:Option (Bool))).bind fun h=>some h
theorem ok123 {k} (d) (a b:Ze):OD k (d+2) 123 [.agg (Ze.g a),.agg (Ze.g b)]=(F123 a b).map (fun c=>bv c):=by
 rw[od (fn:=p123) rfl rfl rfl]
 refine bz (gand rfl) ?_
 refine bz (gand rfl) ?_
 refine bz (gand rfl) ?_
 refine bz (gand rfl) ?_
 refine bz (gand rfl) ?_
 refine bz (gand rfl) ?_
 refine bo (e:=id) ?_ fun h=>?_
 refine io ?_ (lf rfl)
 refine bo (ok162 d a.Heads b.Heads) fun f=>?_
 exact lf rfl
 refine bo (e:=id) ?_ fun j=>?_
 refine io ?_ (lf rfl)
 refine bo (ok163 d a.Graces b.Graces) fun i=>?_
 exact lf rfl
 refine bo (e:=id) ?_ fun m=>?_
 refine io ?_ (lf rfl)
 refine bo (ok164 d a.Lyrics b.Lyrics) fun l=>?_
 exact lf rfl
 exact lf rfl
def F125 (a:Za):Option Int:=
 if(((decide (a.Log<(-1)))||(decide (a.Log>8)))||(decide (a.Dots<0)))||(decide (a.Dots>3))then some 17 else some 0
theorem ok125 {k} (d) (a:Za):OD k (d+1) 125 [.agg (Za.g a)]=(F125 a).map (fun b=>i64 b):=by
 rw[od (fn:=p125) rfl rfl rfl]
 refine bz (gor rfl) ?_
 refine bz (gor rfl) ?_
 refine bz (gor rfl) ?_
 refine io (lf rfl) (lf rfl)
def F154:Option tU:=
 some (tU.mk 0 2 4 5 7 9 11)
theorem ok154 {k} (d):OD k (d+1) 154 []=(F154).map (fun a=>.agg (tU.g a)):=by
 rw[od (fn:=p154) rfl rfl rfl]
 exact lf rfl
def F105 (b:Zh):Option Int:=
 (F154).bind fun a=>(lget [a.c0,a.c1,a.c2,a.c3,a.c4,a.c5,a.c6] b.Step).bind fun c=>some (w64 ((w64 ((w64 (12*(w64 (b.Octave+1))))+c))+b.Alter))
theorem ok105 {k} (d) (b:Zh):OD k (d+2) 105 [.agg (Zh.g b)]=(F105 b).map (fun c=>i64 c):=by
 rw[od (fn:=p105) rfl rfl rfl]
 refine bo (ok154 d) fun a=>?_
 refine bo (kW .i64 [a.c0,a.c1,a.c2,a.c3,a.c4,a.c5,a.c6] b.Step rfl) fun e=>?_
 exact lf rfl
def F104 (a:Zh):Option Int:=
 if(((((decide (a.Step<0))||(decide (a.Step>6)))||(decide (a.Alter<(-2))))||(decide (a.Alter>2)))||(decide (a.Octave<(-1))))||(decide (a.Octave>9))then some 18 else(F105 a).bind fun b=>if(decide (b<0))||(decide (b>127))then some 18 else some 0
theorem ok104 {k} (d) (a:Zh):OD k (d+3) 104 [.agg (Zh.g a)]=(F104 a).map (fun b=>i64 b):=by
 rw[od (fn:=p104) rfl rfl rfl]
 refine bz (gor rfl) ?_
 refine bz (gor rfl) ?_
 refine bz (gor rfl) ?_
 refine bz (gor rfl) ?_
 refine bz (gor rfl) ?_
 refine io (lf rfl) ?_
 refine bo (ok105 d a) fun c=>?_
 refine bz (gor rfl) ?_
 refine io (lf rfl) (lf rfl)
def F54 (a:Zh):Option (Int×Int):=
 (F104 a).bind fun b=>if b !=0 then some (0,b)else(F105 a).bind fun c=>some (c,0)
theorem ok54 {k} (d) (a:Zh):OD k (d+4) 54 [.agg (Zh.g a)]=(F54 a).map (fun⟨b,c⟩=>.tup [i64 b,i64 c]):=by
 rw[od (fn:=p54) rfl rfl rfl]
 refine bo (ok104 d a) fun e=>?_
 refine io (lf rfl) ?_
 refine bo (ok105 (d+1) a) fun f=>?_
 exact lf rfl
def F167 (b:Zh):Option (Int×Int):=
 (F54 b).bind fun⟨a,c⟩=>if((c !=0)||(decide (a<0)))||(decide (a>127))then some (0,18)else some (a,0)
theorem ok167 {k} (d) (a:Zh):OD k (d+5) 167 [.agg (Zh.g a)]=(F167 a).map (fun⟨b,c⟩=>.tup [i64 b,i64 c]):=by
 rw[od (fn:=p167) rfl rfl rfl]
 refine bo (ok54 d a) fun⟨e,f⟩=>?_
 refine bz (gor rfl) ?_
 refine bz (gor rfl) ?_
 refine io (lf rfl) (lf rfl)
def F166 (a:Zb):Option Int:=
 (F167 a.Pitch).bind fun⟨e,b⟩=>(F121 a.Show 2).bind fun c=>(F120 [b,c]).bind fun d=>some d
theorem ok166 {k} (d) (a:Zb):OD k (d+6) 166 [.agg (Zb.g a)]=(F166 a).map (fun e=>i64 e):=by
 rw[od (fn:=p166) rfl rfl rfl]
 refine bo (ok167 d a.Pitch) fun⟨f,b⟩=>?_
 refine bo (ok121 (d+4) a.Show 2) fun c=>?_
 refine bo (ok120 (d+4) [b,c]) fun h=>?_
 exact lf rfl
def F126 (b:List Zb):Option Int:=
 if(b.length:Int)==0 then some 4 else if decide ((b.length:Int)>10)then some 9 else(aP (E:=Int⊕Unit) (fun(⟨h,d⟩:Int×Int)=>if decide (d<(b.length:Int))then(lget b d).bind fun e=>(F166 e).bind fun f=>if f !=0 then some (.inr (.inl f))else(F167 e.Pitch).bind fun⟨a,g⟩=>if decide (a<=h)then some (.inr (.inl 25))else some (.inl (a,(w64 (d+1))))else some (.inr (.inr ()))) B64 ((-1),0)).bind fun c=>(match c with|.inl x12=>some x12|.inr _=>some 0)
theorem ok126 {k} (d) (b:List Zb):OD k (d+7) 126 [.is 5 (I Zb.g b)]=(F126 b).map (fun l=>i64 l):=by
 rw[od (fn:=p126) rfl rfl rfl]
 refine bz lm ?_
 refine io (lf rfl) ?_
 refine bz lm ?_
 refine io (lf rfl) ?_
 refine bz lm ?_
 refine bo (aG (S:=Int×Int) (enc:=fun⟨e,f⟩=>(Q [(3,i64 e),(17,.is 5 (I Zb.g b)),(18,i64 (b.length:Int)),(19,i64 f)] [])) (encE:=(fun|.inl a=>(rq [(2,i64 a)] [])|.inr _=>(xq 1 [] []))) (fun⟨e,f⟩=>?_) B64 ((-1),0)) fun c=>?_
 refine io ?_ (lf rfl)
 refine bo rg fun h=>?_
 refine bo (ok166 d h) fun m=>?_
 refine io (lf rfl) ?_
 refine bo (ok167 (d+1) h.Pitch) fun⟨i,j⟩=>?_
 refine io (lf rfl) (lf rfl)
 rcases c with a|_
 exact lf rfl
 exact lf rfl
def F127 (a:List Zd):Option Int:=
 if decide ((a.length:Int)>8)then some 9 else(aP (E:=Int⊕Unit) (fun(c:Int)=>if decide (c<(a.length:Int))then(lget a c).bind fun d=>(F167 d.Pitch).bind fun⟨f,e⟩=>if e !=0 then some (.inr (.inl e))else if(decide (d.Log<1))||(decide (d.Log>6))then some (.inr (.inl 2))else some (.inl (w64 (c+1)))else some (.inr (.inr ()))) B64 0).bind fun b=>(match b with|.inl x9=>some x9|.inr _=>some 0)
theorem ok127 {k} (d) (a:List Zd):OD k (d+6) 127 [.is 5 (I Zd.g a)]=(F127 a).map (fun h=>i64 h):=by
 rw[od (fn:=p127) rfl rfl rfl]
 refine bz lm ?_
 refine io (lf rfl) ?_
 refine bz lm ?_
 refine bo (aG (S:=Int) (enc:=fun c=>(Q [(10,.is 5 (I Zd.g a)),(11,i64 (a.length:Int)),(12,i64 c)] [])) (encE:=(fun|.inl e=>(rq [(2,i64 e)] [])|.inr _=>(xq 0 [] []))) (fun c=>?_) B64 0) fun b=>?_
 refine io ?_ (lf rfl)
 refine bo rg fun f=>?_
 refine bo (ok167 d f.Pitch) fun⟨i,j⟩=>?_
 refine io (lf rfl) ?_
 refine bz (gor rfl) ?_
 refine io (lf rfl) (lf rfl)
 rcases b with e|_
 exact lf rfl
 exact lf rfl
def F168 (a:Zy):Option Int:=
 if(decide (a.Link<0))||(decide (a.Link>2))then some 2 else if decide ((a.Text.size:Int)>256)then some 5 else(aP (E:=Unit⊕Unit) (fun(b:Int)=>if decide (b<(a.Text.size:Int))then(pA a.Text b).bind fun c=>((if decide (c<32)then some true else(pA a.Text b).bind fun d=>some (d==127):Option (Bool))).bind fun e=>if e then some (.inr (.inl ()))else some (.inl (w64 (b+1)))else some (.inr (.inr ()))) B64 0).bind fun f=>(match f with|.inl _=>some 6|.inr _=>if(a.Text.toList==(⟨#[]⟩:ByteArray).toList)&&(a.Link==1)then some 3 else some 0)
theorem ok168 {k} (d) (a:Zy):OD k (d+1) 168 [.agg (Zy.g a)]=(F168 a).map (fun f=>i64 f):=by
 rw[od (fn:=p168) rfl rfl rfl]
 refine bz (gor rfl) ?_
 refine io (lf rfl) ?_
 refine io (lf rfl) ?_
 refine bo (aG (S:=Int) (enc:=fun b=>(Q [(1,.ref 0 0),(20,i64 (a.Text.size:Int)),(21,i64 b)] [(0,.box (Zy.g a))])) (encE:=(fun|.inl _=>(rq [(1,.ref 0 0),(2,i64 6)] [(0,.box (Zy.g a))])|.inr _=>(xq 1 [(1,.ref 0 0)] [(0,.box (Zy.g a))]))) (fun b=>?_) B64 0) fun c=>?_
 refine io ?_ (lf rfl)
 refine bo oi fun h=>?_
 refine bo (e:=id) ?_ fun j=>?_
 refine io (lf rfl) ?_
 refine bo oi fun i=>?_
 exact lf rfl
 refine io (lf rfl) (lf rfl)
 rcases c with _|_
 exact lf rfl
 refine bz (gand rfl) ?_
 refine io (lf rfl) (lf rfl)
def F169 (a:Zy):Option Bool:=
 some (((a.Text==(⟨#[]⟩:ByteArray))&&((a.Link==0)&&true))!=false)
theorem ok169 {k} (d) (a:Zy):OD k (d+1) 169 [.agg (Zy.g a)]=(F169 a).map (fun b=>bv b):=by
 rw[od (fn:=p169) rfl rfl rfl]
 exact lf rfl
def F128 (a:List Zy):Option Int:=
 if decide ((a.length:Int)>4)then some 9 else(aP (E:=Int⊕Unit) (fun(d:Int)=>if decide (d<(a.length:Int))then(lget a d).bind fun f=>(F168 f).bind fun e=>if e !=0 then some (.inr (.inl e))else some (.inl (w64 (d+1)))else some (.inr (.inr ()))) B64 0).bind fun g=>(match g with|.inl x7=>some x7|.inr _=>((if decide ((a.length:Int)>0)then(lget a (w64 ((a.length:Int)-1))).bind fun h=>(F169 h).bind fun b=>some b else some false:Option (Bool))).bind fun c=>if c then some 3 else some 0)
theorem ok128 {k} (d) (a:List Zy):OD k (d+2) 128 [.is 2 (I Zy.g a)]=(F128 a).map (fun m=>i64 m):=by
 rw[od (fn:=p128) rfl rfl rfl]
 refine bz lm ?_
 refine io (lf rfl) ?_
 refine bz lm ?_
 refine bo (aG (S:=Int) (enc:=fun b=>(Q [(0,.is 2 (I Zy.g a)),(10,.is 2 (I Zy.g a)),(11,i64 (a.length:Int)),(12,i64 b)] [])) (encE:=(fun|.inl c=>(rq [(0,.is 2 (I Zy.g a)),(2,i64 c)] [])|.inr _=>(xq 0 [(0,.is 2 (I Zy.g a))] []))) (fun b=>?_) B64 0) fun j=>?_
 refine io ?_ (lf rfl)
 refine bo rg fun i=>?_
 refine bo (ok168 d i) fun n=>?_
 refine io (lf rfl) (lf rfl)
 rcases j with c|_
 exact lf rfl
 refine bz lm ?_
 refine bo (e:=id) ?_ fun h=>?_
 refine io ?_ (lf rfl)
 refine bo rg fun l=>?_
 refine bo (ok169 d l) fun f=>?_
 exact lf rfl
 refine io (lf rfl) (lf rfl)
def F75 (a:Ze):Option Int:=
 (F121 a.ID.Site 99).bind fun s=>(F121 a.ID.Number 1073741824).bind fun t=>(F120 [s,t]).bind fun r=>if r !=0 then some r else(F122 a.Kind).bind fun u=>if !u then some 11 else(F124 a).bind fun v=>(F123 a v).bind fun w=>if !w then some 3 else((if a.Kind !=3 then(F125 a.Value).bind fun x=>some (x !=0)else some false:Option (Bool))).bind fun y=>if y then some 17 else if a.Kind==1 then(F126 a.Heads).bind fun c=>(F127 a.Graces).bind fun d=>(F128 a.Lyrics).bind fun e=>(F120 [c,d,e]).bind fun b=>if b !=0 then some b else(F121 a.Articulations 31).bind fun f=>(F121 a.Ornament 4).bind fun g=>(F121 a.Dynamic 9).bind fun h=>(F121 a.Stem 2).bind fun i=>(F121 a.Beam 2).bind fun j=>(F120 [f,g,h,i,j]).bind fun k=>some k else(F121 a.Articulations 31).bind fun l=>(F121 a.Ornament 4).bind fun m=>(F121 a.Dynamic 9).bind fun n=>(F121 a.Stem 2).bind fun o=>(F121 a.Beam 2).bind fun p=>(F120 [l,m,n,o,p]).bind fun q=>some q
theorem ok75 {k} (d) (a:Ze):OD k (d+8) 75 [.agg (Ze.g a)]=(F75 a).map (fun y=>i64 y):=by
 rw[od (fn:=p75) rfl rfl rfl]
 refine bo (ok121 (d+6) a.ID.Site 99) fun u=>?_
 refine bo (ok121 (d+6) a.ID.Number 1073741824) fun w=>?_
 refine bo (ok120 (d+6) [u,w]) fun z=>?_
 refine io (lf rfl) ?_
 refine bo (ok122 (d+6) a.Kind) fun A=>?_
 refine io (lf rfl) ?_
 refine bo (ok124 (d+5) a) fun x=>?_
 refine bo (ok123 (d+5) a x) fun B=>?_
 refine io (lf rfl) ?_
 refine bo (e:=id) ?_ fun D=>?_
 refine io ?_ (lf rfl)
 refine bo (ok125 (d+6) a.Value) fun C=>?_
 exact lf rfl
 refine io (lf rfl) ?_
 refine io ?_ ?_
 refine bo (ok126 d a.Heads) fun b=>?_
 refine bo (ok127 (d+1) a.Graces) fun c=>?_
 refine bo (ok128 (d+5) a.Lyrics) fun f=>?_
 refine bo (ok120 (d+6) [b,c,f]) fun s=>?_
 refine io (lf rfl) ?_
 refine bo (ok121 (d+6) a.Articulations 31) fun h=>?_
 refine bo (ok121 (d+6) a.Ornament 4) fun i=>?_
 refine bo (ok121 (d+6) a.Dynamic 9) fun j=>?_
 refine bo (ok121 (d+6) a.Stem 2) fun l=>?_
 refine bo (ok121 (d+6) a.Beam 2) fun m=>?_
 refine bo (ok120 (d+6) [h,i,j,l,m]) fun t=>?_
 exact lf rfl
 refine bo (ok121 (d+6) a.Articulations 31) fun n=>?_
 refine bo (ok121 (d+6) a.Ornament 4) fun o=>?_
 refine bo (ok121 (d+6) a.Dynamic 9) fun p=>?_
 refine bo (ok121 (d+6) a.Stem 2) fun q=>?_
 refine bo (ok121 (d+6) a.Beam 2) fun r=>?_
 refine bo (ok120 (d+6) [n,o,p,q,r]) fun v=>?_
 exact lf rfl
def F113 (a:Ze):Option Bool:=
 (F75 a).bind fun b=>some (b !=0)
theorem ok113 {k} (d) (a:Ze):OD k (d+9) 113 [.agg (Ze.g a)]=(F113 a).map (fun b=>bv b):=by
 rw[od (fn:=p113) rfl rfl rfl]
 refine bo (ok75 d a) fun c=>?_
 exact lf rfl
def F161 (b:List Ze):Option Int:=
 (aP (E:=Int⊕Unit) (fun(a:Int)=>if decide (a<(b.length:Int))then(lget b a).bind fun c=>(F113 c).bind fun d=>if d then some (.inr (.inl a))else some (.inl (w64 (a+1)))else some (.inr (.inr ()))) B64 0).bind fun e=>(match e with|.inl x7=>some x7|.inr _=>some (-1))
theorem ok161 {k} (d) (a:List Ze):OD k (d+10) 161 [.is 13 (I Ze.g a),.fn 113 [] []]=(F161 a).map (fun h=>i64 h):=by
 rw[od (fn:=p161) rfl rfl rfl]
 refine bz lm ?_
 refine bo (aG (S:=Int) (enc:=fun b=>(Q [(0,.is 13 (I Ze.g a)),(1,.fn 113 [] []),(7,i64 (a.length:Int)),(8,i64 b)] [])) (encE:=(fun|.inl c=>(rq [(4,i64 c)] [])|.inr _=>(xq 0 [] []))) (fun b=>?_) B64 0) fun f=>?_
 refine io ?_ (lf rfl)
 refine bo rg fun e=>?_
 refine bo (ok113 d e) fun i=>?_
 refine io (lf rfl) (lf rfl)
 rcases f with c|_
 exact lf rfl
 exact lf rfl
def F118 (a:List Ze):Option Bool:=
 (F161 a).bind fun b=>some (decide (b>=0))
theorem ok118 {k} (d) (a:List Ze):OD k (d+11) 118 [.is 13 (I Ze.g a),.fn 113 [] []]=(F118 a).map (fun b=>bv b):=by
 rw[od (fn:=p118) rfl rfl rfl]
 refine bo (ok161 d a) fun c=>?_
 exact lf rfl
def F181 (a:Zo):Option Bool:=
 ((if decide ((a.Events.length:Int)>0)then(lget a.Events 0).bind fun b=>some (b.Kind==3)else some false:Option (Bool))).bind fun c=>some c
theorem ok181 {k} (d) (a:Zo):OD k (d+1) 181 [.agg (Zo.g a)]=(F181 a).map (fun b=>bv b):=by
 rw[od (fn:=p181) rfl rfl rfl]
 refine bz lm ?_
 refine bo (e:=id) ?_ fun f=>?_
 refine io ?_ (lf rfl)
 refine bo rg fun c=>?_
 exact lf rfl
 exact lf rfl
def F199 (a:Za):Option Int:=
 (shrO .i64 3870720 (w64 (a.Log+1))).bind fun b=>(aP (E:=Int) (fun(⟨f,c,d⟩:Int×Int×Int)=>if decide (d<a.Dots)then(quoO .i64 f 2).bind fun e=>some (.inl (e,(w64 (c+e)),(w64 (d+1))))else some (.inr c)) B64 (b,b,0)).bind fun g=>some g
theorem ok199 {k} (d) (a:Za):OD k (d+1) 199 [.agg (Za.g a)]=(F199 a).map (fun i=>i64 i):=by
 rw[od (fn:=p199) rfl rfl rfl]
 refine bo oi fun b=>?_
 refine bo (aG (S:=Int×Int×Int) (enc:=fun⟨c,e,f⟩=>(Q [(3,i64 c),(4,i64 e),(11,i64 a.Dots),(12,i64 f)] [(0,.box (Za.g a))])) (encE:=(fun(h:Int)=>(xq 0 [(4,i64 h)] [(0,.box (Za.g a))]))) (fun⟨c,e,f⟩=>?_) B64 (b,b,0)) fun h=>?_
 refine io ?_ (lf rfl)
 refine bo oi fun j=>?_
 exact lf rfl
 exact lf rfl
def F193 (a:Za):Option (Int×Int):=
 (F125 a).bind fun b=>if b !=0 then some (0,b)else(F199 a).bind fun c=>some (c,0)
theorem ok193 {k} (d) (a:Za):OD k (d+2) 193 [.agg (Za.g a)]=(F193 a).map (fun⟨b,c⟩=>.tup [i64 b,i64 c]):=by
 rw[od (fn:=p193) rfl rfl rfl]
 refine bo (ok125 d a) fun e=>?_
 refine io (lf rfl) ?_
 refine bo (ok199 d a) fun f=>?_
 exact lf rfl
def F189 (a:Ze):Option (Int×Int):=
 (F75 a).bind fun b=>if(b !=0)||(a.Kind==3)then some (0,b)else(F193 a.Value).bind fun⟨c,d⟩=>some (c,d)
theorem ok189 {k} (d) (a:Ze):OD k (d+9) 189 [.agg (Ze.g a)]=(F189 a).map (fun⟨b,c⟩=>.tup [i64 b,i64 c]):=by
 rw[od (fn:=p189) rfl rfl rfl]
 refine bo (ok75 d a) fun e=>?_
 refine bz (gor rfl) ?_
 refine io (lf rfl) ?_
 refine bo (ok193 (d+6) a.Value) fun⟨f,h⟩=>?_
 exact lf rfl
def F186 (b:List Ze):Option (List Int):=
 (yR (b.length:Int) (b.length:Int) 0).bind fun k=>(aP (E:=List Int) (fun(⟨c,a⟩:Int×(List Int))=>if decide (c<(b.length:Int))then(lget b c).bind fun d=>(F189 d).bind fun⟨e,i⟩=>(lidx a c).bind fun f=>(lput a f (fun j=>e)).bind fun g=>some (.inl ((w64 (c+1)),g))else some (.inr a)) B64 (0,k)).bind fun h=>some h
theorem ok186 {k} (d) (e:List Ze):OD k (d+10) 186 [.is 13 (I Ze.g e)]=(F186 e).map (fun r=>.is 1 (I cI r)):=by
 rw[od (fn:=p186) rfl rfl rfl]
 refine bz lm ?_
 refine bo (fA cI _ _ 0) fun q=>?_
 refine bz lm ?_
 refine bo (aG (S:=Int×(List Int)) (enc:=fun⟨j,a⟩=>(Q [(3,.own 0),(9,.is 13 (I Ze.g e)),(10,i64 (e.length:Int)),(11,i64 j)] [(0,.lst 3 1 true (I cI a))])) (encE:=(fun(b:List Int)=>(xq 0 [(3,.own 0)] [(0,.lst 3 1 true (I cI b))]))) (fun⟨j,a⟩=>?_) B64 (0,q)) fun b=>?_
 refine io ?_ (lf rfl)
 refine bo rg fun h=>?_
 refine bo (ok189 d h) fun⟨i,l⟩=>?_
 refine bo (aK cI a _) fun n=>?_
 refine bo (cX (A:=Int) (c:=cI) (m:=1) (f:=fun o=>i) (fun _=>⟨rfl,rfl⟩) (mD1 rfl) a _) fun p=>?_
 exact lf rfl
 exact lf rfl
def F196 (a:Int):Option Bool:=
 some ((decide (a>=1))&&(decide (a<=32)))
theorem ok196 {k} (d) (a:Int):OD k (d+1) 196 [i64 a]=(F196 a).map (fun b=>bv b):=by
 rw[od (fn:=p196) rfl rfl rfl]
 refine bz (gand rfl) ?_
 exact lf rfl
def F197 (a b:Zu):Option Int:=
 if a.First !=b.First then if decide (a.First<b.First)then some (-1)else some 1 else if a.Count !=b.Count then if decide (a.Count>b.Count)then some (-1)else some 1 else some 0
theorem ok197 {k} (d) (a b:Zu):OD k (d+1) 197 [.agg (Zu.g a),.agg (Zu.g b)]=(F197 a b).map (fun c=>i64 c):=by
 rw[od (fn:=p197) rfl rfl rfl]
 refine io ?_ ?_
 refine io (lf rfl) (lf rfl)
 refine io ?_ (lf rfl)
 refine io (lf rfl) (lf rfl)
def F195 (a:Zu):Option Int:=
 some (w64 (a.First+a.Count))
theorem ok195 {k} (d) (a:Zu):OD k (d+1) 195 [.agg (Zu.g a)]=(F195 a).map (fun b=>i64 b):=by
 rw[od (fn:=p195) rfl rfl rfl]
 exact lf rfl
def Fn194 (c:Zu) (o:List Zu):Option (Bool×(List Zu)):=
 (aP (E:=List Zu) (fun(b:List Zu)=>((if decide ((b.length:Int)>0)then(lidx b (w64 ((b.length:Int)-1))).bind fun p=>(lnth b p).bind fun d=>(F195 d).bind fun e=>some (decide (e<=c.First))else some false:Option (Bool))).bind fun f=>if f then(cD1 b (w64 ((b.length:Int)-1))).bind fun g=>some (.inl g)else some (.inr b)) B64 o).bind fun a=>((if(a.length:Int)==3 then some true else((if decide ((a.length:Int)>0)then(F195 c).bind fun h=>(lidx a (w64 ((a.length:Int)-1))).bind fun i=>(lnth a i).bind fun j=>(F195 j).bind fun k=>some (decide (h>k))else some false:Option (Bool))).bind fun l=>some l:Option (Bool))).bind fun m=>if m then some (false,a)else(lapp true a [c]).bind fun n=>some (true,n)
theorem okn194 {k} (d) (i:Zu) (j:List Zu):runR (XD k (d+2)) 194 [.agg (Zu.g i),.ref 0 0] [(1,.lst 265 4 true (I Zu.g j)),(0,.box [.own 1])] 2 false=(Fn194 i j).map (fun(⟨l,n⟩:Bool×(List Zu))=>((bv l,[(1,.lst 265 4 true (I Zu.g n)),(0,.box [.own 1])],0))):=by
 rw[xd (fn:=p194) rfl]
 refine bo (aG (S:=List Zu) (enc:=fun h=>(Q [(1,.ref 0 0),(2,.ref 2 0)] [(2,.box (Zu.g i)),(1,.lst 265 4 true (I Zu.g h)),(0,.box [.own 1])])) (encE:=(fun(b:List Zu)=>(xq 0 [(1,.ref 0 0),(2,.ref 2 0)] [(2,.box (Zu.g i)),(1,.lst 265 4 true (I Zu.g b)),(0,.box [.own 1])]))) (fun h=>?_) B64 j) fun b=>?_
 refine bz (bL Zu.g h) ?_
 refine bo (e:=id) ?_ fun p=>?_
 refine io ?_ (lf rfl)
 refine bz (bL Zu.g h) ?_
 refine bo (aK Zu.g h _) fun x=>?_
 refine bo (bA (A:=Zu) (c:=Zu.g) (m:=4) (g:=fun a=>[i64 a.First,i64 a.Count,i64 a.Actual,i64 a.Normal]) (fun _=>⟨rfl,rfl⟩) (mD1 rfl) h _) fun a=>?_
 refine bo (ok195 d a) fun o=>?_
 exact lf rfl
 refine io ?_ (lf rfl)
 refine bz (bL Zu.g h) ?_
 refine bo (rI Zu.g h (w64 ((h.length:Int)-1))) fun q=>?_
 exact lf rfl
 refine bz (bL Zu.g b) ?_
 refine bo (e:=id) ?_ fun v=>?_
 refine io (lf rfl) ?_
 refine bo (e:=id) ?_ fun u=>?_
 refine io ?_ (lf rfl)
 refine bo (ok195 d i) fun r=>?_
 refine bo (aK Zu.g b _) fun s=>?_
 refine bo (bA (A:=Zu) (c:=Zu.g) (m:=4) (g:=fun f=>[i64 f.First,i64 f.Count,i64 f.Actual,i64 f.Normal]) (fun _=>⟨rfl,rfl⟩) (mD1 rfl) b _) fun f=>?_
 refine bo (ok195 d f) fun t=>?_
 exact lf rfl
 exact lf rfl
 refine io (lf rfl) ?_
 refine bo (bD true Zu.g b [i]) fun w=>?_
 exact lf rfl
def F190 (e:List Zu) (f:Int):Option Int:=
 if(decide (f<0))||(decide (f>128))then some 2 else if decide ((e.length:Int)>16)then some 9 else(aP (E:=(Int×(List Zu))⊕(List Zu)) (fun(⟨b,c⟩:Int×(List Zu))=>if decide (b<(e.length:Int))then(lget e b).bind fun a=>((if(((decide (a.Count<1))||(decide (a.Count>f)))||(decide (a.First<0)))||(decide (a.First>(w64 (f-a.Count))))then some true else(F196 a.Actual).bind fun g=>some (!g):Option (Bool))).bind fun h=>((if h then some true else(F196 a.Normal).bind fun i=>some (!i):Option (Bool))).bind fun j=>if j||(a.Actual==a.Normal)then some (.inr (.inl (2,c)))else((if decide (b>0)then(lget e (w64 (b-1))).bind fun k=>(F197 k a).bind fun l=>some (decide (l>0))else some false:Option (Bool))).bind fun m=>if m then some (.inr (.inl (25,c)))else(Fn194 a c).bind fun⟨n,d⟩=>if !n then some (.inr (.inl (21,d)))else some (.inl ((w64 (b+1)),d))else some (.inr (.inr c))) B64 (0,[])).bind fun o=>(match o with|.inl ⟨x25,x26⟩=>some x25|.inr x27=>some 0)
theorem ok190 {k} (d) (c:List Zu) (j:Int):OD k (d+3) 190 [.is 4 (I Zu.g c),i64 j]=(F190 c j).map (fun v=>i64 v):=by
 rw[od (fn:=p190) rfl rfl rfl]
 refine bz (gor rfl) ?_
 refine io (lf rfl) ?_
 refine bz lm ?_
 refine io (lf rfl) ?_
 refine bz lm ?_
 refine bo (aG (S:=Int×(List Zu)) (enc:=fun⟨f,b⟩=>(Q [(0,.is 4 (I Zu.g c)),(1,i64 j),(6,.fn 194 [] [.ref 0 0]),(19,.is 4 (I Zu.g c)),(20,i64 (c.length:Int)),(21,i64 f)] [(1,.lst 265 4 true (I Zu.g b)),(0,.box [.own 1])])) (encE:=(fun|.inl ⟨h,i⟩=>(rq [(4,i64 h)] [(1,.lst 265 4 true (I Zu.g i)),(0,.box [.own 1])])|.inr x27=>(xq 0 [] [(1,.lst 265 4 true (I Zu.g x27)),(0,.box [.own 1])]))) (fun⟨f,b⟩=>?_) B64 (0,[])) fun m=>?_
 refine io ?_ (lf rfl)
 refine bo rg fun a=>?_
 refine bz (gor rfl) ?_
 refine bz (gor rfl) ?_
 refine bz (gor rfl) ?_
 refine bo (e:=id) ?_ fun o=>?_
 refine io (lf rfl) ?_
 refine bo (ok196 (d+1) a.Actual) fun n=>?_
 exact lf rfl
 refine bo (e:=id) ?_ fun q=>?_
 refine io (lf rfl) ?_
 refine bo (ok196 (d+1) a.Normal) fun p=>?_
 exact lf rfl
 refine bz (gor rfl) ?_
 refine io (lf rfl) ?_
 refine bo (e:=id) ?_ fun s=>?_
 refine io ?_ (lf rfl)
 refine bo rg fun l=>?_
 refine bo (ok197 (d+1) l a) fun r=>?_
 exact lf rfl
 refine io (lf rfl) ?_
 refine bo (okn194 d a b) fun⟨t,u⟩=>?_
 refine io (lf rfl) (lf rfl)
 rcases m with⟨h,i⟩|x27
 exact lf rfl
 exact lf rfl
end Go.P
