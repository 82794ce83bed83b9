import GoSem.Step
import Derived.RangeFuncLeaves
import Derived.RangeFuncIn
import Derived.Below
import Derived.Laws.AppendOwn
import Derived.Laws.MakeOwn
import Derived.Laws.Tables
import Derived.ChangeKeysEq
import Derived.Laws.StructEq
import Derived.WideKeyRuns
import Derived.Great.BuildSlice
import Derived.OrdersIn
/- A text of the proof. -/
set_option linter.all false
namespace Go
def yR2:=@Option.bind_eq_some_iff
def yS2:=@Bool.and_eq_true
def yT2:=@List.getElem?_eq_some_iff
def yU2:=@Option.bind_some
def yV2:=@Option.map_eq_some_iff
def yW2:=@List.all_eq_true
def yX2:=@Nat.le_refl
def yY2:=@if_pos
def yZ2:=@Option.some.injEq
def zB2:=@if_neg
def zC2:=@List.mem_of_getElem?
def zD2:=@decide_eq_true_eq
def zE2:=@cond_true
def zF2:=@List.mem_cons
def zG2:=@Bool.false_eq_true
def zH2:=@Nat.le_of_ble_eq_true
def zI2:=@List.getElem?_set_ne
def zJ2:=@List.length_nil
def zK2:=@Bool.not_eq_true'
def zL2:=@List.mem_iff_getElem?
def zM2:=@Nat.eq_of_beq_eq_true
def zN2:=@Bool.or_eq_true
def zO2:=@decide_eq_false
def zP2:=@cond_false
def zR2:=@List.getElem?_take
def zS2:=@List.getElem?_set
def zT2:=@if_true
def zU2:=@Prod.mk.injEq
def zV2:=@Array.getElem?_eq_some_iff
def zW2:=@Option.map_some
def zX2:=@Nat.le_trans
def zY2:=@List.getElem?_eq_getElem
def zZ2:=@List.length_cons
def aA3:=@decide_eq_false_iff_not
def aB3:=@Nat.zero_le
def aC3:=@List.mem_cons_of_mem
def aD3:=@List.contains_eq_mem
def aE3:=@Nat.lt_of_lt_of_le
def aF3:=@decide_eq_true
def aG3:=@List.mem_append
def aH3:=@Nat.mul_le_mul_right
def aI3:=@List.getElem?_drop
def aJ3:=@List.getElem?_map
def aK3:=@List.take_of_length_le
def aL3:=@if_false
def aM3:=@List.mem_flatMap
def aN3:=@Nat.le_of_lt
def aO3:=@List.drop_zero
def aP3:=@Nat.add_assoc
def aQ3:=@Nat.zero_add
def aR3:=@List.all_cons
def aS3:=@decide_true
def aT3:=@List.getElem?_cons_zero
def aU3:=@List.length_append
def aV3:=@List.getElem?_append
def aW3:=@List.eq_nil_of_length_eq_zero
def aX3:=@Nat.add_mul
def aY3:=@Array.getElem?_toList
def aZ3:=@Nat.add_zero
def bA3:=@Bool.not_eq_true
def bB3:=@Nat.blt_eq
def bC3:=@Bool.or_eq_false_iff
def bD3:=@Nat.succ_mul
def bE3:=@Option.some.inj
def bF3:=@List.cons_append
def bG3:=@List.set_eq_of_length_le
def bH3:=@beq_iff_eq
def bI3:=@List.length_map
def bJ3:=@List.append_nil
def bK3:=@Nat.add_comm
def bL3:=@Nat.min_eq_left
def bM3:=@decide_false
def bN3:=@Nat.lt_or_ge
def bO3:=@List.getElem_mem
def bP3:=@List.take_length
def bQ3:=@List.map_cons
def bR3:=@not_or
def bS3:=@List.getElem?_append_left
def bT3:=@Bool.and_self
def bU3:=@List.drop_drop
def bV3:=@Int.le_refl
def bW3:=@List.getElem?_replicate
def bX3:=@List.length_set
def bY3:=@Nat.ble_eq
def bZ3:=@beq_eq_false_iff_ne
def cA3:=@Nat.le_of_not_lt
def cB3:=@List.mem_singleton
def cC3:=@Option.isSome_some
def cD3:=@Nat.add_sub_cancel
def cE3:=@Classical.choose_spec
def cF3:=@List.getElem?_range
def cG3:=@Array.toList_map
def cH3:=@List.length_take
def cI3:=@List.take_append_of_le_length
def cJ3:=@List.nil_append
def cK3:=@List.ext_getElem?
def cL3:=@List.flatMap_cons
def cM3:=@List.mapM_cons
def cN3:=@List.mem_of_mem_take
def cO3:=@List.getElem?_append_right
def cP3:=@Int.mul_le_mul
def cQ3:=@List.mem_map
def cR3:=@List.length_drop
def cS3:=@List.not_mem_nil
def cT3:=@Array.length_toList
def cU3:=@Bool.true_and
def cV3:=@List.flatten_cons
def cW3:=@Nat.zero_mul
def cX3:=@List.map_nil
def cY3:=@Option.bind_assoc
def cZ3:=@Array.ext'
abbrev aA:=@List
abbrev aB:=@Option
end Go
namespace Go.Sim
inductive AV where
 |v (x:Value)
 |ip (cells:List AV)
 |is (esz:Nat) (els:List (List AV))
 |ptr (id ver e o:Nat)
 |sl (esz id ver off len:Nat) (cap:Option Nat)
 |es
 |map (id:Nat)
 |im (es:List (AV×AV))
 |fn (f:Fn) (first cap:List AV)
 |agg (cells:List AV)
 |tup (vs:List AV)
 deriving Inhabited
abbrev AV.undef:AV:=.tup []
abbrev AV.int (n:Int):AV:=.v (.int .i64 n)
abbrev AV.bool (b:Bool):AV:=.v (.bool b)
inductive IX where
 |t (i:Nat)
 |c (x:AV)
 deriving Inhabited
inductive CK where
 |i|b|s
 deriving DecidableEq,Inhabited
inductive gC where
 |mov
 |nilc
 |pick
 |box (ty:TypeId) (size:Nat)
 |alloc (ty:TypeId) (zero:List Value)
 |build (zero:List Value) (parts:List (Nat×Nat))
 |buildSl (ty:TypeId) (esz len:Nat) (zero:List Value) (parts:List Nat)
 |loadS
 |loadA (n:Nat)
 |store (n:Nat)
 |fad (off:Nat)
 |iad (esz:Nat)
 |iadA (len esz:Nat)
 |fldS (off:Nat)
 |fldA (off n:Nat)
 |idxStr
 |idxA (len esz:Nat) (agg:Bool)
 |bin (op:BinOp)
 |eqB (neg:Bool)
 |eqA (neg:Bool) (ks:List CK)
 |eqNil (neg:Bool) (kd:Nat)
 |un (op:UnOp)
 |convI (k:IntKind)
 |convS
 |s2b (ty:TypeId)
 |b2s
 |mkfn (f:Fn) (nfirst:Nat)
 |mkmap
 |mksl (ty:TypeId) (esz bytes:Nat) (zero:List Value)
 |slc (esz:Nat) (lo hi mx:Bool)
 |slcStr (lo hi:Bool)
 |lookup (agg:Bool) (ks:List CK) (zero:AV) (ok:Bool)
 |mapup (agg:Bool) (ks:List CK)
 |callF (f:FuncId)
 |callV
 |len (kd:Nat)
 |cap
 |append (ty:TypeId) (esz bytes:Nat) (zero:List Value) (zeros:Bool)
 |copy (esz:Nat)
 |clear (esz:Nat) (zero:List Value)
 |mn
 |mx
 |ext (i:Nat)
 |fail
 deriving Inhabited
structure Op1 where
 dst:Option Nat
 k:gC
 xs:List IX
 guard:Option (Nat×Bool):=none
 deriving Inhabited
inductive IC where
 |skip
 |reg (ops:List Sim.Op1)
 |regD (ops:List Sim.Op1) (before:List Nat)
 |seq (a b:IC)
 |cond (c:IX) (a b:IC)
 |block (id:Nat) (c:IC)
 |loop (c:IC)
 |rangeF (f:IX) (params:List Nat) (assign body:IC)
 |exit (id:Nat)
 |ret
 deriving Inhabited
inductive RV where
 |tmp (t:Nat)
 |cellS (t:Nat)
 |cellA (t n:Nat)
 deriving Inhabited
structure IFn where
 ntmps:Nat
 res:List RV
 body:IC
 pure:Bool
 frz:Bool:=false
 deriving Inhabited
inductive AO where
 |arr (bx:Bool) (ty:TypeId) (esz ver:Nat) (els:List (List AV))
 |map (es:List (AV×AV))
 |loop (st:LoopState) (pend:Option IC) (tmps:List AV) (params:List Nat) (assign body:IC)
 deriving Inhabited
inductive fQ where
 |mark
 |ob (id:Nat) (o:AO)
 deriving Inhabited
structure Hp where
 h:List fQ
 n:Nat
 deriving Inhabited
def look:aA fQ->Nat->aB AO
 |[],_=>none
 |.mark::r,id=>look r id
 |.ob i o::r,id=>if i=id then some o else look r id
def upd:aA fQ->Nat->AO->aA fQ
 |[],_,_=>[]
 |.mark::r,id,o=>.mark::upd r id o
 |.ob i o'::r,id,o=>if i=id then .ob i o::r else .ob i o'::upd r id o
def popMark:aA fQ->aA fQ
 |[]=>[]
 |.mark::r=>r
 |.ob i o::r=>match o with
  |.arr true _ _ _ _=>popMark r
  |_=>.ob i o::popMark r
def Value.ground:Value->Bool
 |.bool _|.int .. |.string _|.pointer none|.slice none 0 0|.map none|.nilFunc|.nilIface=>true
 |_=>false
def AV.ofValue:Value->aB AV
 |.agg cs=>if cs.toList.all Value.ground then some (.agg (cs.toList.map .v))else none
 |.tuple cs=>if cs.toList.isEmpty then some (.tup [])else none
 |x=>if Value.ground x then some (.v x)else none
def AV.cells:AV->aB (aA AV)
 |.agg cs=>some cs
 |.tup _=>none
 |x=>some [x]
def setL {α:Type}:aA α->Nat->aA α->aA α
 |l,_,[]=>l
 |l,o,c::cs=>setL (l.set o c) (o+1) cs
def IX.ev (t:aA AV):IX->aB AV
 |.t i=>t[i]?
 |.c x=>some x
def evs (t:aA AV):aA IX->aB (aA AV)
 |[]=>some []
 |x::xs=>match x.ev t,evs t xs with
  |some a,some as=>some (a::as)
  |_,_=>none
def binS (op:BinOp):Value->Value->aB Value
 |.int k a,.int k' b=>
  match op with
  |.shl=>if b<0 then none else some (.int k (k.wrap (a*2^min b.toNat k.bits)))
  |.shr=>if b<0 then none else some (.int k (a.fdiv (2^min b.toNat k.bits)))
  |_=>if k=k' then match op with
   |.add=>some (.int k (k.wrap (a+b)))
   |.sub=>some (.int k (k.wrap (a-b)))
   |.mul=>some (.int k (k.wrap (a*b)))
   |.quo=>if b=0 then none else some (.int k (k.wrap (a.tdiv b)))
   |.rem=>if b=0 then none else some (.int k (a.tmod b))
   |.and=>some (.int k (k.wrap (BitVec.ofInt k.bits a&&&BitVec.ofInt k.bits b).toNat))
   |.or=>some (.int k (k.wrap (BitVec.ofInt k.bits a|||BitVec.ofInt k.bits b).toNat))
   |.xor=>some (.int k (k.wrap (BitVec.ofInt k.bits a^^^BitVec.ofInt k.bits b).toNat))
   |.andNot=>some (.int k (k.wrap (BitVec.ofInt k.bits a&&& ~~~ BitVec.ofInt k.bits b).toNat))
   |.eql=>some (.bool (a==b))
   |.neq=>some (.bool (a !=b))
   |.lss=>some (.bool (a<b))
   |.leq=>some (.bool (a<=b))
   |.gtr=>some (.bool (a>b))
   |.geq=>some (.bool (a>=b))
   |_=>none
  else none
 |.string a,.string b=>
  match op with
  |.add=>if a.size+b.size<=2^62 then some (.string (a++b))else none
  |.eql=>some (.bool (a.toList==b.toList))
  |.neq=>some (.bool !(a.toList==b.toList))
  |.lss=>some (.bool (Op.bytesLess a.toList b.toList))
  |.leq=>some (.bool (Op.bytesLess a.toList b.toList||a.toList==b.toList))
  |.gtr=>some (.bool !(Op.bytesLess a.toList b.toList||a.toList==b.toList))
  |.geq=>some (.bool !(Op.bytesLess a.toList b.toList))
  |_=>none
 |_,_=>none
def unS (op:UnOp):Value->aB Value
 |.int k n=>match op with
  |.neg=>some (.int k (k.wrap (0-n)))
  |.xor=>some (.int k (k.wrap (BitVec.ofInt k.bits (if k.signed then -1 else k.max)^^^BitVec.ofInt k.bits n).toNat))
  |_=>none
 |.bool b=>match op with
  |.not=>some (.bool !b)
  |_=>none
 |_=>none
def cellEq:CK->AV->AV->aB Bool
 |.i,.v (.int k a),.v (.int k' b)=>if k=k' then some (a==b)else none
 |.b,.v (.bool a),.v (.bool b)=>some (a==b)
 |.s,.v (.string a),.v (.string b)=>some (a==b)
 |_,_,_=>none
def cellsEq:aA CK->aA AV->aA AV->aB Bool
 |[],[],[]=>some true
 |k::ks,a::as,b::bs=>match cellEq k a b with
  |some true=>cellsEq ks as bs
  |some false=>some false
  |none=>none
 |_,_,_=>none
def keyEq (agg:Bool) (ks:aA CK) (a b:AV):aB Bool:=
 if agg then match a,b with
  |.agg as,.agg bs=>if as.length=ks.length/\bs.length=ks.length then cellsEq ks as bs else none
  |_,_=>none
 else cellsEq ks [a] [b]
def keyOK (agg:Bool) (ks:aA CK):AV->Bool
 |.agg as=> !agg||as.length==ks.length
 |_=> !agg
def findKey (agg:Bool) (ks:aA CK) (k:AV):aA (AV×AV)->Nat->aB (aB (Nat×AV))
 |[],_=>some none
 |(k',x)::r,i=>match keyEq agg ks k k' with
  |some true=>some (some (i,x))
  |some false=>findKey agg ks k r (i+1)
  |none=>none
def fillParts:aA AV->aA (Nat×Nat)->aA AV->aB (aA AV)
 |cells,[],[]=>some cells
 |cells,(off,n)::ps,x::xs=>match x.cells with
  |some cs=>if cs.length=n/\off+n<=cells.length then fillParts (setL cells off cs) ps xs else none
  |none=>none
 |_,_,_=>none
def byteRows (s:ByteArray):aA (aA AV):=s.data.toList.map fun b=>[.v (.int .u8 b.toNat)]
def rowsOf (L:Nat->aB AO) (esz:Nat):AV->aB (aA (aA AV))
 |.is e els=>if e=esz then some els else none
 |.v (.slice none 0 0)=>some []
 |.es=>some []
 |.v (.string s)=>if esz=1 then some (byteRows s)else none
 |.sl _ id ver off len _=>match L id with
  |some (.arr _ _ e ver' els)=>if e=esz/\ver'=ver/\off+len<=els.length then some ((els.drop off).take len)else none
  |_=>none
 |_=>none
def intOf:AV->aB Int
 |.v (.int _ n)=>some n
 |_=>none
structure Out where
 v:AV
 up:Option (Nat×AO):=none
 new:Option AO:=none
def Au:aA (aA AV)->aB (aA UInt8)
 |[]=>some []
 |[.v (.int .u8 n)]::r=>(Au r).map (UInt8.ofNat n.toNat:: ·)
 |_=>none
def zeroRow (zero:aA Value):aA AV:=zero.map .v
def appendTo (L:Nat->aB AO) (lim n:Nat) (ty:TypeId) (esz:Nat) (s:AV) (new:aA (aA AV)):aB Out:=
 match s with
 |.v (.slice none 0 0)=>if new.isEmpty then some {v:=s}else some {v:=.sl esz n 0 0 new.length none,new:=some (.arr false ty esz 0 new)}
 |.es=>if new.isEmpty then some {v:=s}else some {v:=.sl esz n 0 0 new.length none,new:=some (.arr false ty esz 0 new)}
 |.is e _=>if new.isEmpty/\e=esz then some {v:=s}else none
 |.sl z id ver off len cap=>
  match L id with
  |some (.arr bx ty' e ver' els)=>
   if ver'=ver/\e=esz/\ty'=ty/\off+len<=els.length then
    if new.isEmpty then some {v:=s}else
    match cap with
    |none=>
     if off+len=els.length then
      if off=0/\lim<=id/\bx=false then some {v:=.sl z id (ver+1) 0 (len+new.length) none,up:=some (id,.arr false ty e (ver+1) (els++new))}else none
     else if off+len+new.length<=els.length/\lim<=id then
      some {v:=.sl z id ver off (len+new.length) none,up:=some (id,.arr bx ty e ver (setL els (off+len) new))}
     else none
    |some _=>none
   else none
  |_=>none
 |_=>none
def maxRoom:Nat:=2^30
def foldMn (k:IntKind):Int->aA AV->aB Int
 |a,[]=>some a
 |a,x::r=>match x with
  |.v (.int k' b)=>if k=k' then foldMn k (if b<a then b else a) r else none
  |_=>none
def foldMx (k:IntKind):Int->aA AV->aB Int
 |a,[]=>some a
 |a,x::r=>match x with
  |.v (.int k' b)=>if k=k' then foldMx k (if b>a then b else a) r else none
  |_=>none
def mapO {α β:Type} (f:α->aB β):aA α->aB (aA β)
 |[]=>some []
 |a::as=>match f a,mapO f as with
  |some b,some bs=>some (b::bs)
  |_,_=>none
def bounds (lo hi:Bool) (len:Nat) (bs:aA AV):aB (Int×Int):=
 match lo,hi,bs with
 |false,false,[]=>some (0,len)
 |true,false,[l]=>(intOf l).map fun l=>(l,(len:Int))
 |false,true,[h]=>(intOf h).map fun h=>(0,h)
 |true,true,[l,h]=>match intOf l,intOf h with
  |some l,some h=>some (l,h)
  |_,_=>none
 |_,_,_=>none
def roomOf (cap:aB Nat) (len off:Nat):Int:=
 match cap with
 |some c=>c
 |none=>(len:Int)-off
def sliceOp (L:Nat->aB AO) (esz:Nat) (lo hi mx:Bool) (xs:aA AV):aB AV:=
 match xs with
 |[]=>none
 |x::bs=>
  let(bs,m):aA AV×aB Int:=if mx then(bs.dropLast,bs.getLast?.bind intOf)else(bs,some 0)
  match m with
  |none=>none
  |some m=>
  match x with
  |.v (.slice none 0 0)=>match bounds lo hi 0 bs with
   |some (0,0)=>if m=0 then some x else none
   |_=>none
  |.es=>match bounds lo hi 0 bs with
   |some (0,0)=>if m=0 then some x else none
   |_=>none
  |.is e els=>match bounds lo hi els.length bs with
   |some (l,h)=>
    if e=esz/\0<=l/\l<=h/\h<=els.length then
     if mx then(if l=h/\m=h then some .es else none)
     else some (.is e ((els.drop l.toNat).take (h.toNat-l.toNat)))
    else none
   |none=>none
  |.sl z id ver off len cap=>match L id with
   |some (.arr _ _ e ver' els)=>match bounds lo hi len bs with
    |some (l,h)=>
     if ver'=ver/\e=esz/\0<=l/\l<=h/\h<=roomOf cap els.length off/\off+len<=els.length then
      if mx then(if h<=m/\m<=roomOf cap els.length off then some (.sl z id ver (off+l.toNat) (h.toNat-l.toNat) (some (m.toNat-l.toNat)))else none)
      else some (.sl z id ver (off+l.toNat) (h.toNat-l.toNat) (cap.map (· -l.toNat)))
     else none
    |none=>none
   |_=>none
  |_=>none
def isNilv (kd:Nat) (x:AV):aB Bool:=
 match kd,x with
 |0,.v (.slice none 0 0)|1,.v (.pointer none)|2,.v (.map none)|3,.v .nilFunc=>some true
 |0,.is .. |0,.sl .. |1,.ptr .. |1,.ip .. |2,.map .. |2,.im .. |3,.fn .. =>some false
 |_,_=>none
def appRows (L:Nat->aB AO) (esz:Nat) (zeros:Bool) (zero:aA Value) (x:AV):aB (aA (aA AV)):=
 if zeros then match intOf x with
  |some m=>if 0<=m/\m<=maxRoom then some (List.replicate m.toNat (zeroRow zero))else none
  |none=>none
 else rowsOf L esz x
def entsOf (L:Nat->aB AO):AV->aB (aA (AV×AV))
 |.v (.map none)=>some []
 |.map id=>match L id with
  |some (.map es)=>some es
  |_=>none
 |.im es=>some es
 |_=>none
def doOp (L:Nat->aB AO) (lim n:Nat) (k:gC) (xs:aA AV):aB Out:=
 match k,xs with
 |.mov,[x]=>some {v:=x}
 |.nilc,[x]=>match x with
  |.ptr .. |.ip .. |.fn (.func _) _ _|.fn (.yield _) _ _=>some {v:=x}
  |_=>none
 |.pick,[c,a,b]=>match c with
  |.v (.bool t)=>some {v:=if t then a else b}
  |_=>none
 |.box ty size,[x]=>match x.cells with
  |some cs=>if cs.length=size/\size≠0 then some {v:=.ptr n 0 0 0,new:=some (.arr true ty size 0 [cs])}else none
  |none=>none
 |.alloc ty zero,[]=>some {v:=.ptr n 0 0 0,new:=some (.arr true ty zero.length 0 [zeroRow zero])}
 |.build zero parts,xs=>(fillParts (zeroRow zero) parts xs).map fun cs=>{v:=.agg cs}
 |.buildSl ty esz len zero parts,xs=>
  (fillParts ((List.range len).flatMap fun _=>zeroRow zero) (parts.map fun i=>(i*esz,esz)) xs).map fun cs=>
   {v:=.sl esz n 0 0 len none,new:=some (.arr false ty esz 0 ((List.range len).map fun i=>(cs.drop (i*esz)).take esz))}
 |.loadS,[p]=>match p with
  |.ip (c::_)=>some {v:=c}
  |.ptr id ver e o=>match L id with
   |some (.arr _ _ _ ver' els)=>if ver'=ver then match els[e]? with
     |some row=>match row[o]? with
      |some x=>some {v:=x}
      |none=>none
     |none=>none
    else none
   |_=>none
  |_=>none
 |.loadA n,[p]=>match p with
  |.ip cells=>if n<=cells.length then some {v:=.agg (cells.take n)}else none
  |.ptr id ver e o=>match L id with
   |some (.arr _ _ _ ver' els)=>if ver'=ver then match els[e]? with
     |some row=>if o+n<=row.length then some {v:=.agg ((row.drop o).take n)}else none
     |none=>none
    else none
   |_=>none
  |_=>none
 |.store n,[p,x]=>match p,x.cells with
  |.ptr id ver e o,some cs=>match L id with
   |some (.arr bx ty esz ver' els)=>if ver'=ver/\lim<=id/\cs.length=n then match els[e]? with
     |some row=>if o+n<=row.length then some {v:=.undef,up:=some (id,.arr bx ty esz ver (els.set e (setL row o cs)))}else none
     |none=>none
    else none
   |_=>none
  |_,_=>none
 |.fad off,[p]=>match p with
  |.ip cells=>some {v:=.ip (cells.drop off)}
  |.ptr id ver e o=>some {v:=.ptr id ver e (o+off)}
  |_=>none
 |.iad esz,[x,i]=>match intOf i with
  |some i=>match x with
   |.is e els=>if e=esz/\0<=i then match els[i.toNat]? with
     |some row=>some {v:=.ip row}
     |none=>none
    else none
   |.sl z id ver off len _=>if z=esz/\0<=i/\i<len then some {v:=.ptr id ver (off+i.toNat) 0}else none
   |_=>none
  |none=>none
 |.iadA len esz,[p,i]=>match intOf i with
  |some i=>if 0<=i/\i<len then match p with
   |.ip cells=>some {v:=.ip (cells.drop (i.toNat*esz))}
   |.ptr id ver e o=>some {v:=.ptr id ver e (o+i.toNat*esz)}
   |_=>none
   else none
  |none=>none
 |.fldS off,[x]=>match x with
  |.agg cs=>match cs[off]? with
   |some c=>some {v:=c}
   |none=>none
  |_=>none
 |.fldA off n,[x]=>match x with
  |.agg cs=>some {v:=.agg ((cs.drop off).take n)}
  |_=>none
 |.idxStr,[x,i]=>match x,intOf i with
  |.v (.string s),some i=>if 0<=i then match s.data.toList[i.toNat]? with
    |some b=>some {v:=.v (.int .u8 b.toNat)}
    |none=>none
   else none
  |_,_=>none
 |.idxA len esz agg,[x,i]=>match x,intOf i with
  |.agg cs,some i=>if 0<=i/\i<len then
    if agg then some {v:=.agg ((cs.drop (i.toNat*esz)).take esz)}else match cs[i.toNat*esz]? with
    |some c=>some {v:=c}
    |none=>none
   else none
  |_,_=>none
 |.bin op,[x,y]=>match x,y with
  |.v a,.v b=>(binS op a b).map fun r=>{v:=.v r}
  |_,_=>none
 |.eqB neg,[x,y]=>match x,y with
  |.v (.bool a),.v (.bool b)=>some {v:=.v (.bool ((a==b)!=neg))}
  |_,_=>none
 |.eqA neg ks,[x,y]=>match x,y with
  |.agg as,.agg bs=>if as.length=ks.length/\bs.length=ks.length then match cellsEq ks as bs with
    |some r=>some {v:=.v (.bool (r !=neg))}
    |none=>none
   else none
  |_,_=>none
 |.eqNil neg kd,[x,y]=>match isNilv kd x,isNilv kd y with
  |some a,some true=>some {v:=.v (.bool (a !=neg))}
  |some true,some b=>some {v:=.v (.bool (b !=neg))}
  |_,_=>none
 |.un op,[x]=>match x with
  |.v a=>(unS op a).map fun r=>{v:=.v r}
  |_=>none
 |.convI k,[x]=>match x with
  |.v (.int _ n)=>some {v:=.v (.int k (k.wrap n))}
  |_=>none
 |.convS,[x]=>match x with
  |.v (.string s)=>some {v:=.v (.string s)}
  |_=>none
 |.s2b _,[x]=>match x with
  |.v (.string s)=>some {v:=.is 1 (byteRows s)}
  |_=>none
 |.b2s,[x]=>match rowsOf L 1 x with
  |some rows=>(Au rows).map fun l=>{v:=.v (.string ⟨l.toArray⟩)}
  |none=>none
 |.mkfn f nf,xs=>some {v:=.fn f (xs.take nf) (xs.drop nf)}
 |.mkmap,[]=>some {v:=.map n,new:=some (.map [])}
 |.mksl ty esz _ zero,[l,c]=>match intOf l,intOf c with
  |some l,some c=>if 0<=l/\l<=c/\c<=maxRoom then
    some {v:=.sl esz n 0 0 l.toNat none,new:=some (.arr false ty esz 0 (List.replicate c.toNat (zeroRow zero)))}
   else none
  |_,_=>none
 |.slc esz lo hi mx,xs=>(sliceOp L esz lo hi mx xs).map fun v=>{v:=v}
 |.slcStr lo hi,x::bs=>match x with
  |.v (.string s)=>match bounds lo hi s.size bs with
   |some (l,h)=>if 0<=l/\l<=h/\h<=s.size then some {v:=.v (.string (s.extract l.toNat h.toNat))}else none
   |none=>none
  |_=>none
 |.lookup agg ks zero ok,[m,k]=>
  if keyOK agg ks k then
   match entsOf L m with
   |some es=>match findKey agg ks k es 0 with
    |some (some (_,x))=>some {v:=if ok then .tup [x,.v (.bool true)]else x}
    |some none=>some {v:=if ok then .tup [zero,.v (.bool false)]else zero}
    |none=>none
   |none=>none
  else none
 |.mapup agg ks,[m,k,x]=>match m with
  |.map id=>match L id with
   |some (.map es)=>if lim<=id/\keyOK agg ks k then match findKey agg ks k es 0 with
     |some (some (i,_))=>some {v:=.undef,up:=some (id,.map (es.set i (k,x)))}
     |some none=>some {v:=.undef,up:=some (id,.map (es++[(k,x)]))}
     |none=>none
    else none
   |_=>none
  |_=>none
 |.len kd,[x]=>match kd,x with
  |0,.is _ els=>some {v:=.int els.length}
  |0,.sl _ _ _ _ len _=>some {v:=.int len}
  |0,.v (.slice none 0 0)=>some {v:=.int 0}
  |0,.es=>some {v:=.int 0}
  |1,.v (.string s)=>some {v:=.int s.size}
  |2,.v (.map none)=>some {v:=.int 0}
  |2,.map id=>match L id with
   |some (.map es)=>some {v:=.int es.length}
   |_=>none
  |2,.im es=>some {v:=.int es.length}
  |_,_=>none
 |.cap,[x]=>match x with
  |.v (.slice none 0 0)=>some {v:=.int 0}
  |.es=>some {v:=.int 0}
  |_=>none
 |.append ty esz _ zero zeros,[s,x]=>
  match appRows L esz zeros zero x with
  |some new=>match appendTo L lim n ty esz s new with
   |some o=>(match o.v with|.sl _ _ _ _ len _=>if len<=maxRoom/\new.length<=maxRoom then some o else none|_=>some o)
   |none=>none
  |none=>none
 |.copy esz,[d,s]=>match rowsOf L esz s with
  |some rows=>match d with
   |.v (.slice none 0 0)=>some {v:=.int 0}
   |.es=>some {v:=.int 0}
   |.sl _ id ver off len _=>match L id with
    |some (.arr bx ty e ver' els)=>if ver'=ver/\e=esz/\off+len<=els.length/\lim<=id then
      some {v:=.int (min rows.length len),up:=some (id,.arr bx ty e ver (setL els off (rows.take (min rows.length len))))}
     else none
    |_=>none
   |_=>none
  |none=>none
 |.clear esz zero,[x]=>match x with
  |.v (.slice none 0 0)=>some {v:=.undef}
  |.es=>some {v:=.undef}
  |.sl _ id ver off len _=>match L id with
   |some (.arr bx ty e ver' els)=>if ver'=ver/\e=esz/\off+len<=els.length/\lim<=id then
     some {v:=.undef,up:=some (id,.arr bx ty e ver (setL els off (List.replicate len (zeroRow zero))))}
    else none
   |_=>none
  |_=>none
 |.mn,x::xs=>match x with
  |.v (.int k a)=>(foldMn k a xs).map fun r=>{v:=.v (.int k r)}
  |_=>none
 |.mx,x::xs=>match x with
  |.v (.int k a)=>(foldMx k a xs).map fun r=>{v:=.v (.int k r)}
  |_=>none
 |.ext i,[x]=>match x with
  |.tup vs=>match vs[i]? with
   |some v=>some {v:=v}
   |none=>none
  |_=>none
 |_,_=>none
def Out.apply (o:Out) (s:Hp):Hp:=
 let h:=match o.up with
  |some (id,ob)=>upd s.h id ob
  |none=>s.h
 match o.new with
 |some ob=>{h:=.ob s.n ob::h,n:=s.n+1}
 |none=>{h:=h,n:=s.n}
structure St where
 t:List AV
 s:Hp
inductive Ex where
 |normal
 |exit (id:Nat)
 |ret
 deriving DecidableEq
structure jW where
 fn:FuncId->Option IFn
 memo:FuncId->List AV->Option AV:=fun _ _=>none
instance:CoeFun jW fun _=>FuncId->Option IFn:=⟨jW.fn⟩
def oB (L:Nat->aB AO) (n0:Nat):Nat->AV->aB AV
 |0,_=>none
 |d+1,x=>match x with
  |.v y=>some (.v y)
  |.ip cs=>some (.ip cs)
  |.is e els=>some (.is e els)
  |.es=>some .es
  |.sl _ id ver off len _=>match L id with
   |some (.arr _ _ e ver' els)=>
    if n0<=id/\ver'=ver/\off+len<=els.length then(mapO (fun row=>mapO (oB L n0 d) row) ((els.drop off).take len)).map fun rows=>AV.is e rows else none
   |_=>none
  |.ptr id ver e o=>match L id with
   |some (.arr _ _ _ ver' els)=>
    if n0<=id/\ver'=ver then match els[e]? with
     |some row=>(mapO (oB L n0 d) (row.drop o)).map fun cs=>AV.ip cs
     |none=>none
    else none
   |_=>none
  |_=>none
def Rn (L:Nat->aB AO) (n0:Nat):AV->aB AV
 |.agg cs=>(mapO (oB L n0 6) cs).map AV.agg
 |x=>oB L n0 6 x
def fzC (L:Nat->aB AO) (n0:Nat) (x:AV):aB AV:=
 match x with
 |.sl _ id .. |.ptr id .. |.map id=>if id<n0 then some x else oB L n0 6 x
 |.fn (.func f) [] cap=>(mapO (oB L n0 6) cap).map fun c=>.fn (.func f) [] c
 |x=>oB L n0 6 x
def fz1 (L:Nat->aB AO) (n0:Nat):AV->aB AV
 |.agg cs=>(mapO (fzC L n0) cs).map AV.agg
 |x=>fzC L n0 x
def fz (L:Nat->aB AO) (n0:Nat):AV->aB AV
 |.tup vs=>(mapO (fz1 L n0) vs).map AV.tup
 |.map id=>if id<n0 then some (.map id)else match L id with
  |some (.map es)=>(mapO (fun(k,x)=>match Rn L n0 k,Rn L n0 x with|some k,some x=>some (k,x)|_,_=>none) es).map AV.im
  |_=>none
 |x=>fz1 L n0 x
def readRes (L:Nat->aB AO) (t:aA AV):RV->aB AV
 |.tmp i=>t[i]?
 |.cellS i=>match t[i]? with
  |some p=>(doOp L 0 0 .loadS [p]).map (·.v)
  |none=>none
 |.cellA i n=>match t[i]? with
  |some p=>(doOp L 0 0 (.loadA n) [p]).map (·.v)
  |none=>none
def results (L:Nat->aB AO) (t:aA AV) (a:aA RV):aB AV:=
 match mapO (readRes L t) a with
 |some [v]=>some v
 |some vs=>some (.tup vs)
 |none=>none
def closed:Nat->AV->Bool
 |0,_=>false
 |d+1,x=>match x with
  |.v _|.ip _|.is _ _|.es|.im _=>true
  |.fn (.func _) first cap=>first.all (closed d)&&cap.all (closed d)
  |.agg cs=>cs.all (closed d)
  |.tup cs=>cs.all (closed d)
  |_=>false
def Bu (L:Nat->aB AO):Nat->AV->aB AV
 |0,_=>none
 |d+1,x=>match x with
  |.fn (.func f) first cap=>match mapO (Bu L d) first,mapO (Bu L d) cap with
   |some a,some b=>some (.fn (.func f) a b)
   |_,_=>none
  |.agg cs=>(mapO (Bu L d) cs).map AV.agg
  |.im es=>some (.im es)
  |.map id=>match L id with
   |some (.map es)=>(mapO (fun(k,x)=>match Rn L 0 k,Rn L 0 x with|some k,some x=>some (k,x)|_,_=>none) es).map AV.im
   |_=>none
  |.ptr id ver e o=>match L id with
   |some (.arr _ _ _ ver' els)=>
    if ver'=ver then match els[e]? with
     |some row=>(mapO (Bu L d) (row.drop o)).map AV.ip
     |none=>none
    else none
   |_=>none
  |x=>oB L 0 6 x
def gnd:Nat->AV->Bool
 |0,_=>false
 |d+1,x=>match x with
  |.v _=>true
  |.agg cs=>cs.all (gnd d)
  |.tup cs=>cs.all (gnd d)
  |_=>false
section
variable (T:jW) (ex:Nat->Bool->IC->St->Option (Ex×St))
def body (lim:Nat) (fn:IFn) (args:aA AV) (s:Hp):aB (AV×Hp):=
 match ex lim false fn.body {t:=args++List.replicate (fn.ntmps-args.length) .undef,s:=s}with
 |some (.exit _,_)=>none
 |some (_,σ)=>(results (look σ.s.h) σ.t fn.res).map fun v=>(v,σ.s)
 |none=>none
def runP (f:FuncId) (fn:IFn) (args:aA AV):aB AV:=
 match T.memo f args with
 |some v=>some v
 |none=>match body ex 0 fn args {h:=[],n:=0}with
  |some (v,s')=>fz (look s'.h) 0 v
  |none=>none
def callF (lim:Nat) (f:FuncId) (args:aA AV) (s:Hp):aB (AV×Hp):=
 match T f with
 |none=>none
 |some fn=>
  if fn.pure then
   if args.all (closed 4)then(runP T ex f fn args).map fun v=>(v,s)
   else if fn.frz then
    match mapO (Bu (look s.h) 6) args with
    |some as=>match runP T ex f fn as with
     |some v=>if gnd 4 v then some (v,s)else none
     |none=>none
    |none=>none
   else
    match body ex s.n fn args s with
    |some (v,s')=>(fz (look s'.h) s.n v).map fun v=>(v,s)
    |none=>none
  else body ex lim fn args s
def putAll:aA AV->aA Nat->aA AV->aA AV
 |t,p::ps,a::as=>putAll (t.set p a) ps as
 |t,_,_=>t
def endRound (l:Nat) (s:Hp) (st:LoopState) (pend:aB IC):aB Hp:=
 match look s.h l with
 |some (.loop _ _ tmps params assign bd)=>some {h:=upd s.h l (.loop st pend tmps params assign bd),n:=s.n}
 |_=>none
def round (lim l:Nat) (args:aA AV) (s:Hp):aB (AV×Hp):=
 match look s.h l with
 |some (.loop _ _ tmps params assign bd)=>
  if lim<=l/\params.length=args.length then
   match ex lim true assign {t:=putAll tmps params args,s:=s}with
   |some (.normal,σ)=>
    match look σ.s.h l with
    |some (.loop .ready pend2 tmps2 params2 assign2 bd2)=>
     match ex lim true bd {t:=σ.t,s:={h:=upd σ.s.h l (.loop .busy pend2 tmps2 params2 assign2 bd2),n:=σ.s.n}}with
     |some (.normal,τ)=>(endRound l τ.s .ready none).map fun s=>(.bool true,s)
     |some (.ret,τ)=>(endRound l τ.s .done (some .ret)).map fun s=>(.bool false,s)
     |some (.exit id,τ)=>(endRound l τ.s .done (some (.exit id))).map fun s=>(.bool false,s)
     |none=>none
    |_=>none
   |_=>none
  else none
 |_=>none
def callV (lim:Nat) (f:AV) (args:aA AV) (s:Hp):aB (AV×Hp):=
 match f with
 |.fn (.func g) first cap=>callF T ex lim g (first++args++cap) s
 |.fn (.yield l) [] []=>round ex lim l args s
 |_=>none
def step (lim:Nat) (k:gC) (xs:aA AV) (s:Hp):aB (AV×Hp):=
 match k with
 |.callF f=>callF T ex lim f xs s
 |.callV=>match xs with
  |f::args=>callV T ex lim f args s
  |[]=>none
 |k=>match doOp (look s.h) lim s.n k xs with
  |some o=>some (o.v,o.apply s)
  |none=>none
def put (t:aA AV) (d:aB Nat) (v:AV):aA AV:=
 match d with
 |some i=>t.set i v
 |none=>t
def wanted (t:aA AV):aB (Nat×Bool)->Bool
 |none=>true
 |some (i,w)=>match t[i]? with
  |some (.v (.bool b))=>b==w
  |_=>false
def runOps (lim:Nat):aA Sim.Op1->St->aB St
 |[],σ=>some σ
 |o::os,σ=>
  if wanted σ.t o.guard then
   match evs σ.t o.xs with
   |some xs=>match step T ex lim o.k xs σ.s with
    |some (v,s)=>runOps lim os {t:=put σ.t o.dst v,s:=s}
    |none=>none
   |none=>none
  else runOps lim os {t:=put σ.t o.dst .undef,s:=σ.s}
structure Foot where
 rd:List Nat:=[]
 wr:List Nat:=[]
 al:List Nat:=[]
 all:Nat:=0
 x:Bool:=false
def idOf:AV->aA Nat
 |.ptr id .. |.sl _ id .. |.map id=>[id]
 |_=>[]
def foot (k:gC) (xs:aA AV):Foot:=
 match k,xs with
 |.loadS,[p]|.loadA _,[p]=>{rd:=idOf p}
 |.store _,p::_=>{wr:=idOf p}
 |.lookup ..,m::_=>{rd:=idOf m}
 |.mapup ..,m::_=>{wr:=idOf m}
 |.append ..,[s,x]=>{rd:=idOf x,wr:=idOf s}
 |.copy _,[d,s]=>{rd:=idOf s,wr:=idOf d}
 |.clear ..,[x]=>{wr:=idOf x}
 |.len kd,[x]=>{rd:=bif Nat.beq kd 2 then idOf x else[]}
 |.slc ..,x::_=>{rd:=idOf x}
 |.b2s,[x]=>{rd:=idOf x}
 |.callF f,xs=>{all:=match T f with|some fn=>if fn.pure then 1 else if fn.frz then 3 else 2|none=>2,x:=match T f with|some fn=>fn.pure&&(fn.frz||xs.all (closed 4))|none=>false}
 |.callV,f::args=>{all:=match f with|.fn (.func g) _ _=>(match T g with|some fn=>if fn.pure then 1 else if fn.frz then 3 else 2|none=>2)|_=>2,x:=match f with|.fn (.func g) first cap=>(match T g with|some fn=>fn.pure&&(fn.frz||(first++args++cap).all (closed 4))|none=>false)|_=>false}
 |.callV,[]=>{all:=2}
 |_,_=>{}
def Foot.isE (f:Foot):Bool:=f.rd.isEmpty&&f.wr.isEmpty&&f.al.isEmpty&&Nat.beq f.all 0
def compat0 (i j:Foot):Bool:=
 i.all+j.all<=1&&
 i.wr.all (fun x=> !j.rd.contains x&& !j.wr.contains x)&&j.wr.all (fun x=> !i.rd.contains x)&&
 i.al.all (fun x=> !j.rd.contains x&& !j.wr.contains x)&&
 (i.all==0||j.wr.isEmpty)&&(j.all==0||i.wr.isEmpty)
def compat (i j:Foot):Bool:=i.isE||j.isE||compat0 i j
def hide:aA Nat->aA fQ->aA fQ
 |[],h=>h
 |id::ids,h=>hide ids (rm id h)
 where
 rm (id:Nat):aA fQ->aA fQ
  |[]=>[]
  |.mark::r=>.mark::rm id r
  |.ob i o::r=>if i=id then r else .ob i o::rm id r
def unseen (a:Nat):Nat->aA Foot->aA Nat
 |_,[]=>[]
 |j,f::fs=>(if a.testBit (j-1)then[]else f.al)++unseen a (j-1) fs
def nameOK (p:Nat->Bool):Nat->AV->Bool
 |0,_=>false
 |d+1,x=>match x with
  |.v _|.ip _|.is _ _|.es|.im _=>true
  |.ptr id .. |.sl _ id .. |.map id=>p id
  |.fn f a b=>(match f with|.yield l=>p l|_=>true)&&a.all (nameOK p d)&&b.all (nameOK p d)
  |.agg cs=>cs.all (nameOK p d)
  |.tup cs=>cs.all (nameOK p d)
def eR (p:Nat->Bool):AO->Bool
 |.arr _ _ _ _ els=>els.all fun r=>r.all (nameOK p 6)
 |.map es=>es.all fun q=>nameOK p 6 q.1&&nameOK p 6 q.2
 |.loop _ _ tmps _ _ _=>tmps.all (nameOK p 6)
def entsOK (p:Nat->Bool):aA fQ->Bool
 |[]=>true
 |.mark::r=>entsOK p r
 |.ob _ o::r=>eR p o&&entsOK p r
def eqV:Value->Value->Bool
 |.bool a,.bool b=>a==b
 |.int k a,.int k' b=>decide (k=k')&&a==b
 |.string a,.string b=>a.data.toList==b.data.toList
 |.pointer none,.pointer none=>true
 |.slice none 0 0,.slice none 0 0=>true
 |.map none,.map none=>true
 |.nilFunc,.nilFunc=>true
 |.nilIface,.nilIface=>true
 |_,_=>false
def Hm {α:Type} (f:α->α->Bool):aA α->aA α->Bool
 |[],[]=>true
 |a::as,b::bs=>f a b&&Hm f as bs
 |_,_=>false
def wU:Nat->AV->AV->Bool
 |0,_,_=>false
 |d+1,x,y=>match x,y with
  |.v a,.v b=>eqV a b
  |.ip a,.ip b=>Hm (wU d) a b
  |.is e a,.is e' b=>Nat.beq e e'&&Hm (Hm (wU d)) a b
  |.ptr a b c e,.ptr a' b' c' e'=>Nat.beq a a'&&Nat.beq b b'&&Nat.beq c c'&&Nat.beq e e'
  |.sl a b c e f g,.sl a' b' c' e' f' g'=>Nat.beq a a'&&Nat.beq b b'&&Nat.beq c c'&&Nat.beq e e'&&Nat.beq f f'&&decide (g=g')
  |.es,.es=>true
  |.map a,.map b=>Nat.beq a b
  |.fn (.func f) a b,.fn (.func g) a' b'=>Nat.beq f g&&Hm (wU d) a a'&&Hm (wU d) b b'
  |.agg a,.agg b=>Hm (wU d) a b
  |.tup a,.tup b=>Hm (wU d) a b
  |_,_=>false
def tG1:AO->AO->Bool
 |.arr a b c e f,.arr a' b' c' e' f'=>a==a'&&Nat.beq b b'&&Nat.beq c c'&&Nat.beq e e'&&Hm (Hm (wU 12)) f f'
 |.map a,.map b=>Hm (fun p q=>wU 12 p.1 q.1&&wU 12 p.2 q.2) a b
 |_,_=>false
noncomputable def same (o o':AO):Bool:=@decide (o=o') (Classical.propDecidable _)
noncomputable def changed (L:Nat->aB AO):aA fQ->aB (aA (Nat×AO))
 |[]=>some []
 |.mark::r=>changed L r
 |.ob i o::r=>match L i,changed L r with
  |some o',some l=>if tG1 o o'||same o o' then some l else some ((i,o')::l)
  |_,_=>none
def newEnts (n:Nat):aA fQ->aA fQ
 |.ob i o::r=>if n<=i then .ob i o::newEnts n r else[]
 |_=>[]
def updAll:aA (Nat×AO)->aA fQ->aA fQ
 |[],h=>h
 |(i,o)::r,h=>updAll r (upd h i o)
def newOK (q:Nat->Bool) (n:Nat) (h:aA fQ):aA fQ:=(newEnts n h).filter fun e=>match e with|.ob _ o=>eR q o|.mark=>false
def mks:aA fQ->aA fQ
 |[]=>[]
 |.mark::r=>.mark::mks r
 |.ob _ _::r=>mks r
def nmsV:Nat->AV->aA Nat
 |0,_=>[]
 |d+1,x=>match x with
  |.ptr id .. |.sl _ id .. |.map id=>[id]
  |.fn f a b=>(match f with|.yield l=>[l]|_=>[])++(a.flatMap (nmsV d)++b.flatMap (nmsV d))
  |.agg cs=>cs.flatMap (nmsV d)
  |.tup cs=>cs.flatMap (nmsV d)
  |_=>[]
def nmsO:AO->aA Nat
 |.arr _ _ _ _ els=>els.flatMap fun r=>r.flatMap (nmsV 6)
 |_=>[]
def nmsL (L:Nat->aB AO) (id:Nat):aA Nat:=match L id with|some o=>nmsO o|none=>[]
def rchN (L:Nat->aB AO):Nat->aA Nat->aA Nat
 |0,R=>R
 |k+1,R=>R++rchN L k (R.flatMap (nmsL L))
def rchX (L:Nat->aB AO) (xs:aA AV):aA Nat:=rchN L 7 (xs.flatMap (nmsV 6))
def jA (R:aA Nat):aA fQ->aA fQ
 |[]=>[]
 |.mark::r=>.mark::jA R r
 |.ob i o::r=>bif R.contains i then .ob i o::jA R r else jA R r
def nbF (fs:aA Foot):Bool:=fs.all fun f=>Nat.beq f.all 0||f.x
noncomputable def callX (b:Bool) (run:Hp->aB (AV×Hp)) (a:aA Nat) (xs:aA AV) (s:Hp):aB (AV×Hp×aA Nat):=
 let R:=rchX (look s.h) xs
 let p:=fun id=>R.contains id&&(Nat.blt id s.n&& !a.contains id)
 let H:=hide a (jA R s.h)
 if entsOK p H&&xs.all (nameOK p 6)then
  match run {h:=H,n:=s.n}with
  |some (v,s')=>match changed (look s'.h) H with
   |some w=>
    let q:=fun id=>p id||(Nat.ble s.n id&&Nat.blt id s'.n)
    let N:=newOK q s.n s'.h
    if nameOK q 6 v&&w.all (fun e=>eR q e.2)&&(b||Nat.ble s'.n (s.n+1048576))then some (v,{h:=N++updAll w s.h,n:=s'.n},w.map (·.1))else none
   |none=>none
  |none=>none
 else none
def rsv (k:Nat):Nat:=k*1048576
noncomputable def eN (lim:Nat) (before:aA Nat):aA Sim.Op1->Nat->aA Foot->St->aB (St×aA Foot)
 |[],_,fs,σ=>some (σ,fs)
 |o::os,j,fs,σ=>
  if wanted σ.t o.guard then
   match evs σ.t o.xs with
   |some xs=>
    let ft:=foot T o.k xs
    if ft.all=1 then
     match step T ex lim o.k xs {h:=hide (unseen (before.getD j 0) j fs) σ.s.h,n:=σ.s.n+rsv (os.length+1)}with
     |some (v,_)=>eN lim before os (j+1) (ft::fs) {t:=put σ.t o.dst v,s:=σ.s}
     |none=>none
    else if ft.all=3 then
     match callX (nbF fs) (step T ex lim o.k xs) (unseen (before.getD j 0) j fs) xs σ.s with
     |some (v,s,w)=>eN lim before os (j+1) ({wr:=w,al:=List.range' σ.s.n (s.n-σ.s.n),all:=1,x:=true}::fs) {t:=put σ.t o.dst v,s:=s}
     |none=>none
    else
     match step T ex lim o.k xs σ.s with
     |some (v,s)=>eN lim before os (j+1) ({ft with al:=List.range' σ.s.n (s.n-σ.s.n)}::fs) {t:=put σ.t o.dst v,s:=s}
     |none=>none
   |none=>none
  else eN lim before os (j+1) ({}::fs) {t:=put σ.t o.dst .undef,s:=σ.s}
def drawOK (before:aA Nat):aA Foot->Nat->Bool
 |[],_=>true
 |f::fs,j=>okAgainst (before.getD (j-1) 0) f fs (j-1)&&drawOK before fs (j-1)
 where
 okAgainst (a:Nat) (f:Foot):aA Foot->Nat->Bool
  |[],_=>true
  |g::gs,i=>(a.testBit (i-1)||compat g f)&&okAgainst a f gs (i-1)
end
noncomputable def exec (T:jW):Nat->Nat->Bool->IC->St->aB (Ex×St)
 |0,_,_,_,_=>none
 |d+1,lim,rd,c,σ=>
  match c with
  |.skip=>some (.normal,σ)
  |.reg ops=>(runOps T (exec T d) lim ops σ).map fun σ=>(.normal,σ)
  |.regD ops before=>match eN T (exec T d) lim before ops 0 [] σ with
   |some (τ,fs)=>if drawOK before fs fs.length then some (.normal,τ)else none
   |none=>none
  |.seq a b=>match exec T d lim rd a σ with
   |some (.normal,σ)=>exec T d lim rd b σ
   |r=>r
  |.cond c a b=>match c.ev σ.t with
   |some (.v (.bool t))=>exec T d lim rd (if t then a else b) σ
   |_=>none
  |.block id c=>match exec T d lim rd c σ with
   |some (.exit i,σ)=>if i=id then some (.normal,σ)else some (.exit i,σ)
   |r=>r
  |.loop c=>match exec T d lim rd c {t:=σ.t,s:={h:=.mark::σ.s.h,n:=σ.s.n}}with
   |some (.normal,σ)=>exec T d lim rd (.loop c) {t:=σ.t,s:={h:=popMark σ.s.h,n:=σ.s.n}}
   |some (e,σ)=>some (e,{t:=σ.t,s:={h:=popMark σ.s.h,n:=σ.s.n}})
   |none=>none
  |.rangeF f params assign bd=>
   match f.ev σ.t with
   |some (.fn (.func g) first cap)=>
    match callF T (exec T d) lim g (first++[.fn (.yield σ.s.n) [] []]++cap) {h:=.ob σ.s.n (.loop .ready none σ.t params assign bd)::σ.s.h,n:=σ.s.n+1}with
    |some (_,s)=>match look s.h σ.s.n with
     |some (.loop st pend _ _ _ _)=>if st=.busy then none else
      match endRound σ.s.n s .exhausted pend with
      |none=>none
      |some s=>match pend with
       |none=>some (.normal,{t:=σ.t,s:=s})
       |some .ret=>some (.ret,{t:=σ.t,s:=s})
       |some (.exit id)=>some (.exit id,{t:=σ.t,s:=s})
       |_=>none
     |_=>none
    |none=>none
   |_=>none
  |.exit id=>some (.exit id,σ)
  |.ret=>some (.ret,σ)
end Go.Sim
namespace Go.Sim
def Ha:Operand->aB IX
 |.tmp t=>some (.t t)
 |.const v=>(AV.ofValue v).map .c
 |.global _=>none
 |.func f=>some (.c (.fn (.func f) [] []))
def My (xs:aA Operand):aB (aA IX):=mapO Ha xs
def dS (P:Program) (t:TypeId):Bool:=
 match P.underlying t with
 |some (.struct _)|some (.array _ _)=>true
 |_=>false
def bD1 (P:Program) (t:TypeId):Bool:=
 match P.underlying t with
 |some (.struct fs)=>fs.toList.all fun f=>(P.info? f.type).isSome
 |some (.array _ e)=>(P.info? e).isSome
 |_=>false
def oG (P:Program) (t:TypeId):aB (aA Value):=
 match P.info? t with
 |some i=>match i.zero with
  |some z=>let cs:=z.cells.toList;if cs.all Value.ground&&cs.length==i.size&&i.size !=0 then some cs else none
  |none=>none
 |none=>none
def Jy (P:Program) (t:TypeId):aB AV:=
 match P.info? t with
 |some i=>match i.zero with
  |some z=>AV.ofValue z
  |none=>none
 |none=>none
def pL (f:TypeId->aB (aA CK)) (P:Program):aA Field->Nat->aB (aA CK)
 |[],_=>some []
 |x::xs,off=>
  if x.offset=off/\x.name≠ "_" then
   match f x.type,P.info? x.type with
   |some ks,some i=>if i.size=ks.length/\ks.length≠0 then match pL f P xs (off+ks.length)with
     |some r=>some (ks++r)
     |none=>none
    else none
   |_,_=>none
  else none
def fM (P:Program):Nat->TypeId->aB (aA CK)
 |0,_=>none
 |d+1,t=>
  match P.underlying t with
  |some .bool=>some [.b]
  |some (.int _)=>some [.i]
  |some .string=>some [.s]
  |some (.struct fs)=>if P.stoodInHeld t then none else pL (fM P d) P fs.toList 0
  |some (.array n e)=>match fM P d e,P.info? e with
   |some ks,some i=>if i.size=ks.length/\ks.length≠0 then some ((List.replicate n ks).flatten)else none
   |_,_=>none
  |_=>none
def kD (P:Program) (t:TypeId):aB (Bool×aA CK):=
 match P.underlying t with
 |some .bool|some (.int _)|some .string=>(fM P 1 t).map fun ks=>(false,ks)
 |some (.struct fs)=>if(fs.toList.all fun f=>match P.underlying f.type with|some .bool|some (.int _)|some .string=>true|_=>false)then(fM P 2 t).map fun ks=>(true,ks)else none
 |_=>none
def kE (P:Program) (b:Builtin) (a:aA TypeId) (type:TypeId):aB gC:=
  match b,a with
  |.len,[t]=>match P.underlying t with
    |some (.slice _)=>some (.len 0)
    |some .string=>some (.len 1)
    |some (.map _ _)=>some (.len 2)
    |_=>none
  |.append,[s,x]=>match P.underlying s with
    |some (.slice e)=>match P.info? e,oG P e with
      |some i,some z=>if i.bytes<=2^16 then
          (match P.underlying x with
           |some (.int .i64)=>some (.append e i.size i.bytes z true)
           |some (.slice _)|some .string=>some (.append e i.size i.bytes z false)
           |_=>none)else none
      |_,_=>none
    |_=>none
  |.clear,[t]=>match P.underlying t with
    |some (.slice e)=>match oG P e with
      |some z=>some (.clear z.length z)
      |none=>none
    |_=>none
  |.min,_=>some .mn
  |.max,_=>some .mx
  |_,_=>let _:=type;none
def fieldsOf (P:Program) (t:TypeId):aB (aA Field):=
 match P.underlying t with
 |some (.struct fs)=>some fs.toList
 |_=>none
def oC (P:Program) (t:TypeId):aA Nat->aB (aA (Nat×Nat))
 |[]=>some []
 |i::is=>match oC P t is with
  |none=>none
  |some r=>match P.underlying t with
   |some (.struct fs)=>match fs[i]? with
    |some f=>match P.info? f.type with
     |some fi=>some ((f.offset,fi.size)::r)
     |none=>none
    |none=>none
   |some (.array _ e)=>match P.info? e with
    |some ei=>some ((i*ei.size,ei.size)::r)
    |none=>none
   |_=>none
def jZ (P:Program) (o:Op) (type:TypeId):aB (gC×aA Operand):=
  match o with
  |.move x|.assign x=>some (.mov,[x])
  |.nilCheck x=>some (.nilc,[x])
  |.pick c a b=>some (.pick,[c,a,b])
  |.box ty x=>match P.info? ty with
    |some i=>some (.box ty i.size,[x])
    |none=>none
  |.alloc ty=>(oG P ty).map fun z=>(.alloc ty z,[])
  |.build t parts=>match P.info? t with
    |some i=>match i.zero with
      |some z=>if z.cells.toList.all Value.ground&&bD1 P t then
          match oC P t (parts.toList.map (·.1))with
          |some ps=>some (.build z.cells.toList ps,parts.toList.map (·.2))
          |none=>none
        else none
      |none=>none
    |none=>none
  |.buildSlice t len parts=>match P.underlying t with
    |some (.slice e)=>match oG P e with
      |some z=>if len*z.length<=2^24 then some (.buildSl e z.length len z (parts.toList.map (·.1)),parts.toList.map (·.2))else none
      |none=>none
    |_=>none
  |.load t a=>match P.underlying t,P.info? t with
    |some _,some i=>some (if dS P t then .loadA i.size else .loadS,[a])
    |_,_=>none
  |.store t a v=>match P.info? t with
    |some i=>some (.store i.size,[a,v])
    |none=>none
  |.fieldAddr s x f=>match P.underlying s with
    |some (.struct fs)=>match fs[f]? with
      |some fd=>match P.info? fd.type with
        |some i=>if i.size≠0 then some (.fad fd.offset,[x])else none
        |none=>none
      |none=>none
    |_=>none
  |.indexAddr t x i=>match P.underlying t with
    |some (.slice e)=>match P.info? e with
      |some ei=>if ei.size≠0 then some (.iad ei.size,[x,i])else none
      |none=>none
    |some (.array n e)=>match P.info? e with
      |some ei=>some (.iadA n ei.size,[x,i])
      |none=>none
    |_=>none
  |.index t x i=>match P.underlying t with
    |some .string=>some (.idxStr,[x,i])
    |some (.array n e)=>match P.underlying e,P.info? e with
      |some _,some ei=>some (.idxA n ei.size (dS P e),[x,i])
      |_,_=>none
    |_=>none
  |.binOp op t x y _=>match P.underlying t with
    |some (.int _)|some .string=>some (.bin op,[x,y])
    |some .bool=>match op with
      |.eql=>some (.eqB false,[x,y])
      |.neq=>some (.eqB true,[x,y])
      |_=>none
    |some (.struct _)|some (.array _ _)=>match fM P 20 t with
      |some ks=>if P.eqGuardType P.depth t then none else
        (match op with
         |.eql=>some (.eqA false ks,[x,y])
         |.neq=>some (.eqA true ks,[x,y])
         |_=>none)
      |none=>none
    |some d=>match(match d with|.slice _=>some 0|.pointer _=>some 1|.map _ _=>some 2|.func _ _ _=>some 3|_=>none:aB Nat)with
      |some kd=>(match op with
         |.eql=>some (.eqNil false kd,[x,y])
         |.neq=>some (.eqNil true kd,[x,y])
         |_=>none)
      |none=>none
    |_=>none
  |.unOp op _ x=>some (.un op,[x])
  |.convert src dst x=>match P.underlying src,P.underlying dst with
    |some (.int _),some (.int k)=>some (.convI k,[x])
    |some .string,some (.slice e)=>match P.underlying e with
      |some (.int .u8)=>if P.cellsOf e=1 then some (.s2b e,[x])else none
      |_=>none
    |_,_=>none
  |.makeFunc fn first captured=>match fn with
    |.func _=>some (.mkfn fn first.size,first.toList++captured.toList)
    |_=>none
  |.makeMap t none=>match P.underlying t with
    |some (.map _ _)=>some (.mkmap,[])
    |_=>none
  |.makeSlice t l c=>match P.underlying t with
    |some (.slice e)=>match P.info? e,oG P e with
      |some i,some z=>if i.bytes<=2^16 then some (.mksl e i.size i.bytes z,[l,c])else none
      |_,_=>none
    |_=>none
  |.slice t x l h m=>match P.underlying t with
    |some (.slice e)=>match P.info? e with
      |some i=>if i.size≠0/\(m.isSome->h.isSome)then some (.slc i.size l.isSome h.isSome m.isSome,x::(l.toList++h.toList++m.toList))else none
      |none=>none
    |_=>none
  |.lookup t x i ok=>match P.underlying t with
    |some (.map k e)=>match Jy P e,kD P k with
      |some z,some (agg,ks)=>some (.lookup agg ks z ok,[x,i])
      |_,_=>none
    |_=>none
  |.mapUpdate t m k x=>match P.underlying t with
    |some (.map kt _)=>match kD P kt with
      |some (agg,ks)=>some (.mapup agg ks,[m,k,x])
      |none=>none
    |_=>none
  |.extract x i=>some (.ext i,[x])
  |.call c=>match c.callee with
    |.value (.func f)=>some (.callF f,c.args.toList)
    |.value f=>some (.callV,f::c.args.toList)
    |.builtin b=>(kE P b c.argTypes.toList type).map fun k=>(k,c.args.toList)
    |.invoke .. =>none
  |_=>none
def lV (P:Program) (ops:aA Oper) (o:Oper):aB Sim.Op1:=
 match(jZ P o.op o.type).getD (.fail,[])with
 |(k,xs)=>match My xs with
  |none=>none
  |some ixs=>match o.guard with
   |none=>some {dst:=o.dst,k,xs:=ixs,guard:=none}
   |some (j,w)=>match ops[j]? with
    |some oj=>match oj.dst with
     |some d=>some {dst:=o.dst,k,xs:=ixs,guard:=some (d,w)}
     |none=>none
    |none=>none
def pT (a:aA Nat):aA Edge->Nat
 |[]=>0
 |e::es=>if Region.binds .any e then(2^e.on|||a.getD e.on 0)|||pT a es else pT a es
def cZ (a:aA Nat):aA Oper->aA Nat
 |[]=>a
 |o::os=>cZ (a++[pT a o.after.toList]) os
def Op1.reads (o:Sim.Op1):aA Nat:=
 (o.xs.filterMap fun|.t i=>some i|.c _=>none)++(match o.guard with|some (i,_)=>[i]|none=>[])
def Jz (j:Nat) (o:Sim.Op1) (a:Nat):aA Sim.Op1->Nat->Bool
 |[],_=>true
 |p::ps,i=>(i>=j||a.testBit i||(match p.dst with
   |some d=>o.dst !=some d&& !o.reads.contains d
   |none=>true)&&(match o.dst with
   |some d=> !p.reads.contains d
   |none=>true))&&Jz j o a ps (i+1)
def bE1 (ops:aA Oper) (ios:aA Sim.Op1) (a:aA Nat):Bool:=
 (ops.zipIdx.all fun(o,i)=>o.after.toList.all fun e=> !Region.binds .any e||decide (e.on<i))&&
 (ios.zipIdx.all fun(o,j)=>Jz j o (a.getD j 0) ios 0)
def comp (P:Program):Code->aB IC
 |.skip=>some .skip
 |.region _ ops d=>
  match mapO (lV P ops.toList) ops.toList with
  |none=>none
  |some os=>if d then
    (if bE1 ops.toList os (cZ [] ops.toList)then some (.regD os (cZ [] ops.toList))else none)
   else some (.reg os)
 |.seq a b=>match comp P a,comp P b with
  |some x,some y=>some (.seq x y)
  |_,_=>none
 |.cond c a b=>match Ha c,comp P a,comp P b with
  |some o,some x,some y=>some (.cond o x y)
  |_,_,_=>none
 |.block id c=>(comp P c).map (.block id)
 |.loop c=>(comp P c).map .loop
 |.rangeFunc f ps a b=>match Ha f,comp P a,comp P b with
  |some o,some x,some y=>some (.rangeF o ps.toList x y)
  |_,_,_=>none
 |.exit id=>some (.exit id)
 |.ret=>some .ret
 |.scope c=>(comp P c).map fun x=>.seq x .skip
 |.label _=>some .skip
 |_=>none
def compRes (P:Program):ResultVar->aB RV
 |.tmp t=>some (.tmp t)
 |.cell a t=>match P.underlying t,P.info? t with
  |some _,some i=>some (if dS P t then .cellA a i.size else .cellS a)
  |_,_=>none
def nH (P:Program) (fn:Func) (pure frz:Bool):aB IFn:=
 match fn.body with
 |none=>none
 |some c=>match comp P c,mapO (compRes P) fn.results.toList with
  |some ic,some rs=>if fn.name != "runtime.NumGoroutine" then some {ntmps:=fn.ntmps,res:=rs,body:=ic,pure,frz}else none
  |_,_=>none
end Go.Sim
namespace Go.Sim
structure Hb where
 b:Nat
 esz:Nat
 ct:Nat
 ver:Nat
structure Gh where
 G:Nat->Option Obj
 ι:Nat->Option Hb
def Gh.still (g:Gh):Gh:={G:=g.G,ι:=fun _=>none}
def Gh.cell (g:Gh) (a:Addr) (j:Nat):aB Value:=
 match g.G a.block with
 |some (.cells c _ _)=>c[a.off+j]?
 |_=>none
def isCell:Value->Bool
 |.agg _|.tuple _=>false
 |_=>true
inductive VR:Gh->AV->Value->Prop
 |v {g:Gh} {x:Value} (h:Value.ground x=true):VR g (.v x) x
 |ip {g:Gh} {cells:List AV} {a:Addr} (hs:a.spot=none)
   (hc:∀(j:Nat) (x:AV),cells[j]? =some x->∃y,g.cell a j=some y/\isCell y=true)
   (hv:∀(j:Nat) (x:AV) (y:Value),cells[j]? =some x->g.cell a j=some y->VR g.still x y):VR g (.ip cells) (.pointer (some a))
 |is {g:Gh} {esz:Nat} {els:List (List AV)} {a:Addr} {cap:Nat} (hs:a.spot=none) (hl:els.length<=cap)
   (hr:∀(i:Nat) (row:List AV),els[i]? =some row->row.length=esz)
   (hc:∀(i:Nat) (row:List AV) (j:Nat) (x:AV),els[i]? =some row->row[j]? =some x->∃y,g.cell a (i*esz+j)=some y/\isCell y=true)
   (hv:∀(i:Nat) (row:List AV) (j:Nat) (x:AV) (y:Value),els[i]? =some row->row[j]? =some x->g.cell a (i*esz+j)=some y->VR g.still x y):
   VR g (.is esz els) (.slice (some a) els.length cap)
 |is0 {g:Gh} {esz cap:Nat} {p:Addr}:VR g (.is esz []) (.slice (some p) 0 cap)
 |es {g:Gh} {a:Option Addr}:VR g .es (.slice a 0 0)
 |ptr {g:Gh} {id ver e o:Nat} {loc:Hb} {p:Addr} (hi:g.ι id=some loc) (hver:ver<=loc.ver)
   (hp:loc.ver=ver->p=⟨loc.b,e*loc.esz+o,none⟩):VR g (.ptr id ver e o) (.pointer (some p))
 |sl {g:Gh} {esz id ver off len:Nat} {cap:Option Nat} {loc:Hb} {p:Addr} {c:Nat} (hi:g.ι id=some loc) (hver:ver<=loc.ver) (hlen:len<=c) (hs:p.spot=none)
   (hp:loc.ver=ver->loc.esz=esz/\(c=0\/p=⟨loc.b,off*loc.esz,none⟩)/\off+c<=loc.ct/\(cap=none->off+c=loc.ct)/\(∀k,cap=some k->c=k)):
   VR g (.sl esz id ver off len cap) (.slice (some p) len c)
 |map {g:Gh} {id b:Nat} {loc:Hb} (hi:g.ι id=some loc) (hp:loc.ver=0->b=loc.b):VR g (.map id) (.map (some b))
 |im {g:Gh} {es:List (AV×AV)} {b clock:Nat} {ents:Array MapEntry} (hb:g.G b=some (.map ents clock)) (hl:ents.size=es.length)
   (hk:∀(i:Nat) (k x:AV) (e:MapEntry),es[i]? =some (k,x)->ents[i]? =some e->VR g.still k e.key)
   (hv:∀(i:Nat) (k x:AV) (e:MapEntry),es[i]? =some (k,x)->ents[i]? =some e->VR g.still x e.val):VR g (.im es) (.map (some b))
 |fn {g:Gh} {f:FuncId} {first cap:List AV} {first' cap':Array Value} (h1:first.length=first'.size) (h2:cap.length=cap'.size)
   (v1:∀(i:Nat) (x:AV) (y:Value),first[i]? =some x->first'[i]? =some y->VR g x y) (v2:∀(i:Nat) (x:AV) (y:Value),cap[i]? =some x->cap'[i]? =some y->VR g x y):
   VR g (.fn (.func f) first cap) (.func (.func f) first' cap')
 |yield {g:Gh} {l b:Nat} {loc:Hb} (hi:g.ι l=some loc) (hp:loc.ver=0->b=loc.b):VR g (.fn (.yield l) [] []) (.func (.yield b) #[] #[])
 |agg {g:Gh} {cs:List AV} {Cs:Array Value} (hl:cs.length=Cs.size) (hc:∀(i:Nat) (y:Value),Cs[i]? =some y->isCell y=true)
   (hv:∀(i:Nat) (x:AV) (y:Value),cs[i]? =some x->Cs[i]? =some y->VR g x y):VR g (.agg cs) (.agg Cs)
 |tup {g:Gh} {cs:List AV} {Cs:Array Value} (hl:cs.length=Cs.size)
   (hv:∀(i:Nat) (x:AV) (y:Value),cs[i]? =some x->Cs[i]? =some y->VR g x y):VR g (.tup cs) (.tuple Cs)
structure Gh.le (g g':Gh):Prop where
 G:∀b o,g.G b=some o->g'.G b=some o
 ι:∀id loc,g.ι id=some loc->∃loc',g'.ι id=some loc'/\loc.ver<=loc'.ver/\(loc.ver=loc'.ver->loc'=loc)
def Gh.le.refl (g:Gh):g.le g:=⟨fun _ _ h=>h,fun _ loc h=>⟨loc,h,yX2 _,fun _=>rfl⟩⟩
def Gh.le.trans {a b c:Gh} (h:a.le b) (k:b.le c):a.le c where
 G:=fun x o j=>k.G x o (h.G x o j)
 ι:=fun id loc hi=>by
  obtain⟨d,h1,v1,f⟩:=h.ι id loc hi
  obtain⟨l,h2,v2,e2⟩:=k.ι id d h1
  refine⟨l,h2,zX2 v1 v2,fun e=>?_⟩
  have:d.ver=loc.ver:=by omega
  have g:=f this.symm
  have i:=e2 (by omega)
  rw[i,g]
def Gh.le.still {g g':Gh} (h:g.le g'):g.still.le g'.still:=⟨h.G,fun _ _ h=>by simp[Gh.still]at h⟩
def Gh.le.cell {g g':Gh} (h:g.le g') {a:Addr} {j:Nat} {y:Value} (hy:g.cell a j=some y):g'.cell a j=some y:=by
 unfold Gh.cell at hy ⊢;split at hy;rename_i c ty fr he;rw[h.G _ _ he];exact hy;cases hy
def VR.mono {g:Gh} {x:AV} {V:Value} (h:VR g x V):∀{g'},g.le g'->VR g' x V:=by
 induction h with
 |v h=>intro g' _;exact .v h
 |ip hs hc hv ih=>
  intro g' hg;refine .ip hs (fun j x f=>?_) (fun j x y f hy=>?_);obtain⟨y,h1,h2⟩:=hc j x f;exact⟨y,hg.cell h1,h2⟩;obtain⟨l,h1,_⟩:=hc j x f;have h2:=hg.cell h1;rw[h2]at hy;cases hy;exact ih j x _ f h1 hg.still
 |is hs hl hr hc hv ih=>
  intro g' hg;refine .is hs hl hr (fun i row j x h1 h2=>?_) (fun i row j x y h1 h2 hy=>?_);obtain⟨y,c,d⟩:=hc i row j x h1 h2;exact⟨y,hg.cell c,d⟩;obtain⟨l,c,_⟩:=hc i row j x h1 h2;have d:=hg.cell c;rw[d]at hy;cases hy;exact ih i row j x _ h1 h2 c hg.still
 |is0=>intro g' _;exact .is0
 |es=>intro g' _;exact .es
 |ptr hi hver hp=>
  intro g' hg;obtain⟨l',h1,h2,c⟩:=hg.ι _ _ hi;refine .ptr h1 (zX2 hver h2) (fun e=>?_);have d:=c (by omega);subst d;exact hp e
 |sl hi hver hlen hs hp=>
  intro g' hg;obtain⟨l',h1,h2,c⟩:=hg.ι _ _ hi;refine .sl h1 (zX2 hver h2) hlen hs (fun e=>?_);have d:=c (by omega);subst d;exact hp e
 |map hi hp=>
  intro g' hg;obtain⟨l',h1,h2,c⟩:=hg.ι _ _ hi;refine .map h1 (fun e=>?_);have d:=c (by omega);subst d;exact hp e
 |im hb hl hk hv ihk ihv=>
  intro g' hg;exact .im (hg.G _ _ hb) hl (fun i k x e h1 h2=>ihk i k x e h1 h2 hg.still) (fun i k x e h1 h2=>ihv i k x e h1 h2 hg.still)
 |fn h1 h2 v1 v2 ih1 ih2=>
  intro g' hg;exact .fn h1 h2 (fun i x y a b=>ih1 i x y a b hg) (fun i x y a b=>ih2 i x y a b hg)
 |yield hi hp=>
  intro g' hg;obtain⟨l',h1,h2,c⟩:=hg.ι _ _ hi;refine .yield h1 (fun e=>?_);have d:=c (by omega);subst d;exact hp e
 |agg hl hc hv ih=>
  intro g' hg;exact .agg hl hc (fun i x y a b=>ih i x y a b hg)
 |tup hl hv ih=>
  intro g' hg;exact .tup hl (fun i x y a b=>ih i x y a b hg)
def TR (g:Gh) (t:aA AV) (v:aA Value):Prop:=
 t.length=v.length/\∀(i:Nat) (x:AV) (y:Value),t[i]? =some x->v[i]? =some y->VR g x y
def TR.nil (g:Gh):TR g [] []:=⟨rfl,fun i x y h=>by simp at h⟩
def TR.cons {g} {x} {y} {t} {v} (h:VR g x y) (d:TR g t v):TR g (x::t) (y::v):=
 ⟨by simp[d.1],fun i a b c hb=>by
  cases i with
  |zero=>simp at c hb;subst c hb;exact h
  |succ i=>simp at c hb;exact d.2 i a b c hb⟩
def TR.head {g} {x} {y} {t} {v} (h:TR g (x::t) (y::v)):VR g x y:=h.2 0 x y rfl rfl
def TR.tail {g} {x} {y} {t} {v} (h:TR g (x::t) (y::v)):TR g t v:=
 ⟨by simpa using h.1,fun i a b c hb=>h.2 (i+1) a b (by simpa using c) (by simpa using hb)⟩
def TR.mono {g g'} {t} {v} (h:TR g t v) (hg:g.le g'):TR g' t v:=
 ⟨h.1,fun i x y a b=>(h.2 i x y a b).mono hg⟩
def TR.append {g} {t t'} {v v'} (h:TR g t v) (h':TR g t' v'):TR g (t++t') (v++v'):=by
 induction t generalizing v with
 |nil=>
  have:v=[]:=by have:=h.1;simpa using this.symm
  subst this;exact h'
 |cons a t ih=>
  cases v with
  |nil=>have:=h.1;simp at this
  |cons b v=>exact .cons h.head (ih h.tail)
theorem TR.set {g} {t} {v} (h:TR g t v) {x} {y} (f:VR g x y) (d:Nat):TR g (t.set d x) (v.set d y):=by
 refine⟨by simp[h.1],fun i a b c hb=>?_⟩;rw[zS2]at c hb;split at c
 grind
 rename_i e;rw[zB2 e]at hb;exact h.2 i a b c hb
def VR.undef (g:Gh):VR g .undef undef:=.tup (by simp) (fun i x y h=>by simp at h)
def TR.replicate {g} {x} {y} (h:VR g x y):∀n,TR g (List.replicate n x) (List.replicate n y)
 |0=>.nil g
 |n+1=>.cons h (TR.replicate h n)
def VR.isCell {g} {x} {V} (h:VR g x V) (h1:∀cs,x≠.agg cs) (h2:∀cs,x≠.tup cs):Sim.isCell V=true:=by
 cases h with
 |v h=>cases V<;>simp_all[Value.ground,Sim.isCell]
 |agg=>exact absurd rfl (h1 _)
 |tup=>exact absurd rfl (h2 _)
 |_=>rfl
def VR.cells {g} {x} {V} (h:VR g x V) {cs} (hc:x.cells=some cs):
  TR g cs V.cells.toList/\∀y∈V.cells.toList,Sim.isCell y=true:=by
 cases x with
 |agg l=>
  simp only[AV.cells,yZ2]at hc;subst hc;cases h with
  |agg hl hc hv=>
   refine⟨⟨by simpa[Value.cells]using hl,fun i x y a b=>hv i x y a (by simpa[Value.cells]using b)⟩,fun y hy=>?_⟩;simp only[Value.cells]at hy;obtain⟨i,hi⟩:=zL2.1 hy;exact hc i y (by simpa using hi)
 |tup l=>simp[AV.cells]at hc
 |_=>
  have c:=h.isCell (by intro cs e;cases e) (by intro cs e;cases e);simp only[AV.cells,yZ2]at hc;subst hc;have d:V.cells=#[V]:=by cases V<;>simp_all[Value.cells,Sim.isCell]
  rw[d];exact⟨.cons h (.nil g),fun y hy=>by simp at hy;subst hy;exact c⟩
def VR.bool {g} {b} {V} (h:VR g (.v (.bool b)) V):V=.bool b:=by cases h;rfl
def VR.ground {g} {x V} (h:VR g (.v x) V):V=x:=by cases h;rfl
def Ux:aB IC->aB Code->Prop
 |none,p=>p=none
 |some .ret,p=>p=some .ret
 |some (.exit i),p=>p=some (.exit i)
 |_,_=>False
def OR (P:Program) (g:Gh) (w:World) (id:Nat):AO->Prop
 |.arr _ ty esz ver els=>∃loc cs,g.ι id=some loc/\loc.esz=esz/\loc.ver=ver/\esz≠0/\w.heap[loc.b]? =some (.cells cs ty (0,0))/\cs.size=loc.ct*esz/\
   els.length<=loc.ct/\(∀(i:Nat) (row:aA AV),els[i]? =some row->row.length=esz)/\
   ∀(i:Nat) (row:aA AV) (j:Nat) (x:AV),els[i]? =some row->row[j]? =some x->∃y,cs[i*esz+j]? =some y/\isCell y=true/\VR g x y
 |.map es=>∃loc ents clock,g.ι id=some loc/\loc.ver=0/\w.heap[loc.b]? =some (.map ents clock)/\ents.size=es.length/\
   ∀(i:Nat) (k x:AV) (e:MapEntry),es[i]? =some (k,x)->ents[i]? =some e->VR g k e.key/\VR g x e.val
 |.loop st pend tmps params assign body=>∃(loc:Hb) (L:Loop),g.ι id=some loc/\loc.ver=0/\w.heap[loc.b]? =some (.loop L)/\L.state=st/\
   Ux pend L.pending/\
   TR g tmps L.tmps.toList/\L.params=params.toArray/\comp P L.assign=some assign/\comp P L.body=some body
def HR (P:Program) (g:Gh) (L:Nat->aB AO) (w:World):Prop:=∀id ao,L id=some ao->OR P g w id ao
structure WG (g:Gh) (w:World):Prop where
 still:∀b o,g.G b=some o->w.heap[b]? =some o
 lt:∀id loc,g.ι id=some loc->loc.b<w.heap.size
 out:∀id loc,g.ι id=some loc->g.G loc.b=none
 inj:∀id id' loc loc',g.ι id=some loc->g.ι id'=some loc'->loc.b=loc'.b->id=id'
structure sS (lim:Nat) (g g':Gh) (w w':World):Prop where
 le:g.le g'
 size:w.heap.size<=w'.heap.size
 keep:∀b,b<w.heap.size->(∀id loc,lim<=id->g.ι id=some loc->loc.b≠b)->w'.heap[b]? =w.heap[b]?
 fresh:∀id loc',g'.ι id=some loc'->(∃loc,g.ι id=some loc/\loc.b=loc'.b)\/w.heap.size<=loc'.b
 old:∀id,id<lim->g'.ι id=g.ι id
 os:w'.os=w.os
 tape:w'.tape=w.tape
 output:w'.output=w.output
 gfresh:∀b o,g'.G b=some o->g.G b=some o\/w.heap.size<=b
 loops:∀(b:Nat) (R:Loop),w.heap[b]? =some (Obj.loop R)->∃R',w'.heap[b]? =some (Obj.loop R')
def sS.refl (lim:Nat) (g:Gh) (w:World):sS lim g g w w:=
 ⟨.refl g,yX2 _,fun _ _ _=>rfl,fun id loc h=>.inl ⟨loc,h,rfl⟩,fun _ _=>rfl,rfl,rfl,rfl,fun _ _ h=>.inl h,fun _ R h=>⟨R,h⟩⟩
def sS.trans {lim:Nat} {g g' c:Gh} {w w' f:World} (h:sS lim g g' w w') (k:sS lim g' c w' f):sS lim g c w f where
 le:=h.le.trans k.le
 size:=zX2 h.size k.size
 keep:=fun b hb hn=>by
  rw[k.keep b (aE3 hb h.size) (fun id loc hl hi e=>?_),h.keep b hb hn]
  rcases h.fresh id loc hi with⟨a,h0,i⟩|h0
  exact hn id a hl h0 (i.trans e)
  omega
 fresh:=fun id loc' hi=>by
  rcases k.fresh id loc' hi with⟨a,h0,i⟩|h0
  rcases h.fresh id a h0 with⟨d,h1,j⟩|h1
  exact .inl ⟨d,h1,j.trans i⟩
  exact .inr (by omega)
  exact .inr (zX2 h.size h0)
 old:=fun id hl=>(k.old id hl).trans (h.old id hl)
 os:=k.os.trans h.os
 tape:=k.tape.trans h.tape
 output:=k.output.trans h.output
 gfresh:=fun b o hb=>by
  rcases k.gfresh b o hb with h1|h1
  exact h.gfresh b o h1
  exact .inr (zX2 h.size h1)
 loops:=fun b R hb=>by
  obtain⟨R',h1⟩:=h.loops b R hb
  exact k.loops b R' h1
def sS.mono {lim lim'} {g g'} {w w'} (hl:lim<=lim') (h:sS lim' g g' w w'):sS lim g g' w w':=
 ⟨h.le,h.size,fun b hb hn=>h.keep b hb (fun id loc hi=>hn id loc (by omega)),h.fresh,fun id hi=>h.old id (by omega),h.os,h.tape,h.output,h.gfresh,h.loops⟩
def OR.mono {P} {g g'} {w w'} {id} {ao} (h:OR P g w id ao) (hg:g.le g') (hi:g'.ι id=g.ι id)
  (hb:∀loc,g.ι id=some loc->w'.heap[loc.b]? =w.heap[loc.b]?):OR P g' w' id ao:=by
 cases ao with
 |arr bx ty esz ver els=>
  obtain⟨loc,cs,h1,h2,d,f,c,l,m,n,o⟩:=h;refine⟨loc,cs,hi.trans h1,h2,d,f,(hb loc h1).trans c,l,m,n,fun i row j x a b=>?_⟩;obtain⟨y,p,q,r⟩:=o i row j x a b;exact⟨y,p,q,r.mono hg⟩
 |map es=>
  obtain⟨loc,ents,clock,h1,h2,d,f,c⟩:=h;exact⟨loc,ents,clock,hi.trans h1,h2,(hb loc h1).trans d,f,fun i k x e a b=>⟨(c i k x e a b).1.mono hg,(c i k x e a b).2.mono hg⟩⟩
 |loop st pend tmps params assign body=>
  obtain⟨loc,L,h1,h2,d,f,c,l,m,n,o⟩:=h;exact⟨loc,L,hi.trans h1,h2,(hb loc h1).trans d,f,c,l.mono hg,m,n,o⟩
def dO (w:World) (o:Obj) {b} (h:b<w.heap.size):(w.alloc o).heap[b]? =w.heap[b]? :=Go.RowKit.Below.heap_alloc w o b h
theorem Uy {lim} {g} {w} (hw:WG g w) (o:Obj) (n:Nat) (loc:Hb) (hb:loc.b=w.heap.size) (hn:g.ι n=none) (hl:lim<=n):
  sS lim g {G:=g.G,ι:=fun id=>if id=n then some loc else g.ι id} w (w.alloc o)/\
  WG {G:=g.G,ι:=fun id=>if id=n then some loc else g.ι id} (w.alloc o):=by
 have a:∀b o',g.G b=some o'->b<w.heap.size:=fun b o' h=>by
  have:=hw.still b o' h;exact(zV2.1 this).1
 refine⟨⟨⟨fun b o' h=>h,fun id l h=>?_⟩,by simp,fun b hb _=>dO w o hb,fun id l h=>?_,fun id h=>?_,rfl,rfl,rfl,fun b o' h=>.inl h,fun b R hb=>⟨R,(dO w o (zV2.1 hb).1).trans hb⟩⟩,
  ⟨fun b o' h=>?_,fun id l h=>?_,fun id l h=>?_,fun id id' l l' h h' e=>?_⟩⟩
 grind
 grind
 grind
 rw[dO w o (a b o' h)];exact hw.still b o' h;simp only at h;split at h;cases h;simp;omega;have:=hw.lt id l h;simp;omega;simp only at h;split at h;cases h;simp only;cases hG':g.G loc.b with
 |none=>rfl
 |some o'=>have:=a _ _ hG';omega
 exact hw.out id l h;simp only at h h';split at h<;>split at h';omega;cases h;have:=hw.lt id' l' h';omega;cases h';have:=hw.lt id l h;omega;exact hw.inj id id' l l' h h' e
end Go.Sim
namespace Go.Sim
def Out.base (o:Out) (L:Nat->aB AO) (id:Nat):aB AO:=
 match o.up with
 |some (i,ob)=>if id=i then some ob else L id
 |none=>L id
def Out.after (o:Out) (L:Nat->aB AO) (n id:Nat):aB AO:=
 match o.new with
 |some ob=>if id=n then some ob else o.base L id
 |none=>o.base L id
def gY (P:Program) (g:Gh) (lim:Nat) (w:World) (L:Nat->aB AO) (n:Nat) (out:Out) (s:Sem Next):Prop:=
 ∃V nx g' w',s.run P w=.ok nx w'/\(nx=.value V\/(nx=.skip/\V=undef))/\VR g' out.v V/\HR P g' (out.after L n) w'/\WG g' w'/\sS lim g g' w w'/\
  (∀id,g'.ι id≠none->g.ι id≠none\/(id=n/\out.new.isSome))
section
variable {P:Program} {g:Gh} {lim:Nat} {w:World} {L:Nat->Option AO} {n:Nat}
def Mz (v:AV):Out.after {v:=v} L n=L:=rfl
def bF {s} {v} {V} (hr:s.run P w=.ok (.value V) w) (hv:VR g v V) (a:HR P g L w) (b:WG g w):
  gY P g lim w L n {v:=v} s:=
 ⟨V,_,g,w,hr,.inl rfl,hv,a,b,.refl lim g w,fun _ h=>.inl h⟩
theorem qF {s} {v} {V} {ao} {o} {loc} {w₁} (d:w₁=w\/w₁=w.drew) (hr:s.run P w=.ok (.value V) (w₁.alloc o))
  (hb:loc.b=w.heap.size) (hn:g.ι n=none) (hl:lim<=n)
  (hv:∀g',g.le g'->g'.ι n=some loc->VR g' v V)
  (t:∀g',g.le g'->g'.ι n=some loc->OR P g' (w.alloc o) n ao) (r:HR P g L w) (q:WG g w):
  gY P g lim w L n {v:=v,new:=some ao} s:=by
 obtain⟨f,c⟩:=Uy (lim:=lim) q o n loc hb hn hl;have j:=f.le;have hi:(if n=n then some loc else g.ι n)=some loc:=yY2 rfl;have hd:∀k:World,k=w\/k=w.drew->(k.alloc o).heap=(w.alloc o).heap:=by rintro k (rfl|rfl)<;>rfl
 have i:=hd w₁ d
 have p:∀{id} {a} {g'},OR P g' (w.alloc o) id a->OR P g' (w₁.alloc o) id a:=fun{id a g'} h=>
  h.mono (Gh.le.refl g') rfl (fun loc _=>by rw[i])
 refine⟨V,_,_,_,hr,.inl rfl,hv _ j hi,?_,?_,?_,?_⟩;intro id a m;simp only[Out.after,Out.base]at m;split at m
 grind
 rename_i e;refine p ((r id a m).mono j ?_ (fun l hl=>dO w o (q.lt id l hl)));simp only;rw[zB2 e];exact⟨fun b o' h=>by rw[i];exact c.still b o' h,fun id l h=>by rw[i];exact c.lt id l h,c.out,c.inj⟩;exact⟨f.le,by rw[i];exact f.size,fun b hb hn=>by rw[i];exact f.keep b hb hn,f.fresh,f.old,by rcases d with rfl|rfl<;>rfl,by rcases d with rfl|rfl<;>rfl,by rcases d with rfl|rfl<;>rfl,f.gfresh,by rw[i];exact f.loops⟩
 grind
def wV {s} {v} {V} {nx} {ao'} {id} {o} {loc} {ver} {w'} (hr:s.run P w=.ok nx w')
  (x:nx=.value V\/(nx=.skip/\V=undef))
  (hi:g.ι id=some loc) (hl:lim<=id) (hver:loc.ver<=ver) (hnl:∀R,w.heap[loc.b]? ≠some (Obj.loop R))
  (hb:w'.heap[loc.b]? =some o) (f:∀b,b≠loc.b->w'.heap[b]? =w.heap[b]?) (B:w'.heap.size=w.heap.size)
  (y:w'.os=w.os) (p:w'.tape=w.tape) (t:w'.output=w.output)
  (hv:∀g',g.le g'->g'.ι id=some {loc with ver:=ver}->VR g' v V)
  (A:∀g',g.le g'->g'.ι id=some {loc with ver:=ver}->OR P g' w' id ao') (z:HR P g L w) (k:WG g w):
  gY P g lim w L n {v:=v,up:=some (id,ao')} s:=by
 let g':Gh:={G:=g.G,ι:=fun i=>if i=id then some {loc with ver:=ver}else g.ι i}
 have d:g.le g':=⟨fun b o h=>h,fun i l h=>by
  by_cases e:i=id;subst e;rw[hi]at h;cases h
  exact⟨{loc with ver:=ver},yY2 rfl,hver,fun e=>by
   have e:loc.ver=ver:=e;subst e;rfl⟩
  exact⟨l,(zB2 e).trans h,yX2 _,fun _=>rfl⟩⟩
 have c:g'.ι id=some {loc with ver:=ver}:=yY2 rfl;have m:∀i l,g.ι i=some l->i≠id->l.b≠loc.b:=fun i l h1 h2 r=>h2 (k.inj i id l loc h1 hi r);refine⟨V,nx,g',w',hr,x,hv g' d c,?_,⟨?_,?_,?_,?_⟩,⟨d,by omega,?_,?_,?_,y,p,t,fun b o h=>.inl h,fun b R h=>⟨R,(f b (fun e=>hnl R (by rw[<-e];exact h))).trans h⟩⟩,?_⟩;intro i a u;simp only[Out.after,Out.base]at u;split at u;rename_i e;subst e;cases u;exact A g' d c;rename_i e;exact(z i a u).mono d (zB2 e) (fun l hl=>f _ (m i l hl e));intro b o' h;have h:g.G b=some o':=h;rw[f b (fun e=>by subst e;rw[k.out id loc hi]at h;cases h)];exact k.still b o' h;intro i l h;by_cases e:i=id;subst e;rw[c]at h;cases h;have:=k.lt i loc hi;simp only;omega;have:=k.lt i l ((zB2 e).symm.trans h);omega;intro i l h;by_cases e:i=id;subst e;rw[c]at h;cases h;exact k.out i loc hi;exact k.out i l ((zB2 e).symm.trans h);intro i j l l' h1 h2 r;by_cases q:i=id<;>by_cases e2:j=id;rw[q,e2];subst q;rw[c]at h1;cases h1;exact absurd r.symm (m j l' ((zB2 e2).symm.trans h2) e2);subst e2;rw[c]at h2;cases h2;exact absurd r (m i l ((zB2 q).symm.trans h1) q);exact k.inj i j l l' ((zB2 q).symm.trans h1) ((zB2 e2).symm.trans h2) r;intro b hb hn;exact f b (fun e=>hn id loc hl hi e.symm);intro i l h;by_cases e:i=id;subst e;rw[c]at h;cases h;exact .inl ⟨loc,hi,rfl⟩;exact .inl ⟨l,(zB2 e).symm.trans h,rfl⟩;intro i h;exact zB2 (by omega);intro i h;by_cases e:i=id;subst e;exact .inl (by rw[hi];simp);exact .inl (fun e'=>h ((zB2 e).trans e'))
def Xo {s} {v} {V} {ao'} {id} {o} {loc loc'} {w₁} (f:w₁=w\/w₁=w.drew) (hr:s.run P w=.ok (.value V) (w₁.alloc o))
  (hi:g.ι id=some loc) (hl:lim<=id) (hver:loc.ver<loc'.ver) (hb:loc'.b=w.heap.size)
  (hv:∀g',g.le g'->g'.ι id=some loc'->VR g' v V)
  (x:∀g',g.le g'->g'.ι id=some loc'->OR P g' (w.alloc o) id ao') (u:HR P g L w) (k:WG g w):
  gY P g lim w L n {v:=v,up:=some (id,ao')} s:=by
 let g':Gh:={G:=g.G,ι:=fun i=>if i=id then some loc' else g.ι i}
 have d:g.le g':=⟨fun b o h=>h,fun i l h=>by
  by_cases e:i=id;subst e;rw[hi]at h;cases h;exact⟨loc',yY2 rfl,by omega,fun e=>by omega⟩;exact⟨l,(zB2 e).trans h,yX2 _,fun _=>rfl⟩⟩
 have c:g'.ι id=some loc':=yY2 rfl;have hd:(w₁.alloc o).heap=(w.alloc o).heap:=by rcases f with rfl|rfl<;>rfl
 have m:∀{i} {a} {g'},OR P g' (w.alloc o) i a->OR P g' (w₁.alloc o) i a:=fun{i a g'} h=>
  h.mono (Gh.le.refl g') rfl (fun loc _=>by rw[hd])
 have r:∀b o',g.G b=some o'->b<w.heap.size:=fun b o' h=>(zV2.1 (k.still b o' h)).1;refine⟨V,_,g',_,hr,.inl rfl,hv g' d c,?_,⟨?_,?_,?_,?_⟩,⟨d,by rw[hd];simp,?_,?_,?_,by rcases f with rfl|rfl<;>rfl,by rcases f with rfl|rfl<;>rfl,by rcases f with rfl|rfl<;>rfl,fun b o h=>.inl h,fun b R h=>⟨R,by rw[hd];exact(dO w o (zV2.1 h).1).trans h⟩⟩,?_⟩;intro i a q;simp only[Out.after,Out.base]at q;split at q;rename_i e;subst e;cases q;exact m (x g' d c);rename_i e;exact m ((u i a q).mono d (zB2 e) (fun l hl=>dO w o (k.lt i l hl)));intro b o' h;have h:g.G b=some o':=h;rw[hd,dO w o (r b o' h)];exact k.still b o' h;intro i l h;rw[hd];by_cases e:i=id;subst e;rw[c]at h;cases h;simp;omega;have:=k.lt i l ((zB2 e).symm.trans h);simp;omega;intro i l h;by_cases e:i=id;subst e;rw[c]at h;cases h;show g.G loc'.b=none
 cases hG':g.G loc'.b with
 |none=>rfl
 |some o'=>have:=r _ _ hG';omega
 exact k.out i l ((zB2 e).symm.trans h);intro i j l l' h1 h2 t;by_cases p:i=id<;>by_cases e2:j=id;rw[p,e2];subst p;rw[c]at h1;cases h1;have:=k.lt j l' ((zB2 e2).symm.trans h2);omega;subst e2;rw[c]at h2;cases h2;have:=k.lt i l ((zB2 p).symm.trans h1);omega;exact k.inj i j l l' ((zB2 p).symm.trans h1) ((zB2 e2).symm.trans h2) t;intro b hb hn;rw[hd];exact dO w o hb;intro i l h;by_cases e:i=id;subst e;rw[c]at h;cases h;exact .inr (by omega);exact .inl ⟨l,(zB2 e).symm.trans h,rfl⟩;intro i h;exact zB2 (by omega);intro i h;by_cases e:i=id;subst e;exact .inl (by rw[hi];simp);exact .inl (fun e'=>h ((zB2 e).trans e'))
end
end Go.Sim
namespace Go.Sim
section
variable {P:Program} {g:Gh} {lim:Nat} {w:World} {L:Nat->Option AO} {n:Nat}
def tr1 {x} {vs} (h:TR g [x] vs):∃V,vs=[V]/\VR g x V:=by
 match vs,h with
 |[],h=>have:=h.1;simp at this
 |[V],h=>exact⟨V,rfl,h.head⟩
 |_::_::_,h=>have:=h.1;simp at this
def oH {t} (h:P.underlying t≠none) (w:World):(isAgg t).run P w=.ok (dS P t) w:=by
 unfold isAgg dS;cases hu:P.underlying t with
 |none=>exact absurd hu h
 |some d=>simp only[Sem.run_bind,run_underlying hu,Result.andThen_ok];cases d<;>rfl
def gD {t} {i} (h:P.info? t=some i) (w:World):(sizeOf t).run P w=.ok i.size w:=by
 simp[sizeOf,typeInfo,h]
def mT {t} {i} {z} (h:P.info? t=some i) (a:i.zero=some z) (w:World):(zeroValue t).run P w=.ok z w:=by
 simp[zeroValue,typeInfo,h,a]
theorem mZ {t} {cs} (h:oG P t=some cs):
  ∃i z,P.info? t=some i/\i.zero=some z/\z.cells.toList=cs/\cs.all Value.ground=true/\cs.length=i.size/\i.size≠0:=by
 unfold oG at h;cases hi:P.info? t with
 |none=>simp[hi]at h
 |some i=>
  simp only[hi]at h;cases hz:i.zero with
  |none=>simp[hz]at h
  |some z=>
   simp only[hz]at h;split at h
   grind
   cases h
def mU {x} (h:Value.ground x=true):isCell x=true:=by
 cases x<;>simp_all[Value.ground,isCell]
def wW {zs} (h:zs.all Value.ground=true):TR g (zeroRow zs) zs:=by
 induction zs with
 |nil=>exact .nil g
 |cons a zs ih=>
  simp only[aR3,yS2]at h;exact .cons (.v h.1) (ih h.2)
def nQ {zs:aA Value} (h:zs.all Value.ground=true):∀y∈zs,isCell y=true:=fun y hy=>
 mU (yW2.1 h y hy)
def tH1 {ty} {esz ct} {bx} {els} {cs} {id} {loc} (g':Gh) (hi:g'.ι id=some loc) (he:loc.esz=esz) (hv:loc.ver=0)
  (hb:loc.b=w.heap.size) (a:loc.ct=ct) (h0:esz≠0) (hs:cs.size=ct*esz) (hl:els.length<=ct) (hr:∀(i:Nat) (row:aA AV),els[i]? =some row->row.length=esz)
  (hc:∀(i:Nat) (row:aA AV) (j:Nat) (x:AV),els[i]? =some row->row[j]? =some x->∃y,cs[i*esz+j]? =some y/\isCell y=true/\VR g' x y):
  OR P g' (w.alloc (.cells cs ty)) id (.arr bx ty esz 0 els):=
 ⟨loc,cs,hi,he,hv,h0,by rw[hb];exact heap_alloc_new w _,by rw[a];exact hs,by rw[a];exact hl,hr,hc⟩
theorem bF1 {ty} {bx} {row} {cs} {id} {loc} (g':Gh) (hi:g'.ι id=some loc) (he:loc.esz=row.length) (hv:loc.ver=0)
  (hb:loc.b=w.heap.size) (c:loc.ct=1) (h0:row.length≠0) (d:TR g' row cs) (hc:∀y∈cs,isCell y=true):
  OR P g' (w.alloc (.cells cs.toArray ty)) id (.arr bx ty row.length 0 [row]):=by
 refine tH1 g' hi he hv hb c h0 (by simp[d.1]) (by simp) (fun i r h=>?_) (fun i r j x h e=>?_)
 grind
 cases i with
 |zero=>
  simp at h;subst h;have f:j<row.length:=(yT2.1 e).1;have a:j<cs.length:=by have:=d.1;omega
  refine⟨cs[j],by simp[a],hc _ (bO3 a),d.2 j x _ e (by simp[a])⟩
 |succ i=>simp at h
variable (ρ:Operand->Value) (o:Oper) {k:gC} {os:List Operand} {xs:List AV} {out:Out}
def bG1 {x} (c:o.op=.move x\/o.op=.assign x) (b:TR g xs [ρ x]) (hd:doOp L lim n .mov xs=some out) (d:HR P g L w) (e:WG g w):
  gY P g lim w L n out (execOp ρ o):=by
 match xs,b with
 |[],b=>have:=b.1;simp at this
 |[a],b=>
  simp only[doOp,yZ2]at hd;subst hd;refine bF (V:=ρ x) ?_ b.head d e;rcases c with c|c<;>simp[execOp,c]
 |_::_::_,b=>have:=b.1;simp at this
def jB1 {c a b} (h:o.op=.pick c a b) (d:TR g xs [ρ c,ρ a,ρ b]) (hd:doOp L lim n .pick xs=some out) (e:HR P g L w) (f:WG g w):
  gY P g lim w L n out (execOp ρ o):=by
 match xs,d with
 |[],d=>have:=d.1;simp at this
 |[_],d=>have:=d.1;simp at this
 |[_,_],d=>have:=d.1;simp at this
 |[x,y,z],d=>
  simp only[doOp]at hd;split at hd;rename_i t;cases hd;have hc:=d.head.bool;refine bF (V:=if t then ρ a else ρ b) ?_ ?_ e f;simp[execOp,h,hc,asBool];cases t;exact d.tail.tail.head;exact d.tail.head;cases hd
 |_::_::_::_::_,d=>have:=d.1;simp at this
def jC1 {x} (l:o.op=.nilCheck x) (e:TR g xs [ρ x]) (hd:doOp L lim n .nilc xs=some out) (i:HR P g L w) (j:WG g w):
  gY P g lim w L n out (execOp ρ o):=by
 match xs,e with
 |[],e=>have:=e.1;simp at this
 |[a],e=>
  have b:=e.head;simp only[doOp]at hd
  have key:∀V,ρ x=V->(∃p,V=.pointer (some p))\/(∃f c d,V=.func (.func f) c d)\/(∃f c d,V=.func (.yield f) c d)->(execOp ρ o).run P w=.ok (.value V) w:=by
   intro V k h;rcases h with⟨p,rfl⟩|⟨f,c,d,rfl⟩|⟨f,c,d,rfl⟩<;>simp[execOp,l,k]
  split at hd;cases hd;refine bF (key _ rfl ?_) b i j;generalize ρ x=V at b;cases b;exact .inl ⟨_,rfl⟩;cases hd;refine bF (key _ rfl ?_) b i j;generalize ρ x=V at b;cases b;exact .inl ⟨_,rfl⟩;cases hd;refine bF (key _ rfl ?_) b i j;generalize ρ x=V at b;cases b;exact .inr (.inl ⟨_,_,_,rfl⟩);cases hd;refine bF (key _ rfl ?_) b i j;generalize ρ x=V at b;cases b;exact .inr (.inr ⟨_,_,_,rfl⟩);cases hd
 |_::_::_,e=>have:=e.1;simp at this
def tI1 {ty} {x} {i} (m:o.op=.box ty x) (hi:P.info? ty=some i) (d:TR g xs [ρ x]) (hd:doOp L lim n (.box ty i.size) xs=some out) (j:HR P g L w) (k:WG g w)
  (hn:g.ι n=none) (hl:lim<=n):gY P g lim w L n out (execOp ρ o):=by
 match xs,d with
 |[],d=>have:=d.1;simp at this
 |[a],d=>
  have l:=d.head;simp only[doOp]at hd;split at hd;rename_i cs f;split at hd;rename_i hc;obtain⟨hlen,h⟩:=hc;cases hd;obtain⟨p,b⟩:=l.cells f;refine qF (w₁:=w) (o:=.cells (ρ x).cells ty) (V:=.pointer (some ⟨w.heap.size,0,none⟩)) (loc:=⟨w.heap.size,cs.length,1,0⟩) (.inl rfl) ?_ rfl hn hl ?_ ?_ j k;simp[execOp,m,Instr.box,newVar,newRow];intro g' e c;exact .ptr c (yX2 _) (fun _=>by simp);intro g' e c;rw[<-hlen];have:=bF1 (P:=P) (w:=w) (ty:=ty) (bx:=true) g' c rfl rfl rfl rfl (by omega) (p.mono e) b;simpa using this;cases hd;cases hd
 |_::_::_,d=>have:=d.1;simp at this
def bH1 {ty:TypeId} {z:aA Value} (l:o.op=.alloc ty) (m:oG P ty=some z) (c:TR g xs []) (hd:doOp L lim n (.alloc ty z) xs=some out) (h:HR P g L w) (j:WG g w)
  (hn:g.ι n=none) (hl:lim<=n):gY P g lim w L n out (execOp ρ o):=by
 match xs,c with
 |[],c=>
  simp only[doOp,yZ2]at hd;subst hd;obtain⟨i,p,hi,f,d,hg,hlen,k⟩:=mZ m;refine qF (w₁:=w) (o:=.cells p.cells ty) (V:=.pointer (some ⟨w.heap.size,0,none⟩)) (loc:=⟨w.heap.size,z.length,1,0⟩) (.inl rfl) ?_ rfl hn hl ?_ ?_ h j;simp[execOp,l,Instr.alloc,mT hi f,newVar,newRow];intro g' e a;exact .ptr a (yX2 _) (fun _=>by simp);intro g' e a;have b:(zeroRow z).length=z.length:=by simp[zeroRow]
  have:=bF1 (P:=P) (w:=w) (ty:=ty) (bx:=true) (row:=zeroRow z) (cs:=z) g' a b.symm rfl rfl rfl (by omega) (wW hg) (nQ hg);rw[b]at this;rw[<-d]at this ⊢;simpa using this
 |_::_,c=>have:=c.1;simp at this
end
end Go.Sim
namespace Go.Sim
variable {esz j m n:Nat}
section
variable {P:Program} {g:Gh} {lim:Nat} {w:World} {L:Nat->Option AO}
def Dp (d:WG g w) {a} (hs:a.spot=none) {j} {y} (h:g.cell a j=some y):w.cell? (a.add j)=some y:=by
 unfold Gh.cell at h;split at h;rename_i c ty fr he;have hb:=d.still _ _ he;unfold World.cell?;have h1:(a.add j).block=a.block:=by unfold Addr.add;split<;>rfl
 have h2:(a.add j).off=a.off+j:=by unfold Addr.add;split<;>simp_all
 have b:(a.add j).spot=none:=by unfold Addr.add;split<;>simp_all
 rw[h1,hb];simp[h2,b,h];cases h
def Hc (a:Addr):a.add 0=a:=by simp[Addr.add]
def kF (b off j:Nat):(⟨b,off,none⟩:Addr).add j=⟨b,off+j,none⟩:=by
 unfold Addr.add;split
 subst_vars;rfl
 rfl
def vH {t} (c:P.underlying t≠none) (b:dS P t=false) {a} {y} (hc:w.cell? a=some y):(loadVar t a).run P w=.ok y w:=by
 simp[loadVar,oH c,b,hc]
def vI {t:TypeId} {i:TypeInfo} (c:P.underlying t≠none) (b:dS P t=true) (hi:P.info? t=some i) {a:Addr} {ys:aA Value} (hl:ys.length=i.size)
  (hc:∀j y,ys[j]? =some y->w.cell? (a.add j)=some y):(loadVar t a).run P w=.ok (.agg ys.toArray) w:=by
 have h:=run_loadCells_list (P:=P) w a ys hc;rw[hl]at h;simp[loadVar,oH c,b,gD hi,h]
def Na (e:WG g w) {cells} {V} (h:VR g (.ip cells) V):
  ∃a ys,V=.pointer (some a)/\TR g cells ys/\(∀y∈ys,isCell y=true)/\∀j y,ys[j]? =some y->w.cell? (a.add j)=some y:=by
 cases h with
 |@ip _ _ a hs hc hv=>
  refine⟨a,(List.range cells.length).map fun j=>(g.cell a j).getD undef,rfl,⟨by simp,fun i x y c hy=>?_⟩,fun y hy=>?_,fun j y hy=>?_⟩;obtain⟨d,h1,h2⟩:=hc i x c;have hi:i<cells.length:=(yT2.1 c).1;simp[hi,h1]at hy;subst hy;exact(hv i x d c h1).mono ⟨fun _ _ h=>h,fun _ _ h=>by simp[Gh.still]at h⟩;simp at hy;obtain⟨j,b,rfl⟩:=hy;obtain⟨d,h1,h2⟩:=hc j cells[j] (by simp[b]);simp[h1,h2];simp only[aJ3]at hy;by_cases b:j<cells.length;obtain⟨d,h1,h2⟩:=hc j cells[j] (by simp[b]);simp[b,h1]at hy;subst hy;exact Dp e hs h1;simp[b]at hy
def bI1 (g:Gh):g.still.le g:=⟨fun _ _ h=>h,fun _ _ h=>by simp[Gh.still]at h⟩
def Ka (n:HR P g L w) {id ver e o'} {V} (h:VR g (.ptr id ver e o') V) {bx} {ty} {esz} {els} (o:L id=some (.arr bx ty esz ver els)):
  ∃loc cs,g.ι id=some loc/\loc.esz=esz/\loc.ver=ver/\esz≠0/\V=.pointer (some ⟨loc.b,e*esz+o',none⟩)/\w.heap[loc.b]? =some (.cells cs ty (0,0))/\cs.size=loc.ct*esz/\
   els.length<=loc.ct/\(∀(i:Nat) (row:aA AV),els[i]? =some row->row.length=esz)/\
   ∀(i:Nat) (row:aA AV) (j:Nat) (x:AV),els[i]? =some row->row[j]? =some x->∃y,cs[i*esz+j]? =some y/\isCell y=true/\VR g x y:=by
 obtain⟨loc,cs,h1,h2,a,c,d,f,k,l,m⟩:=n id _ o;cases h with
 |@ptr _ _ _ _ _ loc' p hi hver hp=>
  rw[h1]at hi;cases hi;rw[hp a,h2];exact⟨loc,cs,h1,h2,a,c,rfl,d,f,k,l,m⟩
def zG {b off} {cs} {ty} {fr} (h:w.heap[b]? =some (.cells cs ty fr)):w.cell? ⟨b,off,none⟩=cs[off]? :=by
 simp[World.cell?,h]
theorem bJ1 {cs:Array Value} {e o':Nat} {els:aA (aA AV)} {row:aA AV} (a:els[e]? =some row)
  (c:∀i row j x,els[i]? =some row->row[j]? =some x->∃y,cs[i*esz+j]? =some y/\isCell y=true/\VR g x y) (h:o'+m<=row.length):
  ∃ys:aA Value,ys.length=m/\TR g ((row.drop o').take m) ys/\(∀y∈ys,isCell y=true)/\∀j y,ys[j]? =some y->cs[e*esz+o'+j]? =some y:=by
 refine⟨(List.range m).map fun j=>(cs[e*esz+o'+j]?).getD undef,by simp,⟨by simp;omega,fun i x y k hy=>?_⟩,fun y hy=>?_,fun j y hy=>?_⟩
 grind
 simp at hy;obtain⟨j,b,rfl⟩:=hy;obtain⟨f,h1,h2,d⟩:=c e row (o'+j) row[o'+j] a (by simp);rw[<-aP3]at h1;simp[h1,h2];by_cases b:j<m;obtain⟨f,h1,h2,d⟩:=c e row (o'+j) row[o'+j] a (by simp);rw[<-aP3]at h1;simp[b,h1]at hy;subst hy;exact h1;simp[b]at hy
variable (ρ:Operand->Value) (o:Oper) {k:gC} {os:List Operand} {xs:List AV} {out:Out}
def bK1 {p} {V} (hp:VR g p V) (hd:doOp L lim n .loadS [p]=some out) (k:HR P g L w) (m:WG g w):
  ∃v a y,out={v:=v}/\V=.pointer (some a)/\w.cell? a=some y/\VR g v y:=by
 simp only[doOp]at hd;split at hd;rename_i c r;cases hd;obtain⟨a,ys,rfl,f,hc,b⟩:=Na m hp
 match ys,f with
 |[],f=>have:=f.1;simp at this
 |y::ys,f=>
  have:=b 0 y rfl;rw[Hc]at this;exact⟨c,a,y,rfl,rfl,this,f.head⟩
 rename_i id ver e o';split at hd;rename_i bx ty esz h els l;split at hd;rename_i hv;subst hv;split at hd;rename_i row d;split at hd;rename_i x o;cases hd;obtain⟨loc,cs,h1,h2,t,u,rfl,i,z,A,B,j⟩:=Ka k hp l;obtain⟨y,q,C,s⟩:=j e row o' x d o;exact⟨x,_,y,rfl,rfl,(zG i).trans q,s⟩;cases hd;cases hd;cases hd;cases hd;cases hd
theorem bL1 {m} {p} {V} (hp:VR g p V) (hd:doOp L lim n (.loadA m) [p]=some out) (q:HR P g L w) (s:WG g w):
  ∃(vs:aA AV) (a:Addr) (ys:aA Value),out={v:=.agg vs}/\V=.pointer (some a)/\ys.length=m/\(∀j y,ys[j]? =some y->w.cell? (a.add j)=some y)/\VR g (.agg vs) (.agg ys.toArray):=by
 simp only[doOp]at hd;split at hd;rename_i cells;split at hd;rename_i h;cases hd;obtain⟨a,ys,rfl,f,hc,b⟩:=Na s hp;have hlen:=f.1;refine⟨_,a,ys.take m,rfl,rfl,by simp;omega,fun j y hy=>?_,.agg (by simp;omega) (fun i y hy=>?_) (fun i x y d hy=>?_)⟩
 grind
 grind
 rw[zR2]at d;simp[zR2]at hy;split at d;exact f.2 i x y d hy.2;cases d;cases hd;rename_i id ver e o';split at hd;rename_i bx ty esz k els r;split at hd;rename_i hv;subst hv;split at hd;rename_i row c;split at hd;rename_i h;cases hd;obtain⟨loc,cs,h1,h2,t,u,rfl,l,z,A,B,o⟩:=Ka q hp r;obtain⟨ys,hl,f,hc,b⟩:=bJ1 c o h;refine⟨_,_,ys,rfl,rfl,hl,fun j y hy=>?_,.agg (by simpa using f.1) (fun i y hy=>?_) (fun i x y d hy=>?_)⟩;rw[kF,zG l];exact b j y hy
 grind
 grind
 cases hd;cases hd;cases hd;cases hd;cases hd
def bM1 {t} {x} (h:o.op=.load t x) (i:P.underlying t≠none) (f:dS P t=false) (b:TR g xs [ρ x]) (hd:doOp L lim n .loadS xs=some out)
  (c:HR P g L w) (d:WG g w):gY P g lim w L n out (execOp ρ o):=by
 match xs,b with
 |[],b=>have:=b.1;simp at this
 |[p],b=>
  obtain⟨v,a,y,rfl,e,hc,hv⟩:=bK1 b.head hd c d;refine bF (V:=y) ?_ hv c d;simp[execOp,h,Instr.loadAt,e,Instr.sureAddr,vH i f hc]
 |_::_::_,b=>have:=b.1;simp at this
def bN1 {t} {x} {i} (h:o.op=.load t x) (j:P.underlying t≠none) (f:dS P t=true) (hi:P.info? t=some i) (b:TR g xs [ρ x])
  (hd:doOp L lim n (.loadA i.size) xs=some out) (c:HR P g L w) (d:WG g w):gY P g lim w L n out (execOp ρ o):=by
 match xs,b with
 |[],b=>have:=b.1;simp at this
 |[p],b=>
  obtain⟨vs,a,ys,rfl,e,hl,hc,hv⟩:=bL1 b.head hd c d;refine bF (V:=.agg ys.toArray) ?_ hv c d;simp[execOp,h,Instr.loadAt,e,Instr.sureAddr,vI j f hi hl hc]
 |_::_::_,b=>have:=b.1;simp at this
def nA {α}:∀(row:aA α) (o:Nat) (cs:aA α),(setL row o cs).length=row.length
 |row,o,[]=>rfl
 |row,o,c::cs=>by rw[setL,nA];simp
def Dq {α}:∀(row:aA α) (o:Nat) (cs:aA α) (j:Nat),o+cs.length<=row.length->
  (setL row o cs)[j]? =if o<=j/\j<o+cs.length then cs[j-o]? else row[j]?
 |row,o,[],j,h=>by
  rw[setL,zB2 (by simp only[zJ2];omega)]
 |row,o,c::cs,j,h=>by
  simp only[zZ2]at h
  rw[setL,Dq (row.set o c) (o+1) cs j (by simp;omega),zS2]
  by_cases h1:o=j
  subst h1
  have:¬(o+1<=o/\o<o+1+cs.length):=by omega
  have h2:o<row.length:=by omega
  simp[this,h2]
  by_cases b:o+1<=j/\j<o+1+cs.length
  have a:o<=j/\j<o+(cs.length+1):=by omega
  rw[yY2 b]
  simp only[zZ2]
  rw[yY2 a]
  have:j-o=(j-(o+1))+1:=by omega
  rw[this]
  rfl
  have a:¬(o<=j/\j<o+(cs.length+1)):=by omega
  rw[zB2 b,zB2 h1]
  simp only[zZ2]
  rw[zB2 a]
def pU (w:World) (g:Nat) (arr:Array Value):(w.setRow g arr).os=w.os/\(w.setRow g arr).tape=w.tape/\(w.setRow g arr).output=w.output/\(w.setRow g arr).heap.size=w.heap.size:=
 ⟨rfl,rfl,rfl,by simp[World.setRow]⟩
theorem Uz (a vs:aA Value) (k j:Nat) (h:k+vs.length<=a.length):
  (a.take k++vs++a.drop (k+vs.length))[j]? =if k<=j/\j<k+vs.length then vs[j-k]? else a[j]? :=by
 have hk:(a.take k).length=k:=by simp;omega
 rw[aV3,aV3,aU3,hk,zR2,aI3];by_cases h1:j<k
 grind
 grind
theorem jD1 (a vs:aA Value) (k:Nat) (h:k+vs.length<=a.length):(a.take k++vs++a.drop (k+vs.length)).length=a.length:=by grind
theorem Va {α:Type} {l:aA α} {i:Nat} {a r:α} (h:(l.set i a)[j]? =some r):(i=j/\i<l.length/\r=a)\/(i≠j/\l[j]? =some r):=by grind
theorem bO1 {t} {x y} {i} (ho:o.op=.store t x y) (hi:P.info? t=some i) (h:TR g xs [ρ x,ρ y]) (hd:doOp L lim n (.store i.size) xs=some out)
  (S:HR P g L w) (hW:WG g w):gY P g lim w L n out (execOp ρ o):=by
 match xs,h with
 |[],h=>have:=h.1;simp at this
 |[_],h=>have:=h.1;simp at this
 |[p,a],h=>
  simp only[doOp]at hd;split at hd;rename_i id ver e o' cs A;split at hd;rename_i bx ty esz U els hL;split at hd;rename_i hv;obtain⟨rfl,hl,a0⟩:=hv;split at hd;rename_i row f;split at hd;rename_i hm;cases hd;obtain⟨loc,arr,h1,h2,W,X,hV,N,Y,Z,z,O⟩:=Ka S h.head hL;obtain⟨u,d⟩:=h.tail.head.cells A;have E:=z e row f;have he:e<els.length:=(yT2.1 f).1
  have m:e*esz+o'+(ρ y).cells.toList.length<=arr.size:=by
   rw[<-u.1,Y];have:(e+1)*esz<=loc.ct*esz:=aH3 _ (by omega);rw[bD3]at this;omega
  have s:=run_storeCells_at P loc.b (e*esz+o') ty (ρ y).cells.toList 0 arr w N (by simpa using m) (fun v hv=>by have:=d v hv;cases v<;>simp_all[isCell,Value.oneCell']);simp only[aZ3]at s;obtain⟨p1,p2,p3,p4⟩:=pU w loc.b (arr.toList.take (e*esz+o')++(ρ y).cells.toList++arr.toList.drop (e*esz+o'+(ρ y).cells.toList.length)).toArray;have l:=setRow_heap w loc.b arr (arr.toList.take (e*esz+o')++(ρ y).cells.toList++arr.toList.drop (e*esz+o'+(ρ y).cells.toList.length)).toArray ty (0,0) N
  refine wV (hnl:=fun R hR=>by simp_all) (nx:=.skip) (V:=undef) (o:=.cells (arr.toList.take (e*esz+o')++(ρ y).cells.toList++arr.toList.drop (e*esz+o'+(ρ y).cells.toList.length)).toArray ty (0,0))
   (loc:=loc) (ver:=loc.ver) ?_ (.inr ⟨rfl,rfl⟩) h1 hl (yX2 _) l (fun b hb=>setRow_other w loc.b b _ hb) p4 p1 p2 p3 (fun g' _ _=>.undef g') (fun g' q B=>?_) S hW
  have F:(ρ y).cells.size=i.size:=by have:=u.1;simp at this;omega
  simp[execOp,ho,Instr.storeAt,hV,Instr.sureAddr,storeVar,gD hi,F,s];refine⟨_,_,B,h2,W,X,l,?_,by simpa using Z,fun i r hr=>?_,fun i r j x hr c=>?_⟩
  grind
  rcases Va hr with⟨rfl,_,rfl⟩|⟨_,hr⟩
  rw[nA];exact E;exact z i r hr;have aG:=Uz arr.toList (ρ y).cells.toList (e*esz+o') (i*esz+j) (by simpa using m);simp only[List.getElem?_toArray,aG];rcases Va hr with⟨rfl,_,rfl⟩|⟨hie,hr⟩
  rw[Dq row o' cs j (by omega)]at c;have G:=u.1;split at c;rename_i T;rw[yY2 (by omega)];have C:e*esz+j-(e*esz+o')=j-o':=by omega
  rw[C];have k:j-o'<(ρ y).cells.toList.length:=by omega
  refine⟨(ρ y).cells.toList[j-o'],by rw[zY2 k],d _ (bO3 k),?_⟩;exact(u.2 (j-o') x _ c (zY2 k)).mono q;rename_i T;rw[zB2 (by omega)];obtain⟨M,H,J,K⟩:=O e row j x f c;exact⟨M,by simpa using H,J,K.mono q⟩;have T:j<esz:=by have:=z i r hr;have:=(yT2.1 c).1;omega
  have D:¬(e*esz+o'<=i*esz+j/\i*esz+j<e*esz+o'+(ρ y).cells.toList.length):=by
   have G:=u.1;intro hc;rcases Nat.lt_trichotomy e i with k|heq|hgt;have:(e+1)*esz<=i*esz:=aH3 _ (by omega);rw[bD3]at this;omega;exact hie heq;have:(i+1)*esz<=e*esz:=aH3 _ (by omega);rw[bD3]at this;omega
  rw[zB2 D];obtain⟨M,H,J,K⟩:=O i r j x hr c;exact⟨M,by simpa using H,J,K.mono q⟩;cases hd;cases hd;cases hd;cases hd;cases hd
 |_::_::_::_,h=>have:=h.1;simp at this
end
end Go.Sim
namespace Go.Sim
variable {e t:TypeId}
section
variable {P:Program} {g:Gh} {lim:Nat} {w:World} {L:Nat->Option AO} {n:Nat}
def oD (a:Addr) (hs:a.spot=none) (m j:Nat):g.cell (a.add m) j=g.cell a (m+j):=by
 unfold Gh.cell;have h1:(a.add m).block=a.block:=by unfold Addr.add;split<;>rfl
 have h2:(a.add m).off=a.off+m:=by unfold Addr.add;split<;>simp_all
 rw[h1,h2,aP3]
def Dr {a:Addr} (hs:a.spot=none) (m:Nat):(a.add m).spot=none:=by unfold Addr.add;split<;>simp_all
def Vb {cells:aA AV} {a:Addr} (h:VR g (.ip cells) (.pointer (some a))) (m:Nat):VR g (.ip (cells.drop m)) (.pointer (some (a.add m))):=by
 cases h with
 |ip hs hc hv=>
  refine .ip (Dr hs m) (fun j x b=>?_) (fun j x y b hy=>?_);rw[aI3]at b;rw[oD a hs];exact hc (m+j) x b;rw[aI3]at b;rw[oD a hs]at hy;exact hv (m+j) x y b hy
variable (ρ:Operand->Value) (o:Oper) {k:gC} {os:List Operand} {xs:List AV} {out:Out}
def tJ1 {s} {x} {f} {fs} {fd} {i} (j:o.op=.fieldAddr s x f) (k:P.underlying s=some (.struct fs)) (hf:fs[f]? =some fd)
  (hi:P.info? fd.type=some i) (h0:i.size≠0) (b:TR g xs [ρ x]) (hd:doOp L lim n (.fad fd.offset) xs=some out) (c:HR P g L w) (d:WG g w):gY P g lim w L n out (execOp ρ o):=by
 match xs,b with
 |[],b=>have:=b.1;simp at this
 |[p],b=>
  have hp:=b.head
  have key:∀a:Addr,ρ x=.pointer (some a)->(execOp ρ o).run P w=.ok (.value (.pointer (some (a.add fd.offset)))) w:=by
   intro a h;simp[execOp,j,Instr.fieldAt,run_underlying k,hf,h,Instr.sureAddr,fieldPlace,gD hi,h0]
  simp only[doOp]at hd;split at hd;cases hd;generalize hV:ρ x=V at hp;cases hp with
  |ip hs hc hv=>exact bF (key _ hV) (Vb (.ip hs hc hv) _) c d
  cases hd;generalize hV:ρ x=V at hp;cases hp with
  |ptr hi' hver hp=>
   refine bF (key _ hV) (.ptr hi' hver (fun e=>?_)) c d;rw[hp e,kF,aP3]
  cases hd
 |_::_::_,b=>have:=b.1;simp at this
def jB {x} {i} (h:intOf x=some i) {V} (hv:VR g x V):∃k,V=.int k i:=by
 cases x with
 |v y=>
  cases y with
  |int k n=>simp[intOf]at h;subst h;exact⟨k,hv.ground⟩
  |_=>simp[intOf]at h
 |_=>simp[intOf]at h
def tK1 {x u:Operand} {k:TypeInfo} (A:o.op=.indexAddr t x u) (C:P.underlying t=some (.slice e)) (hi:P.info? e=some k) (h0:k.size≠0)
  (d:TR g xs [ρ x,ρ u]) (hd:doOp L lim n (.iad k.size) xs=some out) (r:HR P g L w) (s:WG g w):gY P g lim w L n out (execOp ρ o):=by
 match xs,d with
 |[],d=>have:=d.1;simp at this
 |[_],d=>have:=d.1;simp at this
 |[a,j],d=>
  have l:=d.head;simp only[doOp]at hd;split at hd;rename_i i m;obtain⟨D,v⟩:=jB m d.tail.head
  have key:∀p len cap,ρ x=.slice (some p) len cap->0<=i->i<len->(execOp ρ o).run P w=.ok (.value (.pointer (some (p.add (i.toNat*k.size))))) w:=by
   intro p len cap hp h1 h2;simp[execOp,A,Instr.indexAt,v,asIntOf,run_underlying C,hp,h1,h2,gD hi]
  split at hd;rename_i esz els;split at hd;rename_i hc;obtain⟨rfl,h⟩:=hc;split at hd;rename_i row b;cases hd;generalize hV:ρ x=V at l;cases l with
  |is0=>simp at b
  |@is _ _ _ p cap hs hl hr hc hv=>
   have z:i.toNat<els.length:=(yT2.1 b).1;refine bF (key p _ cap hV h (by omega)) ?_ r s;refine .ip (Dr hs _) (fun j x d=>?_) (fun j x y d hy=>?_);rw[oD p hs];exact hc _ row j x b d;rw[oD p hs]at hy;exact hv _ row j x y b d hy
  cases hd;cases hd;rename_i esz id ver off len cap;split at hd;rename_i hc;obtain⟨rfl,h1,h2⟩:=hc;cases hd;generalize hV:ρ x=V at l;cases l with
  |@sl _ _ _ _ _ _ _ loc p c hi2 hver hlen hs hp=>
   refine bF (key p _ c hV h1 h2) (.ptr hi2 hver (fun e=>?_)) r s;obtain⟨q,f,B,_,_⟩:=hp e;rcases f with f|f;omega;subst f;rw[kF,q,aX3];simp
  cases hd;cases hd;cases hd
 |_::_::_::_,d=>have:=d.1;simp at this
end
end Go.Sim
namespace Go.Sim
section
variable {P:Program} {g:Gh}
def Vc (P:Program) (t:TypeId) (Cs:aA Value):Value:=if dS P t then .agg Cs.toArray else Cs.headD undef
def wX {t} {i} (a:P.underlying t≠none) (hi:P.info? t=some i) (Cs:aA Value) (off:Nat) (h:off<Cs.length) (w:World):
  (part t Cs.toArray off).run P w=.ok (Vc P t ((Cs.drop off).take i.size)) w\/i.size=0:=by
 by_cases h0:i.size=0;exact .inr h0;left;unfold part Vc;simp only[Sem.run_bind,oH a,Result.andThen_ok,Sem.run_ite];cases ha:dS P t with
 |true=>
  simp only[zT2,Sem.run_bind,gD hi,Result.andThen_ok,Sem.run_pure];congr 2;apply cZ3;simp[List.extract_eq_take_drop]
 |false=>
  simp only[zG2,aL3];have:(Cs.toArray)[off]? =some Cs[off]:=by simp[h]
  rw[this];simp only[Sem.run_pure];congr 1;simp[List.head?_take,h0,h]
def oI:∀e f as bs c d,as.length=e.length->bs.length=e.length->
  cellsEq (e++f) (as++c) (bs++d)=match cellsEq e as bs with|some true=>cellsEq f c d|r=>r
 |[],f,as,bs,c,d,h1,h2=>by
  have:as=[]:=by simpa using h1
  have g:bs=[]:=by simpa using h2
  subst this g
  simp[cellsEq]
 |k::e,f,[],_,_,_,h1,h2=>by simp at h1
 |k::e,f,_::_,[],_,_,h1,h2=>by simp at h2
 |k::e,f,a::as,b::bs,c,d,h1,h2=>by
  simp only[bF3,cellsEq]
  cases cellEq k a b with
  |none=>rfl
  |some r=>
   cases r
   rfl
   exact oI e f as bs c d (by simpa using h1) (by simpa using h2)
def TR.take {t} {v} (h:TR g t v) (m:Nat):TR g (t.take m) (v.take m):=by
 refine⟨by simp[h.1],fun i x y a b=>?_⟩;rw[zR2]at a b;split at a;rename_i hc;rw[yY2 hc]at b;exact h.2 i x y a b;cases a
def TR.drop {t} {v} (h:TR g t v) (m:Nat):TR g (t.drop m) (v.drop m):=by
 refine⟨by simp[h.1],fun i x y a b=>?_⟩;rw[aI3]at a b;exact h.2 _ x y a b
def oK {d} {t} {ks} (h:fM P d t=some ks):P.underlying t≠none:=by
 cases d with
 |zero=>simp[fM]at h
 |succ d=>intro e;simp[fM,e]at h
def EqK (P:Program) (g:Gh) (D:Nat) (t:TypeId) (ks:aA CK):Prop:=
 ∀(as bs:aA AV) (Cs Ds:aA Value) (r:Bool) (w:World),TR g as Cs->TR g bs Ds->as.length=ks.length->bs.length=ks.length->cellsEq ks as bs=some r->
  (Op.equalIn D t (Vc P t Cs) (Vc P t Ds)).run P w=.ok r w
def iA {α} (l:aA α) (off m:Nat) (h:off+m<=l.length):((l.drop off).take m).length=m:=by simp;omega
theorem Nb {d D} (IH:∀t ks,fM P d t=some ks->EqK P g D t ks):∀(fs:aA Field) (off:Nat) (ks:aA CK),pL (fM P d) P fs off=some ks->
  ∀(as bs:aA AV) (Cs Ds:aA Value) (r:Bool) (w:World),TR g as Cs->TR g bs Ds->off+ks.length<=as.length->off+ks.length<=bs.length->
   cellsEq ks ((as.drop off).take ks.length) ((bs.drop off).take ks.length)=some r->(Op.eqFields D Cs.toArray Ds.toArray fs).run P w=.ok r w:=by
 intro fs
 induction fs with
 |nil=>
  intro off ks h as bs Cs Ds r w o hb h1 h2 hr;simp only[pL,yZ2]at h;subst h;simp[cellsEq]at hr;subst hr;simp[Op.eqFields]
 |cons f fs ih=>
  intro off ks h as bs Cs Ds r w o hb h1 h2 hr;simp only[pL]at h;split at h;rename_i hc;obtain⟨rfl,e⟩:=hc;split at h;rename_i c i hk hi;split at h;rename_i m;obtain⟨j,h0⟩:=m;split at h;rename_i n u;cases h;simp only[aU3]at h1 h2
  have p:∀(l:aA AV),f.offset+(c.length+n.length)<=l.length->(l.drop f.offset).take (c.length+n.length)=(l.drop f.offset).take c.length++(l.drop (f.offset+c.length)).take n.length:=by
   intro l hl;rw[List.take_add,bU3]
  rw[aU3,p as h1,p bs h2,oI c n _ _ _ _ (iA _ _ _ (by omega)) (iA _ _ _ (by omega))]at hr;simp only[Op.eqFields,ne_eq,e,not_false_eq_true,zT2,Sem.run_bind];have s:=oK hk
  have key:∀q:Bool,cellsEq c ((as.drop f.offset).take c.length) ((bs.drop f.offset).take c.length)=some q->
    ((part f.type Cs.toArray f.offset).run P w).andThen (fun a w'=>((part f.type Ds.toArray f.offset).run P w').andThen fun b w'=>((Op.equalIn D f.type a b).run P w').andThen fun r w'=>
     (if(!r)=true then(pure false:Sem Bool)else Op.eqFields D Cs.toArray Ds.toArray fs).run P w')=
    (if(!q)=true then(pure false:Sem Bool)else Op.eqFields D Cs.toArray Ds.toArray fs).run P w:=by
   intro q k;have p1:=wX s hi Cs f.offset (by rw[<-o.1];omega) w;have p2:=wX s hi Ds f.offset (by rw[<-hb.1];omega) w;rcases p1 with p1|p1;rcases p2 with p2|p2;rw[p1,Result.andThen_ok,p2,Result.andThen_ok];have:=IH f.type c hk _ _ _ _ q w ((o.drop f.offset).take i.size) ((hb.drop f.offset).take i.size) (by rw[j];exact iA _ _ _ (by omega)) (by rw[j];exact iA _ _ _ (by omega)) (by rw[j];exact k);rw[this,Result.andThen_ok];omega;omega
  cases k:cellsEq c ((as.drop f.offset).take c.length) ((bs.drop f.offset).take c.length)with
  |none=>rw[k]at hr;cases hr
  |some q=>
   rw[k]at hr;rw[key q k];cases q;cases hr;simp
   grind
  cases h;cases h;cases h;cases h
theorem Xp {D} {e} {k1} {i} (h:P.underlying e≠none) (hi:P.info? e=some i) (a:i.size=k1.length) (h0:k1.length≠0) (IH:EqK P g D e k1):
  ∀(m:Nat) (js:aA Nat) (base:Nat),js=List.range' base m->∀(as bs:aA AV) (Cs Ds:aA Value) (r:Bool) (w:World),TR g as Cs->TR g bs Ds->
   (base+m)*k1.length<=as.length->(base+m)*k1.length<=bs.length->
   cellsEq ((List.replicate m k1).flatten) ((as.drop (base*k1.length)).take (m*k1.length)) ((bs.drop (base*k1.length)).take (m*k1.length))=some r->
   (Op.eqItems D e i.size Cs.toArray Ds.toArray js).run P w=.ok r w:=by
 intro m
 induction m with
 |zero=>
  intro js base d as bs Cs Ds r w b hb h1 h2 hr;subst d;simp[cellsEq]at hr;subst hr;simp[Op.eqItems]
 |succ m ih=>
  intro js base d as bs Cs Ds r w b hb h1 h2 hr;subst d;have j:(base+(m+1))*k1.length=base*k1.length+(k1.length+m*k1.length):=by rw[aX3,bD3];omega
  rw[j]at h1 h2;have c:(base+1)*k1.length=base*k1.length+k1.length:=bD3 _ _
  have f:∀(l:aA AV),(l.drop (base*k1.length)).take ((m+1)*k1.length)=(l.drop (base*k1.length)).take k1.length++(l.drop ((base+1)*k1.length)).take (m*k1.length):=by
   intro l;rw[bD3,bK3,List.take_add,bU3,c]
  rw[List.replicate_succ,cV3,f as,f bs,oI k1 _ _ _ _ _ (iA _ _ _ (by omega)) (iA _ _ _ (by omega))]at hr;simp only[List.range'_succ,Op.eqItems,Sem.run_bind];rw[a];have p1:=wX h hi Cs (base*k1.length) (by rw[<-b.1];omega) w;have p2:=wX h hi Ds (base*k1.length) (by rw[<-hb.1];omega) w;rcases p1 with p1|p1;rcases p2 with p2|p2;rw[p1,Result.andThen_ok,p2,Result.andThen_ok];cases hq:cellsEq k1 ((as.drop (base*k1.length)).take k1.length) ((bs.drop (base*k1.length)).take k1.length)with
  |none=>rw[hq]at hr;cases hr
  |some q=>
   rw[hq]at hr;have:=IH _ _ _ _ q w ((b.drop (base*k1.length)).take i.size) ((hb.drop (base*k1.length)).take i.size) (by rw[a];exact iA _ _ _ (by omega)) (by rw[a];exact iA _ _ _ (by omega)) (by rw[a];exact hq);rw[this,Result.andThen_ok];cases q;cases hr;simp
   grind
  omega;omega
def sT {k} {as bs} {r} (h1:as.length=1) (h2:bs.length=1) (h:cellsEq [k] as bs=some r):∃a b,as=[a]/\bs=[b]/\cellEq k a b=some r:=by
 match as,bs,h1,h2 with
 |[a],[b],_,_=>
  refine⟨a,b,rfl,rfl,?_⟩;simp only[cellsEq]at h;cases hc:cellEq k a b with
  |none=>rw[hc]at h;cases h
  |some q=>
   rw[hc]at h;cases q;simpa using h;omega
def Xq (a b:ByteArray):(a==b)=(a.toList==b.toList):=beq_toListBytes a b
def oL:∀d t ks,fM P d t=some ks->∀D,d<=D->EqK P g D t ks
 |0,t,ks,h,D,hD=>by simp[fM]at h
 |d+1,t,ks,h,D,hD=>by
  obtain⟨D,rfl⟩:∃D',D=D'+1:=⟨D-1,by omega⟩
  have c:=oK h
  intro as bs Cs Ds r w k hb h1 h2 hr
  unfold fM at h
  split at h
  rename_i c
  cases h
  obtain⟨a,b,rfl,rfl,hc⟩:=sT h1 h2 hr
  obtain⟨A,rfl,f⟩:=tr1 k
  obtain⟨B,rfl,j⟩:=tr1 hb
  unfold cellEq at hc
  split at hc<;>simp_all[Vc,dS]
  obtain rfl:=f.ground
  obtain rfl:=j.ground
  subst hc
  exact run_equalIn_bool w D t _ _ c
  rename_i p c
  cases h
  obtain⟨a,b,rfl,rfl,hc⟩:=sT h1 h2 hr
  obtain⟨A,rfl,f⟩:=tr1 k
  obtain⟨B,rfl,j⟩:=tr1 hb
  unfold cellEq at hc
  split at hc
  split at hc
  rename_i e
  subst e
  simp only[yZ2]at hc
  simp only[Vc,dS,c,zG2,aL3,List.headD_cons]
  obtain rfl:=f.ground
  obtain rfl:=j.ground
  subst hc
  exact run_equalIn_int w D t _ _ _ _ c
  cases hc
  simp_all
  simp_all
  cases hc
  rename_i c
  cases h
  obtain⟨a,b,rfl,rfl,hc⟩:=sT h1 h2 hr
  obtain⟨A,rfl,f⟩:=tr1 k
  obtain⟨B,rfl,j⟩:=tr1 hb
  unfold cellEq at hc
  split at hc<;>simp_all[Vc,dS]
  obtain rfl:=f.ground
  obtain rfl:=j.ground
  subst hc
  rw[run_equalIn_string w D t _ _ c,Xq]
  rename_i fs c
  split at h
  cases h
  rename_i l
  have hf:P.fieldsOf t=fs:=by simp[Program.fieldsOf,c]
  have:=Nb (P:=P) (g:=g) (D:=D) (fun t ks hk=>oL d t ks hk D (by omega)) fs.toList 0 ks h as bs Cs Ds r w k hb (by omega) (by omega)
   (by rw[aO3,aO3,aK3 (by omega),aK3 (by omega)];exact hr)
  simp only[Vc,dS,c,zT2]
  rw[run_equalIn_struct w D t _ _ (by rw[hf];exact c) (by simpa using l),hf]
  exact this
  rename_i n e c
  split at h
  rename_i o i hk hi
  split at h
  rename_i hc
  obtain⟨m,h0⟩:=hc
  cases h
  have hl:((List.replicate n o).flatten).length=n*o.length:=by simp
  have:=Xp (P:=P) (g:=g) (D:=D) (oK hk) hi m h0 (oL d e o hk D (by omega)) n _ 0 rfl as bs Cs Ds r w k hb (by rw[aQ3];omega) (by rw[aQ3];omega)
   (by rw[cW3,aO3,aO3,aK3 (by omega),aK3 (by omega)];exact hr)
  simp only[Vc,dS,c,zT2]
  rw[run_equalIn_array w D _ _ c hi,List.range_eq_range',show P.cellsOf e=i.size by simp[Program.cellsOf,hi]]
  exact this
  cases h
  cases h
  cases h
end
end Go.Sim
namespace Go.Sim
variable {e t:TypeId} {len n:Nat}
section
variable {P:Program} {g:Gh} {lim:Nat} {w:World} {L:Nat->Option AO}
variable (ρ:Operand->Value) (o:Oper) {k:gC} {os:List Operand} {xs:List AV} {out:Out}
def jE1 {t e} {x ix} {ei} {len} (l:o.op=.indexAddr t x ix) (m:P.underlying t=some (.array len e)) (hi:P.info? e=some ei)
  (b:TR g xs [ρ x,ρ ix]) (hd:doOp L lim n (.iadA len ei.size) xs=some out) (f:HR P g L w) (h:WG g w):gY P g lim w L n out (execOp ρ o):=by
 match xs,b with
 |[],b=>have:=b.1;simp at this
 |[_],b=>have:=b.1;simp at this
 |[a,j],b=>
  have c:=b.head;simp only[doOp]at hd;split at hd;rename_i i d;obtain⟨q,k⟩:=jB d b.tail.head;split at hd;rename_i hc;obtain⟨h1,h2⟩:=hc
  have key:∀p,ρ x=.pointer (some p)->(execOp ρ o).run P w=.ok (.value (.pointer (some (p.add (i.toNat*ei.size))))) w:=by
   intro p hp;simp[execOp,l,Instr.indexAt,k,asIntOf,run_underlying m,hp,h1,h2,gD hi,Instr.sureAddr]
  split at hd;cases hd;generalize hV:ρ x=V at c;cases c with
  |ip hs hc hv=>exact bF (key _ hV) (Vb (.ip hs hc hv) _) f h
  cases hd;generalize hV:ρ x=V at c;cases c with
  |ptr hi2 hver hp=>
   refine bF (key _ hV) (.ptr hi2 hver (fun e=>?_)) f h;rw[hp e,kF,aP3]
  cases hd;cases hd;cases hd
 |_::_::_::_,b=>have:=b.1;simp at this
def Rp {cs:aA AV} {Cs:Array Value} (h:VR g (.agg cs) (.agg Cs)) {i:Nat} {c:AV} (hc:cs[i]? =some c):∃y,Cs[i]? =some y/\VR g c y:=by
 cases h with
 |agg hl hcell hv=>
  have hi:i<Cs.size:=by rw[<-hl];exact(yT2.1 hc).1
  exact⟨Cs[i],by simp[hi],hv i c _ hc (by simp[hi])⟩
theorem Nc {cs} {Cs} (h:VR g (.agg cs) (.agg Cs)) (off m:Nat):VR g (.agg ((cs.drop off).take m)) (.agg (Cs.extract off (off+m))):=by
 cases h with
 |agg hl hcell hv=>
  refine .agg (by simp;omega) (fun i y hy=>?_) (fun i x y a hy=>?_);rw[Array.getElem?_extract]at hy;split at hy;exact hcell _ y hy;cases hy
  grind
def bP1 {t} (b:P.underlying t≠none) (a:dS P t=false) {Cs} {off} {y} (h:Cs[off]? =some y):(part t Cs off).run P w=.ok y w:=by
 simp[part,oH b,a,h]
def tL1 {t} {i} (b:P.underlying t≠none) (a:dS P t=true) (hi:P.info? t=some i) (Cs:Array Value) (off:Nat):
  (part t Cs off).run P w=.ok (.agg (Cs.extract off (off+i.size))) w:=by
 simp[part,oH b,a,gD hi]
def Xr {t} {x ix} (q:o.op=.index t x ix) (r:P.underlying t=some .string) (c:TR g xs [ρ x,ρ ix]) (hd:doOp L lim n .idxStr xs=some out)
  (h:HR P g L w) (l:WG g w):gY P g lim w L n out (execOp ρ o):=by
 match xs,c with
 |[],c=>have:=c.1;simp at this
 |[_],c=>have:=c.1;simp at this
 |[a,j],c=>
  have m:=c.head;simp only[doOp]at hd;split at hd;rename_i s i e;obtain⟨u,p⟩:=jB e c.tail.head;split at hd;rename_i h1;split at hd;rename_i b hb;cases hd;have k:=m.ground;refine bF (V:=.int .u8 b.toNat) ?_ (.v rfl) h l
  have d:s[i.toNat]? =some b:=by
   have f:i.toNat<s.size:=by
    have:=(yT2.1 hb).1;simpa using this
   have h2:s.data.toList[i.toNat]? =some s.data[i.toNat]:=by simp
   rw[h2]at hb;cases hb;rw[getElem?_pos s i.toNat f];rfl
  simp[execOp,q,Instr.index,p,asIntOf,run_underlying r,k,h1,d];cases hd;cases hd;cases hd
 |_::_::_::_,c=>have:=c.1;simp at this
def jF1 {x v:Operand} {f:TypeInfo} (s:o.op=.index t x v) (u:P.underlying t=some (.array len e)) (h:P.underlying e≠none) (hi:P.info? e=some f)
  (d:TR g xs [ρ x,ρ v]) (hd:doOp L lim n (.idxA len f.size (dS P e)) xs=some out) (m:HR P g L w) (p:WG g w):gY P g lim w L n out (execOp ρ o):=by
 match xs,d with
 |[],d=>have:=d.1;simp at this
 |[_],d=>have:=d.1;simp at this
 |[a,j],d=>
  have q:=d.head;simp only[doOp]at hd;split at hd;rename_i cs i k;obtain⟨z,r⟩:=jB k d.tail.head;split at hd;rename_i hc;obtain⟨h1,h2⟩:=hc;generalize hV:ρ x=V at q;cases q with
  |@agg _ cs Cs hl hcell hvv=>
   split at hd;rename_i b;cases hd;refine bF (V:=.agg (Cs.extract (i.toNat*f.size) (i.toNat*f.size+f.size))) ?_ (Nc (.agg hl hcell hvv) _ _) m p;simp[execOp,s,Instr.index,r,asIntOf,run_underlying u,hV,h1,h2,gD hi,tL1 h b hi];rename_i b;split at hd;rename_i c hc;cases hd;obtain⟨y,hy,l⟩:=Rp (.agg hl hcell hvv) hc;refine bF (V:=y) ?_ l m p;simp[execOp,s,Instr.index,r,asIntOf,run_underlying u,hV,h1,h2,gD hi,bP1 h (by simpa using b) hy];cases hd
  cases hd;cases hd
 |_::_::_::_,d=>have:=d.1;simp at this
def Nd {op} {a b r} (h:binS op a b=some r):Value.ground r=true:=by
 unfold binS at h;split at h;split at h;split at h<;>simp_all<;>(subst h;rfl);split at h<;>simp_all<;>(subst h;rfl);split at h;split at h<;>(try split at h)<;>simp_all<;>(first|(subst h;rfl)|(obtain⟨_,rfl⟩:=h;rfl));cases h;split at h<;>(try split at h)<;>simp_all<;>(first|(subst h;rfl)|(obtain⟨_,rfl⟩:=h;rfl));cases h
def bQ1 {op} {a b r} (h:binS op a b=some r) (t:TypeId) (x y:Operand):(eqGuard op t x y a b).run P w=.ok () w/\(binOp op t a b).run P w=.ok r w:=by
 unfold binS at h;split at h;rename_i k n k' m;refine⟨by rw[eqGuard_at_int];rfl,?_⟩;split at h;split at h;cases h;rename_i hb;cases h;simp[binOp,Op.shift,hb];split at h;cases h;rename_i hb;cases h;simp[binOp,Op.shift,hb];rename_i h1 h2;split at h;rename_i e;subst e;split at h;cases h;simp[binOp,Op.intArith];cases h;simp[binOp,Op.intArith];cases h;simp[binOp,Op.intArith];split at h;cases h;rename_i h0;cases h;simp[binOp,Op.intDiv,h0];split at h;cases h;rename_i h0;cases h;simp[binOp,Op.intDiv,h0];cases h;simp[binOp,Op.intBits];cases h;simp[binOp,Op.intBits];cases h;simp[binOp,Op.intBits];cases h;simp[binOp,Op.intBits];cases h;simp[binOp,Op.intCmp];cases h;simp[binOp,Op.intCmp];cases h;simp[binOp,Op.intCmp];cases h;simp[binOp,Op.intCmp];cases h;simp[binOp,Op.intCmp];cases h;simp[binOp,Op.intCmp];cases h;cases h;rename_i s u;refine⟨by cases op<;>rfl,?_⟩;split at h;split at h;rename_i hs;cases h;have:¬(9223372036854775807:Int)<((s.size:Int)+(u.size:Int)):=by omega
 simp[binOp,Op.stringOp,this];cases h;cases h;simp[binOp,Op.stringOp];cases h;simp[binOp,Op.stringOp];cases h;simp[binOp,Op.stringOp];cases h;simp[binOp,Op.stringOp];cases h;simp[binOp,Op.stringOp];cases h;simp[binOp,Op.stringOp];cases h;cases h
def bR1 {op} {t u} {x y} (h:o.op=.binOp op t x y u) (c:TR g xs [ρ x,ρ y]) (hd:doOp L lim n (.bin op) xs=some out) (d:HR P g L w) (e:WG g w):
  gY P g lim w L n out (execOp ρ o):=by
 match xs,c with
 |[],c=>have:=c.1;simp at this
 |[_],c=>have:=c.1;simp at this
 |[a,b],c=>
  have f:=c.head;have hb:=c.tail.head;simp only[doOp]at hd;split at hd;rename_i i j;simp only[yV2]at hd;obtain⟨r,hr,rfl⟩:=hd;obtain⟨h1,h2⟩:=bQ1 (P:=P) (w:=w) hr t x y;refine bF (V:=r) ?_ (.v (Nd hr)) d e;simp[execOp,h,f.ground,hb.ground,h1,h2];cases hd
 |_::_::_::_,c=>have:=c.1;simp at this
def bS1 {op} {neg} {t u} {x y} (e:o.op=.binOp op t x y u) (hop:op=if neg then .neq else .eql) (k:P.underlying t=some .bool)
  (c:TR g xs [ρ x,ρ y]) (hd:doOp L lim n (.eqB neg) xs=some out) (i:HR P g L w) (j:WG g w):gY P g lim w L n out (execOp ρ o):=by
 match xs,c with
 |[],c=>have:=c.1;simp at this
 |[_],c=>have:=c.1;simp at this
 |[a,b],c=>
  have d:=c.head;have hb:=c.tail.head;simp only[doOp]at hd;split at hd;rename_i f h;cases hd;refine bF (V:=.bool ((f==h)!=neg)) ?_ (.v rfl) i j;have he:=run_equal_bool (P:=P) w t f h k;subst hop;cases neg;simp[execOp,e,d.ground,hb.ground,eqGuard_at_bool,binOp,he];simp[execOp,e,d.ground,hb.ground,eqGuard_at_bool,binOp,he];cases hd
 |_::_::_::_,c=>have:=c.1;simp at this
def Kb {op} {neg} {t u} {x y} {ks} (f:o.op=.binOp op t x y u) (hop:op=if neg then .neq else .eql) (hk:fM P 20 t=some ks) (e:dS P t=true)
  (hg:P.eqGuardType P.depth t=false) (c:TR g xs [ρ x,ρ y]) (hd:doOp L lim n (.eqA neg ks) xs=some out) (j:HR P g L w) (k:WG g w):gY P g lim w L n out (execOp ρ o):=by
 match xs,c with
 |[],c=>have:=c.1;simp at this
 |[_],c=>have:=c.1;simp at this
 |[a,b],c=>
  have h:=c.head;have hb:=c.tail.head;simp only[doOp]at hd;split at hd;rename_i as bs;split at hd;rename_i hc;obtain⟨h1,h2⟩:=hc;split at hd;rename_i r hr;cases hd;generalize hV:ρ x=V at h;generalize hV2:ρ y=V2 at hb;cases h with
  |@agg _ _ Cs hl hcell hv=>
   cases hb with
   |@agg _ _ Ds hl2 hcell2 hv2=>
    have he:=oL (P:=P) (g:=g) 20 t ks hk 10000 (by omega) as bs Cs.toList Ds.toList r w ⟨by simpa using hl,fun i x y a b=>hv i x y a (by simpa using b)⟩
     ⟨by simpa using hl2,fun i x y a b=>hv2 i x y a (by simpa using b)⟩ h1 h2 hr
    simp only[Vc,e,zT2,Array.toArray_toList]at he;refine bF (V:=.bool (r !=neg)) ?_ (.v rfl) j k;have d:=run_eqGuard_agg (P:=P) w op t x y Cs Ds hg;subst hop;cases neg;simp only[zG2,aL3]at d f;simp[execOp,f,hV,hV2,d,run_eql_struct,he];simp only[zT2]at d f;simp[execOp,f,hV,hV2,d,run_neq_struct,he]
  cases hd;cases hd;cases hd
 |_::_::_::_,c=>have:=c.1;simp at this
def Rq {op} {a r} (h:unS op a=some r):Value.ground r=true:=by
 unfold unS at h;split at h;split at h<;>simp_all<;>(subst h;rfl);split at h<;>simp_all<;>(subst h;rfl);cases h
def xH1 {op} {t} {x} (d:o.op=.unOp op t x) (b:TR g xs [ρ x]) (hd:doOp L lim n (.un op) xs=some out) (e:HR P g L w) (f:WG g w):
  gY P g lim w L n out (execOp ρ o):=by
 match xs,b with
 |[],b=>have:=b.1;simp at this
 |[a],b=>
  have c:=b.head;simp only[doOp]at hd;split at hd;rename_i h;simp only[yV2]at hd;obtain⟨r,hr,rfl⟩:=hd;refine bF (V:=r) ?_ (.v (Rq hr)) e f;unfold unS at hr;split at hr;split at hr;cases hr;simp[execOp,d,c.ground,Op.unary,Op.intArith];cases hr;simp[execOp,d,c.ground,Op.unary,Op.intBits];cases hr;split at hr;cases hr;simp[execOp,d,c.ground,Op.unary];cases hr;cases hr;cases hd
 |_::_::_,b=>have:=b.1;simp at this
def tM1 {i} {x} (f:o.op=.extract x i) (b:TR g xs [ρ x]) (hd:doOp L lim n (.ext i) xs=some out) (d:HR P g L w) (e:WG g w):
  gY P g lim w L n out (execOp ρ o):=by
 match xs,b with
 |[],b=>have:=b.1;simp at this
 |[a],b=>
  have c:=b.head;simp only[doOp]at hd;split at hd;rename_i vs;split at hd;rename_i v hv;cases hd;generalize hV:ρ x=V at c;cases c with
  |@tup _ _ Cs hl hvv=>
   have hi:i<Cs.size:=by rw[<-hl];exact(yT2.1 hv).1
   refine bF (V:=Cs[i]) ?_ (hvv i v _ hv (by simp[hi])) d e;simp[execOp,f,hV,Instr.extract,hi]
  cases hd;cases hd
 |_::_::_,b=>have:=b.1;simp at this
def bT1 {src dst} {ks k} {x} (f:o.op=.convert src dst x) (h1:P.underlying src=some (.int ks)) (h2:P.underlying dst=some (.int k)) (b:TR g xs [ρ x])
  (hd:doOp L lim n (.convI k) xs=some out) (c:HR P g L w) (d:WG g w):gY P g lim w L n out (execOp ρ o):=by
 match xs,b with
 |[],b=>have:=b.1;simp at this
 |[a],b=>
  have e:=b.head;simp only[doOp]at hd;split at hd;cases hd;refine bF ?_ (.v rfl) c d;simp[execOp,f,e.ground,convert,run_underlying h1,run_underlying h2,Conv.intToInt];cases hd
 |_::_::_,b=>have:=b.1;simp at this
end
end Go.Sim
namespace Go.Sim
section
variable {P:Program} {g:Gh} {lim:Nat} {w:World} {L:Nat->Option AO} {n:Nat}
variable (ρ:Operand->Value) (o:Oper) {k:gC} {os:List Operand} {xs:List AV} {out:Out}
def bU1 {f} {a c} {A C} (h1:TR g a A) (h2:TR g c C):VR g (.fn (.func f) a c) (.func (.func f) A.toArray C.toArray):=
 .fn (by simpa using h1.1) (by simpa using h2.1) (fun i x y a b=>h1.2 i x y a (by simpa using b)) (fun i x y a b=>h2.2 i x y a (by simpa using b))
def jG1 {f} {first captured} (d:o.op=.makeFunc (.func f) first captured) (a:TR g xs ((first.toList++captured.toList).map ρ))
  (hd:doOp L lim n (.mkfn (.func f) first.size) xs=some out) (b:HR P g L w) (c:WG g w):gY P g lim w L n out (execOp ρ o):=by
 simp only[doOp,yZ2]at hd;subst hd;refine bF (V:=.func (.func f) (first.map ρ) (captured.map ρ)) ?_ ?_ b c;simp[execOp,d,Instr.makeFunc];have h1:=a.take first.size
 have h2:=a.drop first.size
 rw[List.map_append,List.take_left' (by simp)]at h1;rw[List.map_append,List.drop_left' (by simp)]at h2;have:=bU1 (f:=f) h1 h2;rw[show(first.toList.map ρ).toArray=first.map ρ from cZ3 (by simp),show(captured.toList.map ρ).toArray=captured.map ρ from cZ3 (by simp)]at this;exact this
def bV1 {t} (j:o.op=.makeMap t none) (b:TR g xs []) (hd:doOp L lim n .mkmap xs=some out) (d:HR P g L w) (f:WG g w)
  (hn:g.ι n=none) (hl:lim<=n):gY P g lim w L n out (execOp ρ o):=by
 match xs,b with
 |[],b=>
  simp only[doOp,yZ2]at hd;subst hd;refine qF (w₁:=w) (o:=.map #[] 0) (V:=.map (some w.heap.size)) (loc:=⟨w.heap.size,0,0,0⟩) (.inl rfl) ?_ rfl hn hl ?_ ?_ d f;simp[execOp,j,Instr.makeMap];intro g' c a;exact .map a (fun _=>rfl);intro g' c a;exact⟨_,#[],0,a,rfl,heap_alloc_new w _,rfl,fun i k x e h=>by simp at h⟩
 |_::_,b=>have:=b.1;simp at this
theorem Nf (w:World) (a:Addr) (m b:Nat) (h:b≠a.block):(w.freeze a m).heap[b]? =w.heap[b]? :=by
 unfold World.freeze;split;rfl
 grind
theorem Hd (w:World) (a:Addr) (m:Nat):(w.freeze a m).os=w.os/\(w.freeze a m).tape=w.tape/\(w.freeze a m).output=w.output/\(w.freeze a m).heap.size=w.heap.size:=by
 unfold World.freeze;split
 grind
 grind
def tN1 {src dst e} {x} (K:o.op=.convert src dst x) (h1:P.underlying src=some .string) (h2:P.underlying dst=some (.slice e)) (E:P.underlying e=some (.int .u8))
  (k:TR g xs [ρ x]) (hd:doOp L lim n (.s2b e) xs=some out) (F:HR P g L w) (p:WG g w):gY P g lim w L n out (execOp ρ o):=by
 match xs,k with
 |[],k=>have:=k.1;simp at this
 |[a],k=>
  have H:=k.head;simp only[doOp]at hd;split at hd;rename_i s;cases hd;let cap:=(Question.appendCap s.size 0 e).cut (w.tape w.drawn (.appendCap s.size 0 e))
  let arr:Array Value:=(s.data.map fun b=>Value.int .u8 b.toNat)++Array.replicate (cap-s.size) (.int .u8 0)
  let w1:=w.drew.alloc (.cells arr e)
  have t:s.size<=cap:=by simp[cap,Question.cut]
  let w2:=w1.freeze ⟨w.heap.size,arr.size,none⟩ 1
  have A:(execOp ρ o).run P w=.ok (.value (.slice (some ⟨w.heap.size,0,none⟩) s.size cap)) w2:=by
   have B:w1.shape? w.heap.size=some (e,arr.size):=by
    unfold World.shape?;have:w1.heap[w.heap.size]? =some (.cells arr e):=heap_alloc_new w.drew _;rw[this]
   simp[execOp,K,H.ground,convert,run_underlying h1,run_underlying h2,run_underlying E,Conv.stringToBytes,Question.forced,newRow,markStringish,cap,w2];simp[arr,w1,cap]at B;simp[B,arr,w1,cap]
  obtain⟨fr,r⟩:∃fr,w2.heap[w.heap.size]? =some (.cells arr e fr):=by
   have hb:w1.heap[w.heap.size]? =some (.cells arr e):=heap_alloc_new w.drew _;simp only[w2,World.freeze];rw[zB2 (by omega)];simp only[Array.getElem?_modify];rw[hb];simp
  have f:∀b,b<w.heap.size->w2.heap[b]? =w.heap[b]? :=fun b hb=>by
   simp only[w2];rw[Nf _ _ _ _ (by simp only;omega)];exact dO w.drew _ hb
  obtain⟨p1,p2,p3,p4⟩:=Hd w1 ⟨w.heap.size,arr.size,none⟩ 1
  have M:w2.heap.size=w.heap.size+1:=by
   show(w1.freeze _ _).heap.size=_
   rw[p4];simp[w1]
  let g':Gh:={G:=fun b=>if b=w.heap.size then some (.cells arr e fr)else g.G b,ι:=g.ι}
  have m:∀b o',g.G b=some o'->b<w.heap.size:=fun b o' h=>(zV2.1 (p.still b o' h)).1
  have z:g.le g':=⟨fun b o' h=>by
   have:=m b o' h;show(if b=w.heap.size then some (Obj.cells arr e fr)else g.G b)=some o'
   rw[zB2 (by omega)];exact h,fun id loc h=>⟨loc,h,yX2 _,fun _=>rfl⟩⟩
  have l:∀j,j<s.size->∃b,s.data.toList[j]? =some b/\g'.cell ⟨w.heap.size,0,none⟩ j=some (.int .u8 b.toNat):=by
   intro j J;have u:j<s.data.size:=J;refine⟨s.data[j],by simp[u],?_⟩;show(match(if w.heap.size=w.heap.size then some (Obj.cells arr e fr)else g.G w.heap.size)with|some (.cells c _ _)=>c[0+j]? |_=>none)=_
   rw[yY2 rfl];simp only[aQ3,arr];rw[Array.getElem?_append_left (by simpa using u)];simp;exact⟨s.data[j],by simp,rfl⟩
  have d:(byteRows s).length=s.size:=by simp[byteRows]
  refine⟨_,_,g',w2,A,.inl rfl,?_,?_,⟨?_,?_,?_,p.inj⟩,⟨z,by omega,fun b hb _=>f b hb,fun id loc h=>.inl ⟨loc,h,rfl⟩,fun _ _=>rfl,?_,?_,?_,?_,fun b R h=>⟨R,(f b (zV2.1 h).1).trans h⟩⟩,fun id h=>.inl h⟩
  have aG:∀i row,(byteRows s)[i]? =some row->i<s.size/\∃b,s.data.toList[i]? =some b/\row=[.v (.int .u8 b.toNat)]:=by
   intro i row h;have hi:i<s.size:=by rw[<-d];exact(yT2.1 h).1
   simp only[byteRows,aJ3,yV2]at h;obtain⟨b,hb,rfl⟩:=h;exact⟨hi,b,hb,rfl⟩
  rw[<-d];refine VR.is rfl (by rw[d];exact t) (fun i row h=>?_) (fun i row j x h k=>?_) (fun i row j x y h k hy=>?_);obtain⟨_,b,_,rfl⟩:=aG i row h;rfl;obtain⟨hi,b,hb,rfl⟩:=aG i row h;cases j with
  |zero=>
   obtain⟨b',_,hc⟩:=l i hi;exact⟨_,by rw[Nat.mul_one,aZ3];exact hc,rfl⟩
  |succ j=>simp at k
  obtain⟨hi,b,hb,rfl⟩:=aG i row h;cases j with
  |zero=>
   obtain⟨b',q,hc⟩:=l i hi;rw[hb]at q;cases q;simp at k;subst k;rw[Nat.mul_one,aZ3,hc]at hy;cases hy;exact .v rfl
  |succ j=>simp at k
  rw[Mz];intro id a D;exact(F id a D).mono z rfl (fun loc hl=>f _ (p.lt id loc hl));intro b o' h;by_cases C:b=w.heap.size;subst C;have:(if w.heap.size=w.heap.size then some (Obj.cells arr e fr)else g.G w.heap.size)=some o':=h;rw[yY2 rfl]at this;cases this;exact r;have:(if b=w.heap.size then some (Obj.cells arr e fr)else g.G b)=some o':=h;rw[zB2 C]at this;rw[f b (m b o' this)];exact p.still b o' this;intro id loc h;have:=p.lt id loc h;omega;intro id loc h;have:=p.lt id loc h;show(if loc.b=w.heap.size then some (Obj.cells arr e fr)else g.G loc.b)=none
  rw[zB2 (by omega)];exact p.out id loc h;exact p1;exact p2;exact p3;intro b o' h;by_cases C:b=w.heap.size;exact .inr (by omega);have:(if b=w.heap.size then some (Obj.cells arr e fr)else g.G b)=some o':=h;rw[zB2 C]at this;exact .inl this;cases hd
 |_::_::_,k=>have:=k.1;simp at this
theorem Dt (R:HR P g L w) (T:WG g w) {esz} (h0:esz≠0) {x} {V} (B:VR g x V) {rows} (hr:rowsOf L esz x=some rows) (hs:∀s,x≠.v (.string s)):
  ∃a cap,V=.slice a rows.length cap/\(∀(i:Nat) (row:aA AV),rows[i]? =some row->row.length=esz)/\(a=none->rows=[]/\cap=0)/\
   ∀p,a=some p->∃ys:aA Value,ys.length=rows.length*esz/\(∀j y,ys[j]? =some y->w.cell? (p.add j)=some y)/\(∀y∈ys,isCell y=true)/\
    ∀i row j x,rows[i]? =some row->row[j]? =some x->∃y,ys[i*esz+j]? =some y/\VR g x y:=by
 unfold rowsOf at hr;split at hr;rename_i e els;split at hr;rename_i N;subst N;cases hr;cases B with
 |@is0 _ _ cap a=>exact⟨some a,cap,rfl,fun i row h=>(by simp at h),fun h=>(by cases h),fun p hp=>⟨[],by simp,fun j y h=>(by simp at h),fun y h=>(by simp at h),fun i row j x h=>(by simp at h)⟩⟩
 |@is _ _ _ a cap hs' hl d hc hv=>
  refine⟨some a,cap,rfl,d,fun h=>(by cases h),fun p hp=>?_⟩;cases hp
  have r:∀k,k<rows.length*e->∃row,rows[k/e]? =some row/\k%e<row.length:=fun k hk=>by
   have h1:k/e<rows.length:=Nat.div_lt_of_lt_mul (by rw[Nat.mul_comm];exact hk);refine⟨rows[k/e],by simp[h1],?_⟩;rw[d (k/e) _ (by simp[h1])];exact Nat.mod_lt _ (by omega)
  have f:∀k,k<rows.length*e->∃y,g.cell a k=some y/\isCell y=true:=fun k hk=>by
   obtain⟨row,h1,h2⟩:=r k hk;obtain⟨y,l,A⟩:=hc (k/e) row (k%e) row[k%e] h1 (by simp[h2]);rw[Nat.div_add_mod']at l;exact⟨y,l,A⟩
  refine⟨(List.range (rows.length*e)).map fun k=>(g.cell a k).getD undef,by simp,fun j y hy=>?_,fun y hy=>?_,fun i row j x h1 h2=>?_⟩;by_cases m:j<rows.length*e;obtain⟨y',l,A⟩:=f j m;simp[m,l]at hy;subst hy;exact Dp T hs' l;simp[m]at hy
  grind
  obtain⟨y,l,A⟩:=hc i row j x h1 h2;have hi:i<rows.length:=(yT2.1 h1).1;have m:j<e:=by rw[<-d i row h1];exact(yT2.1 h2).1
  have o:i*e+j<rows.length*e:=by
   have:(i+1)*e<=rows.length*e:=aH3 _ hi;rw[bD3]at this;omega
  exact⟨y,by simp[o,l],(hv i row j x y h1 h2 l).mono (bI1 g)⟩
 cases hr;cases hr;have:=B.ground;subst this;exact⟨none,0,rfl,fun i row h=>(by simp at h),fun _=>⟨rfl,rfl⟩,fun p hp=>(by cases hp)⟩;cases hr;cases B with
 |@es _ a=>exact⟨a,0,rfl,fun i row h=>(by simp at h),fun h=>⟨rfl,rfl⟩,fun p hp=>⟨[],by simp,fun j y h=>(by simp at h),fun y h=>(by simp at h),fun i row j x h=>(by simp at h)⟩⟩
 grind
 rename_i z id ver off len cap;split at hr;rename_i bx ty e M els S;split at hr;rename_i hc;obtain⟨rfl,rfl,hlen⟩:=hc;cases hr;obtain⟨loc,cs,h1,h2,l,A,O,h6,h7,C,J⟩:=R id _ S;cases B with
 |@sl _ _ _ _ _ _ _ loc' p c hi hver hlc hs hp=>
  rw[h1]at hi;cases hi;obtain⟨hz,F,X,Y,Z⟩:=hp l;have u:((els.drop off).take len).length=len:=by simp;omega
  have d:∀(i:Nat) (row:aA AV),((els.drop off).take len)[i]? =some row->i<len/\els[off+i]? =some row:=by grind
  refine⟨some p,c,by rw[u],fun i row h=>C _ row (d i row h).2,fun h=>(by cases h),fun q hq=>?_⟩;cases hq;by_cases W:len=0;simp_all;have G:p=⟨loc.b,off*loc.esz,none⟩:=F.resolve_left (by omega);subst G
  have f:∀k,k<len*e->∃y,cs[off*e+k]? =some y/\isCell y=true:=fun k hk=>by
   have U:k/e<len:=Nat.div_lt_of_lt_mul (by rw[Nat.mul_comm];exact hk);have t:off+k/e<els.length:=by omega
   have D:=C (off+k/e) els[off+k/e] (by simp[t]);have E:k%e<els[off+k/e].length:=by rw[D];exact Nat.mod_lt _ (by omega)
   obtain⟨y,n,H,K⟩:=J (off+k/e) els[off+k/e] (k%e) els[off+k/e][k%e] (by simp[t]) (by simp[E]);rw[aX3,aP3,Nat.div_add_mod']at n;exact⟨y,n,H⟩
  rw[u];refine⟨(List.range (len*e)).map fun k=>(cs[off*e+k]?).getD undef,by simp,fun j y hy=>?_,fun y hy=>?_,fun i row j x a b=>?_⟩;by_cases m:j<len*e;obtain⟨y',n,H⟩:=f j m;simp[m,n]at hy;subst hy;rw[kF,zG O,h2];exact n;simp[m]at hy
  grind
  obtain⟨a1,a2⟩:=d i row a;obtain⟨y,n,H,K⟩:=J _ row j x a2 b;have m:j<e:=by rw[<-C _ row a2];exact(yT2.1 b).1
  have o:i*e+j<len*e:=by
   have:(i+1)*e<=len*e:=aH3 _ a1;rw[bD3]at this;omega
  rw[aX3,aP3]at n;exact⟨y,by simp[o,n],K⟩
 cases hr;cases hr;cases hr
end
end Go.Sim
namespace Go.Sim
variable {e t ty u:TypeId} {m n:Nat}
section
variable {P:Program} {g:Gh} {lim:Nat} {w:World} {L:Nat->Option AO}
structure zH (P:Program) (w:World) (u:TypeId) (i:TypeInfo) (z x:Value) (zeros:Bool) (m:Nat) (news:List Value):Prop where
 type:(zeros=false->(∃e',P.underlying u=some (.slice e'))\/P.underlying u=some .string)/\(zeros=true->P.underlying u=some (.int .i64))
 len:news.length=m*i.size
 slice:zeros=false->(∀w':World,(Builtin.lenOf x).run P w'=.ok m w')/\∀w':World,w'.heap=w.heap->(Builtin.firstCells i.size m x).run P w'=.ok news.toArray w'
 num:zeros=true->(∃k,x=.int k m)/\m<=maxRoom/\news.toArray=if m*i.size=0 then #[]else Builtin.zeroCells z.cells m
def kS {t u ty e} {i} {z x} {zeros} {m} {news} (h:zH P w u i z x zeros m news) (g:P.underlying t=some (.slice e)) (hi:P.info? e=some i)
  (n:i.zero=some z) (hb:i.bytes<=2^16) {base} {sLen sCap} (b:sLen+m<=sCap) {w'}
  (c:match base with|some a=>(storeCells (a.add (sLen*i.size)) news).run P w=.ok () w'|none=>w'=w):
  (Builtin.append_ #[t,u] ty #[.slice base sLen sCap,x]).run P w=.ok (.slice base (sLen+m) sCap) w':=by
 cases zeros with
 |false=>
  obtain⟨h1,h2⟩:=h.slice rfl;have j:=h2 w rfl;rcases h.type.1 rfl with⟨e',hd⟩|hd
  all_goals
   cases base with
   |none=>
    subst c;simp[Builtin.append_,run_underlying g,sizeOf,typeInfo,hi,run_underlying hd,h1,b,j]
   |some a=>
    have d:(storeCells (a.add (sLen*i.size)) news).run P w=.ok () w':=c;simp[Builtin.append_,run_underlying g,sizeOf,typeInfo,hi,run_underlying hd,h1,b,j,d]
 |true=>
  have hd:=h.type.2 rfl;obtain⟨⟨k,rfl⟩,h2,o⟩:=h.num rfl;simp only[maxRoom]at h2;have hw:IntKind.i64.wrap (m:Int)=m:=by rw[IntKind.wrap_i64];omega
  have p:¬(281474976710656<(m:Int)*(i.bytes:Int)):=by
   have:m*i.bytes<=2^30*2^16:=Nat.mul_le_mul h2 hb;have s:((m*i.bytes:Nat):Int)<=((2^30*2^16:Nat):Int):=Int.ofNat_le.2 this;rw[Int.natCast_mul]at s;omega
  have q:¬((m:Int)<0):=by omega
  by_cases h0:m*i.size=0
  .rw [yY2 h0]at o
   have f:news=[]:=by simpa using o
   subst f;have r:m=0\/i.size=0:=Nat.mul_eq_zero.1 h0;cases base with
   |none=>
    subst c;simp[Builtin.append_,run_underlying g,sizeOf,typeInfo,hi,run_underlying hd,asInt,asIntOf,hw,p,q,b,h0]
   |some a=>
    have l:(storeCells (a.add (sLen*i.size)) []).run P w=.ok () w':=c;simp[Builtin.append_,run_underlying g,sizeOf,typeInfo,hi,run_underlying hd,asInt,asIntOf,hw,p,q,b,h0,l]
  .rw [zB2 h0]at o
   have r:¬(m=0\/i.size=0):=fun e=>h0 (Nat.mul_eq_zero.2 e);have f:(Builtin.zeroCells z.cells m).toList=news:=by rw[<-o]
   cases base with
   |none=>
    subst c;simp[Builtin.append_,run_underlying g,sizeOf,typeInfo,hi,run_underlying hd,asInt,asIntOf,hw,p,q,b,h0,zeroValue,n]
   |some a=>
    have d:(storeCells (a.add (sLen*i.size)) news).run P w=.ok () w':=c;simp[Builtin.append_,run_underlying g,sizeOf,typeInfo,hi,run_underlying hd,asInt,asIntOf,hw,p,q,b,h0,zeroValue,n,f,d]
def wY {i:TypeInfo} {z x:Value} {zeros:Bool} {news olds:aA Value} (h:zH P w u i z x zeros m news) (p:P.underlying t=some (.slice e)) (hi:P.info? e=some i)
  (f:i.zero=some z) (hb:i.bytes<=2^16) {base:aB Addr} {sLen sCap:Nat} (d:sCap<sLen+m) (a:sLen+m<=maxRoom)
  (g:∀w':World,w'.heap=w.heap->(Builtin.firstCells i.size sLen (.slice base sLen sCap)).run P w'=.ok olds.toArray w'):
  (Builtin.append_ #[t,u] ty #[.slice base sLen sCap,x]).run P w=.ok (.slice (some ⟨w.heap.size,0,none⟩) (sLen+m) (grownCap w (sLen+m) sCap e))
   (w.drew.alloc (.cells (olds.toArray++news.toArray++Builtin.zeroCells z.cells (grownCap w (sLen+m) sCap e-(sLen+m))) e)):=by
 simp only[maxRoom]at a;have hn:¬(sLen+m<=sCap):=by omega
 have c:¬(9223372036854775807<((sLen:Int)+(m:Int))):=by omega
 have b:¬(281474976710656<Builtin.nextslicecap (sLen+m) sCap*i.bytes):=by
  have:(sLen+m)*i.bytes<=2^30*2^16:=Nat.mul_le_mul (by omega) hb;have:=growslice_fits (bytes:=i.bytes) d (by omega);omega
 have o:=g w.drew rfl;cases zeros with
 |false=>
  obtain⟨h1,h2⟩:=h.slice rfl;have n:=h2 w.drew rfl;rcases h.type.1 rfl with⟨e',hd⟩|hd
  all_goals
   simp[Builtin.append_,run_underlying p,sizeOf,typeInfo,hi,run_underlying hd,h1,hn,c,b,n,o,Question.forced,zeroValue,f,newRow,grownCap];congr 2;apply cZ3;simp[List.append_assoc]
 |true=>
  have hd:=h.type.2 rfl;obtain⟨⟨k,rfl⟩,h2,j⟩:=h.num rfl;simp only[maxRoom]at h2;have hw:IntKind.i64.wrap (m:Int)=m:=by rw[IntKind.wrap_i64];omega
  have q:¬(281474976710656<(m:Int)*(i.bytes:Int)):=by
   have:m*i.bytes<=2^30*2^16:=Nat.mul_le_mul h2 hb;have s:((m*i.bytes:Nat):Int)<=((2^30*2^16:Nat):Int):=Int.ofNat_le.2 this;rw[Int.natCast_mul]at s;omega
  have r:¬((m:Int)<0):=by omega
  by_cases h0:m*i.size=0
  .rw [yY2 h0]at j
   have l:m=0\/i.size=0:=Nat.mul_eq_zero.1 h0;rw[j];simp[Builtin.append_,run_underlying p,sizeOf,typeInfo,hi,run_underlying hd,asInt,asIntOf,hw,q,r,hn,c,b,o,Question.forced,h0,zeroValue,f,newRow,grownCap]
  .rw [zB2 h0]at j
   have l:¬(m=0\/i.size=0):=fun e=>h0 (Nat.mul_eq_zero.2 e);rw[j];simp[Builtin.append_,run_underlying p,sizeOf,typeInfo,hi,run_underlying hd,asInt,asIntOf,hw,q,r,hn,c,b,o,Question.forced,h0,zeroValue,f,newRow,grownCap]
end
end Go.Sim
namespace Go.Sim
variable {cs news:aA Value} {e t u:TypeId} {els new:aA (aA AV)} {esz j m n:Nat} {g g':Gh}
section
variable {P:Program} {lim:Nat} {w:World} {L:Nat->Option AO}
structure lE (g:Gh) (esz:Nat) (rows:List (List AV)) (ys:List Value):Prop where
 len:ys.length=rows.length*esz
 row:∀(i:Nat) (row:List AV),rows[i]? =some row->row.length=esz
 cell:∀y∈ys,isCell y=true
 val:∀(i:Nat) (row:List AV) (j:Nat) (x:AV),rows[i]? =some row->row[j]? =some x->∃y,ys[i*esz+j]? =some y/\VR g x y
def zI {i e:Nat} (hi:i<m) (a:j<e):i*e+j<m*e:=by
 have:(i+1)*e<=m*e:=aH3 _ hi;rw[bD3]at this;omega
def Du {y} (h:isCell y=true):y.oneCell'=true:=by cases y<;>simp_all[isCell,Value.oneCell']
def Ng (hg:g.le g') {k ct:Nat} {a:aA (aA AV)} (m:cs.length=ct*esz) (hf:lE g esz new news) (hk:k+new.length<=ct)
  (p:∀(i:Nat) (row:aA AV),els[i]? =some row->row.length=esz)
  (s:∀(i:Nat) (row:aA AV) (j:Nat) (x:AV),els[i]? =some row->row[j]? =some x->∃y,cs[i*esz+j]? =some y/\isCell y=true/\VR g x y)
  (aG:∀(i:Nat) (row:aA AV),a[i]? =some row->(k<=i/\i<k+new.length/\new[i-k]? =some row)\/(¬(k<=i/\i<k+new.length)/\els[i]? =some row)):
  (∀(i:Nat) (row:aA AV),a[i]? =some row->row.length=esz)/\
  ∀(i:Nat) (row:aA AV) (j:Nat) (x:AV),a[i]? =some row->row[j]? =some x->
   ∃y,(cs.take (k*esz)++news++cs.drop (k*esz+news.length))[i*esz+j]? =some y/\isCell y=true/\VR g' x y:=by
 have b:k*esz+news.length<=cs.length:=by
  rw[hf.len,m,<-aX3];exact aH3 _ hk
 refine⟨fun i row h=>?_,fun i row j x h f=>?_⟩;rcases aG i row h with⟨_,_,h⟩|⟨_,h⟩
 exact hf.row _ row h;exact p i row h;rw[Uz cs news (k*esz) (i*esz+j) b];rcases aG i row h with⟨h1,h2,h⟩|⟨h1,h⟩
 have n:j<esz:=by rw[<-hf.row _ row h];exact(yT2.1 f).1
 have q:i*esz+j-k*esz=(i-k)*esz+j:=by
  have:k*esz<=i*esz:=aH3 _ h1;rw[Nat.sub_mul];omega
 have e2:(i-k)*esz+j<new.length*esz:=zI (by omega) n;rw[yY2 (by rw[hf.len];have:k*esz<=i*esz:=aH3 _ h1;omega),q];obtain⟨y,d,l⟩:=hf.val (i-k) row j x h f;exact⟨y,d,hf.cell y (zC2 d),l.mono hg⟩;have n:j<esz:=by rw[<-p _ row h];exact(yT2.1 f).1
 rw[zB2];obtain⟨y,d,l,r⟩:=s i row j x h f;exact⟨y,d,l,r.mono hg⟩;rw[hf.len];intro hc;rcases bN3 i k with o|hge;have:=zI (e:=esz) o n;omega;have c:k+new.length<=i:=by omega
 have:(k+new.length)*esz<=i*esz:=aH3 _ c;rw[aX3]at this;omega
theorem Hn {k:Nat} (h:k+new.length<=els.length):∀i row,(setL els k new)[i]? =some row->
  (k<=i/\i<k+new.length/\new[i-k]? =some row)\/(¬(k<=i/\i<k+new.length)/\els[i]? =some row):=by
 intro i row hi;rw[Dq els k new i h]at hi;split at hi
 grind
 grind
def Nh {u} {i} {z} (l:(∃e',P.underlying u=some (.slice e'))\/P.underlying u=some .string) (q:HR P g L w) (t:WG g w) (h0:i.size≠0)
  {x} {V} (f:VR g x V) {rows} (hr:rowsOf L i.size x=some rows):
  ∃news,zH P w u i z V false rows.length news/\lE g i.size rows news:=by
 by_cases hs:∃s,x=.v (.string s);obtain⟨s,rfl⟩:=hs;have r:=f.ground;subst r;simp only[rowsOf]at hr;split at hr;rename_i h1;cases hr;have hl:(byteRows s).length=s.size:=by simp[byteRows]
 refine⟨s.data.toList.map fun b=>.int .u8 b.toNat,⟨⟨fun _=>l,fun h=>by cases h⟩,by rw[hl,h1];simp,fun _=>⟨fun w'=>by simp[Builtin.lenOf,hl],fun w' _=>?_⟩,fun h=>by cases h⟩,⟨by rw[hl,h1];simp,?_,?_,?_⟩⟩;simp only[Builtin.firstCells,hl,Sem.run_pure];congr 1;apply cZ3;have:s.extract 0 s.size=s:=by simp
 rw[this];simp;intro i row h;simp only[byteRows,aJ3,yV2]at h;obtain⟨b,hb,rfl⟩:=h;rw[h1];rfl;intro y hy;simp at hy;obtain⟨b,_,rfl⟩:=hy;rfl;intro i row j x h f;simp only[byteRows,aJ3,yV2]at h;obtain⟨b,hb,rfl⟩:=h;cases j with
 |zero=>
  simp at f;subst f;refine⟨.int .u8 b.toNat,?_,.v rfl⟩;rw[h1];simp only[Nat.mul_one,aZ3,aJ3,hb,zW2]
 |succ j=>simp at f
 cases hr;obtain⟨a,cap,rfl,k,c,d⟩:=Dt q t h0 f hr (fun s e=>hs ⟨s,e⟩);cases a with
 |none=>
  obtain⟨rfl,rfl⟩:=c rfl
  exact⟨[],⟨⟨fun _=>l,fun h=>by cases h⟩,by simp,fun _=>⟨fun w'=>by simp[Builtin.lenOf],fun w' _=>by simp[Builtin.firstCells]⟩,fun h=>by cases h⟩,
   ⟨by simp,fun i row h=>by simp at h,fun y h=>by simp at h,fun i row j x h=>by simp at h⟩⟩
 |some p=>
  obtain⟨ys,h1,h2,n,o⟩:=d p rfl;refine⟨ys,⟨⟨fun _=>l,fun h=>by cases h⟩,h1,fun _=>⟨fun w'=>by simp[Builtin.lenOf],fun w' m=>?_⟩,fun h=>by cases h⟩,⟨h1,k,n,o⟩⟩;exact run_firstCells_some (P:=P) w' i.size rows.length p rows.length cap ys h1 (fun j y hy=>by rw[World.cell?];rw[m];exact h2 j y hy)
def Ni (z:Array Value) (m:Nat):∀i j,i<m->j<z.size->(Builtin.zeroCells z m)[i*z.size+j]? =z[j]? :=by
 intro i j hi a;have b:i*z.size+j<m*z.size:=zI hi a;simp only[Builtin.zeroCells];rw[Array.getElem?_map];have h1:(Array.range (m*z.size))[i*z.size+j]? =some (i*z.size+j):=by simp[b]
 rw[h1];have h2:(i*z.size+j)%z.size=j:=by rw[Nat.mul_comm,Nat.mul_add_mod];exact Nat.mod_eq_of_lt a
 simp only[zW2,h2];simp[a]
theorem zJ {z} {m} (c:z.toList.all Value.ground=true):lE g z.size (List.replicate m (zeroRow z.toList)) (Builtin.zeroCells z m).toList:=by
 have hl:(zeroRow z.toList).length=z.size:=by simp[zeroRow]
 refine⟨by simp[size_zeroCells],fun i row h=>?_,fun y hy=>?_,fun i row j x h b=>?_⟩
 grind
 simp only[Builtin.zeroCells,cG3,cQ3]at hy;obtain⟨k,hk,rfl⟩:=hy;have d:k<m*z.size:=by simpa using hk
 have h0:0<z.size:=by grind
 have:k%z.size<z.size:=Nat.mod_lt _ h0;rw[getElem!_pos z (k%z.size) this];exact mU (yW2.1 c _ (by simp));rw[bW3]at h;split at h;rename_i hi;cases h;have a:j<z.size:=by rw[<-hl];exact(yT2.1 b).1
 refine⟨z[j],?_,?_⟩;rw[aY3,Ni z m i j hi a];simp[a];exact(wW (g:=g) c).2 j x _ b (by simp[a]);cases h
def Kc {u} {i} {z} (b:P.underlying u=some (.int .i64)) (c:z.cells.toList.all Value.ground=true) (hl:z.cells.size=i.size) {k} {m} (a:m<=maxRoom):
  ∃news,zH P w u i z (.int k m) true m news/\lE g i.size (List.replicate m (zeroRow z.cells.toList)) news:=by
 have hf:=zJ (g:=g) (m:=m) c;rw[hl]at hf;refine⟨_,⟨⟨fun h=>(by cases h),fun _=>b⟩,(by have:=hf.len;simpa using this),fun h=>(by cases h),fun _=>⟨⟨k,rfl⟩,a,?_⟩⟩,hf⟩;split;rename_i h0;apply cZ3;have:=hf.len;simp only[List.length_replicate,h0]at this;simpa using this;rfl
variable (ρ:Operand->Value) (o:Oper) {k:gC} {os:List Operand} {xs:List AV} {out:Out}
def Av {a b:aA (aA AV)} {x y:aA Value} (c:lE g esz a x) (hb:lE g esz b y):lE g esz (a++b) (x++y):=by
 refine⟨by simp[c.len,hb.len,aX3],fun i row h=>?_,fun v hv=>?_,fun i row j v h d=>?_⟩;rw[aV3]at h;split at h;exact c.row i row h;exact hb.row _ row h;rcases aG3.1 hv with h|h;exact c.cell v h;exact hb.cell v h;rw[aV3]at h;split at h;rename_i hi;have f:j<esz:=by rw[<-c.row i row h];exact(yT2.1 d).1
 obtain⟨v',h1,h2⟩:=c.val i row j v h d;refine⟨v',?_,h2⟩;rw[bS3 (by rw[c.len];exact zI hi f)];exact h1;rename_i hi;obtain⟨v',h1,h2⟩:=hb.val _ row j v h d;refine⟨v',?_,h2⟩;have:a.length*esz<=i*esz:=aH3 _ (by omega);rw[cO3 (by rw[c.len];omega),c.len];have e:i*esz+j-a.length*esz=(i-a.length)*esz+j:=by rw[Nat.sub_mul];omega
 rw[e];exact h1
def Cb {ty} {esz ct} {els} {ys} {cJ} {id} {loc} {ver} {bx} (g':Gh) (hi:g'.ι id=some loc) (he:loc.esz=esz) (hv:loc.ver=ver)
  (hb:loc.b=w.heap.size) (c:loc.ct=ct) (h0:esz≠0) (hf:lE g' esz els ys) (hl:els.length<=ct) (a:cJ.size=(ct-els.length)*esz):
  OR P g' (w.alloc (.cells (ys.toArray++cJ) ty)) id (.arr bx ty esz ver els):=by
 refine⟨loc,_,hi,he,hv,h0,by rw[hb];exact heap_alloc_new w _,?_,by rw[c];exact hl,hf.row,fun i row j x h d=>?_⟩;rw[c,Array.size_append,List.size_toArray,hf.len,a,<-aX3];congr 1;omega;obtain⟨y,h1,h2⟩:=hf.val i row j x h d;refine⟨y,?_,hf.cell y (zC2 h1),h2⟩;have:=(yT2.1 h1).1;rw[Array.getElem?_append_left (by simpa using this)];simpa using h1
def lE.mono {g'} {esz} {a} {x} (h:lE g esz a x) (hg:g.le g'):lE g' esz a x:=
 ⟨h.len,h.row,h.cell,fun i row j v a b=>by obtain⟨y,h1,h2⟩:=h.val i row j v a b;exact⟨y,h1,h2.mono hg⟩⟩
def Nj (g:Gh) (esz:Nat):lE g esz [] []:=⟨by simp,fun i row h=>by simp at h,fun y h=>by simp at h,fun i row j x h=>by simp at h⟩
theorem Xt {s x:Operand} {ty':TypeId} {i:TypeInfo} {z:Value} {zeros:Bool} (ho:o.op=.call {callee:=.builtin .append,args:=#[s,x],argTypes:=#[t,u]})
  (W:P.underlying t=some (.slice e)) (hi:P.info? e=some i) (A:i.zero=some z) (b8:z.cells.size=i.size) (h0:i.size≠0) (hb:i.bytes<=2^16)
  {sa:AV} {new:aA (aA AV)} {news:aA Value} (hs:VR g sa (ρ s)) (f:zH P w u i z (ρ x) zeros new.length news) (hf:lE g i.size new news)
  (hd:appendTo L lim n e i.size sa new=some out) (D:∀z id ver off len cap,out.v=.sl z id ver off len cap->len<=maxRoom) (S:HR P g L w) (T:WG g w)
  (hn:g.ι n=none) (hl:lim<=n):gY P g lim w L n out (execOp ρ o):=by
 have d:∀{V w'},(Builtin.append_ #[t,u] o.type #[ρ s,ρ x]).run P w=.ok V w'->(execOp ρ o).run P w=.ok (.value V) w':=by
  intro V w' h;simp[execOp,ho,resolve,invoke,builtin,h]
 have fresh:∀{base:aB Addr} {olds:aA Value} {oldr:aA (aA AV)} {sCap:Nat},ρ s=.slice base oldr.length sCap->lE g i.size oldr olds->sCap<oldr.length+new.length->oldr.length+new.length<=maxRoom->
   (∀w':World,w'.heap=w.heap->(Builtin.firstCells i.size oldr.length (.slice base oldr.length sCap)).run P w'=.ok olds.toArray w')->
   gY P g lim w L n {v:=.sl i.size n 0 0 (oldr.length+new.length) none,new:=some (.arr false e i.size 0 (oldr++new))} (execOp ρ o):=by
  intro base olds oldr sCap C d5 b0 Z N;have hr:=wY (ty:=o.type) f W hi A hb b0 Z N;rw[<-C]at hr;have K:=grownCap_ge w (oldr.length+new.length) sCap e;refine qF (w₁:=w.drew) (loc:=⟨w.heap.size,i.size,grownCap w (oldr.length+new.length) sCap e,0⟩) (.inr rfl) (d hr) rfl hn hl ?_ ?_ S T;intro g' q l;exact .sl l (yX2 _) K rfl (fun _=>⟨rfl,.inr (by simp),by simp,fun _=>by simp,fun k h=>by cases h⟩);intro g' q l
  have:=Cb (P:=P) (w:=w) (ty:=e) (bx:=false) (cJ:=Builtin.zeroCells z.cells (grownCap w (oldr.length+new.length) sCap e-(oldr.length+new.length))) g' l rfl rfl rfl rfl h0 ((Av d5 hf).mono q) (by simpa using K)
   (by rw[size_zeroCells,b8];simp)
  simpa using this
 unfold appendTo at hd;split at hd
 ·
  have C:=hs.ground;split at hd;rename_i he;cases hd;have H:new.length=0:=by simpa using he
  have hr:=kS (ty:=o.type) f W hi A hb (base:=none) (sLen:=0) (sCap:=0) (by omega) (w':=w) rfl;rw[H,<-C]at hr;refine bF (d (by rw[hr,C])) ?_ S T;exact .v rfl;rename_i he;cases hd;have b5:new.length≠0:=by simpa using he
  have:=fresh (base:=none) (olds:=[]) (oldr:=[]) (sCap:=0) (by simpa using C) (Nj g _) (by simp;omega) (by simpa using D _ _ _ _ _ _ rfl) (fun w' _=>by simp[Builtin.firstCells]);simpa using this
 ·
  generalize C:ρ s=V at hs;cases hs with
  |@es _ a=>
   split at hd;rename_i he;cases hd;have H:new.length=0:=by simpa using he
   have m:news=[]:=by have:=hf.len;rw[H]at this;simpa using this
   have hr:=kS (ty:=o.type) f W hi A hb (base:=a) (sLen:=0) (sCap:=0) (by omega) (w':=w) (by rw[m];cases a<;>rfl);rw[H]at hr;exact bF (V:=.slice a 0 0) (d (by rw[C];simpa using hr)) .es S T;rename_i he;cases hd;have b5:new.length≠0:=by simpa using he
   have:=fresh (base:=a) (olds:=[]) (oldr:=[]) (sCap:=0) (by simpa using C) (Nj g _) (by simp;omega) (by simpa using D _ _ _ _ _ _ rfl)
    (fun w' _=>by cases a<;>simp[Builtin.firstCells,loadCells,loadCellsFrom])
   simpa using this
 ·
  rename_i ez els;split at hd;rename_i he;cases hd;have H:new.length=0:=by simpa using he.1
  have m:news=[]:=by have:=hf.len;rw[H]at this;simpa using this
  generalize C:ρ s=V at hs;cases hs with
  |@is0 _ _ cap a=>
   have hr:=kS (ty:=o.type) f W hi A hb (base:=some a) (sLen:=0) (sCap:=cap) (by omega) (w':=w) (by rw[m];rfl);rw[H,<-C]at hr;exact bF (V:=.slice (some a) 0 cap) (d (by rw[C]at hr ⊢;simpa using hr)) .is0 S T
  |@is _ _ _ a cap hs' hl' hr' hc' hv'=>
   have hr:=kS (ty:=o.type) f W hi A hb (base:=some a) (sLen:=els.length) (sCap:=cap) (by omega) (w':=w) (by rw[m];rfl);rw[H,<-C]at hr;refine bF (V:=.slice (some a) els.length cap) (d (by simpa using hr)) (.is hs' hl' hr' hc' hv') S T
  cases hd
 ·
  rename_i zz id ver off len cap;split at hd;rename_i bx ty2 ez G els hL;split at hd;rename_i hc;obtain⟨rfl,rfl,rfl,hlen⟩:=hc;obtain⟨loc,cs,h1,h2,h3,h4,h5,h6,h7,h8,h9⟩:=S id _ hL;generalize C:ρ s=V at hs;cases hs with
  |@sl _ _ _ _ _ _ _ loc' p c hi2 hver hlc hsp hp=>
   have e1:loc'=loc:=by rw[h1]at hi2;cases hi2;rfl
   subst e1;obtain⟨hz,d8,d9,b6,e0⟩:=hp h3;by_cases H:new.isEmpty;rw[yY2 H]at hd;cases hd;have b4:new.length=0:=by simpa using H
   have m:news=[]:=by have:=hf.len;rw[b4]at this;simpa using this
   have hr:=kS (ty:=o.type) f W hi A hb (base:=some p) (sLen:=len) (sCap:=c) (by omega) (w':=w) (by rw[m];rfl);rw[b4,<-C]at hr;exact bF (V:=.slice (some p) len c) (d (by simpa using hr)) (.sl hi2 hver hlc hsp hp) S T;rw[zB2 H]at hd;have b5:new.length≠0:=by simpa using H
   have O:∀(B:Nat) (E:aA (aA AV)) (cap':aB Nat),len+new.length<=c->lim<=id->loc'.ver<=B->E.length<=loc'.ct->
     (∀(i:Nat) (row:aA AV),E[i]? =some row->(off+len<=i/\i<off+len+new.length/\new[i-(off+len)]? =some row)\/(¬(off+len<=i/\i<off+len+new.length)/\els[i]? =some row))->
     (cap'=none->cap=none)->(∀k,cap'=some k->cap=some k)->
     gY P g lim w L n {v:=.sl zz id B off (len+new.length) cap',up:=some (id,.arr bx ty2 i.size B E)} (execOp ρ o):=by
    intro B E cap' F r e5 d3 aG d0 d2;have e3:p=⟨loc'.b,off*loc'.esz,none⟩:=d8.resolve_left (by omega);subst e3
    have J:off*i.size+len*i.size+news.length<=cs.size:=by
     rw[hf.len,h6,<-aX3,<-aX3];exact aH3 _ (by omega)
    have b7:=run_storeCells_at P loc'.b (off*i.size+len*i.size) ty2 news 0 cs w h5 (by simpa using J) (fun y hy=>Du (hf.cell y hy));simp only[aZ3]at b7;have hr:=kS (ty:=o.type) f W hi A hb (base:=some ⟨loc'.b,off*loc'.esz,none⟩) (sLen:=len) (sCap:=c) F (w':=_) (by rw[h2];simp only[kF];exact b7);rw[<-C]at hr;obtain⟨p1,p2,p3,p4⟩:=pU w loc'.b (cs.toList.take (off*i.size+len*i.size)++news++cs.toList.drop (off*i.size+len*i.size+news.length)).toArray;have U:=setRow_heap w loc'.b cs (cs.toList.take (off*i.size+len*i.size)++news++cs.toList.drop (off*i.size+len*i.size+news.length)).toArray ty2 (0,0) h5;refine wV (hnl:=fun R hR=>by simp_all) (nx:=.value _) (V:=_) (loc:=loc') (ver:=B) (d hr) (.inl rfl) h1 r e5 U (fun b hb=>setRow_other w loc'.b b _ hb) p4 p1 p2 p3 (fun g' q l=>?_) (fun g' q l=>?_) S T;exact .sl l (yX2 _) F hsp (fun _=>⟨hz,.inr rfl,d9,fun h=>b6 (d0 h),fun k h=>e0 k (d2 k h)⟩);obtain⟨r1,r2⟩:=Ng (g':=g') q (cs:=cs.toList) (k:=off+len) (ct:=loc'.ct) (by simpa using h6) hf (by omega) h8 (fun i row j x a b=>by simpa using h9 i row j x a b) aG;rw[aX3]at r2;refine⟨_,_,l,h2,rfl,h4,U,?_,d3,r1,fun i row j x a b=>?_⟩
    grind
    grind
   cases cap with
   |none=>
    simp only at hd;split at hd;rename_i d4;split at hd;rename_i X;obtain⟨rfl,r,rfl⟩:=X;cases hd;have Y:len=els.length:=by omega
    by_cases b9:len+new.length<=c
    grind
    ·
     have N:∃olds,lE g i.size els olds/\∀w':World,w'.heap=w.heap->(Builtin.firstCells i.size len (.slice (some p) len c)).run P w'=.ok olds.toArray w':=by
      have e4:VR g (.sl zz id G 0 len none) (.slice (some p) len c):=.sl hi2 hver hlc hsp hp;obtain⟨a,e7,a0,q1,q2,q3⟩:=Dt (rows:=els) S T h0 e4 (by simp[rowsOf,hL,Y]) (fun s e=>by cases e);simp only[Value.slice.injEq]at a0;obtain⟨rfl,-,rfl⟩:=a0;obtain⟨ys,y1,y2,y3,y4⟩:=q3 p rfl;refine⟨ys,⟨y1,q1,y3,y4⟩,fun w' e6=>?_⟩;exact run_firstCells_some (P:=P) w' i.size len p len c ys (by rw[y1,Y]) (fun j y hy=>by rw[World.cell?,e6];exact y2 j y hy)
     obtain⟨olds,d6,d7⟩:=N;have Z:=D _ _ _ _ _ _ rfl;have hr:=wY (ty:=o.type) f W hi A hb (by omega) Z d7;rw[<-C]at hr;have K:=grownCap_ge w (len+new.length) c ty2;refine Xo (w₁:=w.drew) (loc:=loc') (loc':=⟨w.heap.size,i.size,grownCap w (len+new.length) c ty2,G+1⟩) (.inr rfl) (d hr) h1 r (by simp;omega) rfl ?_ ?_ S T;intro g' q l;exact .sl l (yX2 _) K rfl (fun _=>⟨by rw[<-hz,h2],.inr (by simp),by simp,fun _=>by simp,fun k h=>by cases h⟩);intro g' q l;have M:(els++new).length=len+new.length:=by simp[Y]
     have:=Cb (P:=P) (w:=w) (ty:=ty2) (bx:=false) (ver:=G+1) (cJ:=Builtin.zeroCells z.cells (grownCap w (len+new.length) c ty2-(len+new.length))) g' l rfl rfl rfl rfl h0 ((Av d6 hf).mono q) (by rw[M];exact K)
      (by rw[size_zeroCells,b8,M])
     simpa using this
    cases hd;split at hd;rename_i X;obtain⟨J,r⟩:=X;cases hd;have e8:=b6 rfl;have:=O G (setL els (off+len) new) none (by omega) r (by omega) (by rw[nA];exact h7) (Hn J) (fun _=>rfl) (fun k h=>by cases h);exact this;cases hd
   |some c'=>cases hd
  cases hd;cases hd
 cases hd
end
end Go.Sim
namespace Go.Sim
section
variable {P:Program} {g:Gh} {lim:Nat} {w:World} {L:Nat->Option AO} {n:Nat}
variable (ρ:Operand->Value) (o:Oper) {k:gC} {os:List Operand} {xs:List AV} {out:Out}
def TR.setL {g}:∀{row} {R} off {cs} {Cs},TR g row R->TR g cs Cs->TR g (setL row off cs) (setL R off Cs)
 |row,R,off,[],Cs,h,hc=>by
  have:Cs=[]:=by have:=hc.1;simpa using this.symm
  subst this;exact h
 |row,R,off,c::cs,[],h,hc=>by have:=hc.1;simp at this
 |row,R,off,c::cs,C::Cs,h,hc=>by
  simp only[Sim.setL]
  exact TR.setL (off+1) (h.set hc.head off) hc.tail
def Ho:∀(vs:aA Value) (k off:Nat) (cells:Array Value),((vs.zipIdx k).foldl (fun cs (x:Value×Nat)=>cs.setIfInBounds (off+x.2) x.1) cells).toList=setL cells.toList (off+k) vs
 |[],k,off,cells=>by simp[setL]
 |v::vs,k,off,cells=>by
  simp only[List.zipIdx_cons,List.foldl_cons]
  rw[Ho vs (k+1) off]
  simp[setL,aP3]
def Nk {x:Value}:∀{R} off {Cs},x∈setL R off Cs->x∈R\/x∈Cs
 |R,off,[],h=>.inl h
 |R,off,C::Cs,h=>by
  simp only[setL]at h
  rcases Nk (off+1) h with h|h
  rcases List.mem_or_eq_of_mem_set h with h|h
  exact .inl h
  subst h;exact .inr (by simp)
  exact .inr (by simp[h])
def wZ {place}:∀(a:aA Nat) (ps:aA (Nat×Nat)) (xs:aA AV) (vs:aA Value) (cells:aA AV) (Cs:Array Value) (cs':aA AV),
  (∀(j i:Nat),a[j]? =some i->ps[j]? =place i/\(place i).isSome)->a.length=ps.length->TR g xs vs->vs.length=a.length->TR g cells Cs.toList->(∀y∈Cs.toList,isCell y=true)->fillParts cells ps xs=some cs'->
  ∃Cs':Array Value,Instr.fill place Cs (a.zip vs)=some Cs'/\TR g cs' Cs'.toList/\∀y∈Cs'.toList,isCell y=true
 |[],ps,xs,vs,cells,Cs,cs',hp,hl,hx,hv,hc,hcell,hf=>by
  have h1:ps=[]:=by simpa using hl.symm
  have h2:vs=[]:=by simpa using hv
  subst h1 h2
  have d:xs=[]:=by have:=hx.1;simpa using this
  subst d
  simp only[fillParts,yZ2]at hf
  subst hf
  exact⟨Cs,by simp[Instr.fill],hc,hcell⟩
 |i::a,ps,xs,vs,cells,Cs,cs',hp,hl,hx,hv,hc,hcell,hf=>by
  match ps,hl with
  |[],hl=>simp at hl
  |p::ps,hl=>
   match vs,hv with
   |[],hv=>simp at hv
   |v::vs,hv=>
    match xs,hx with
    |[],hx=>have:=hx.1;simp at this
    |x::xs,hx=>
     obtain⟨h1,h2⟩:=hp 0 i rfl
     simp only[aT3]at h1
     obtain⟨off,s⟩:=p
     simp only[fillParts]at hf
     split at hf
     rename_i cs f
     split at hf
     rename_i c
     obtain⟨t,e2⟩:=c
     obtain⟨m,e⟩:=hx.head.cells f
     have k:v.cells.size=s:=by have:=m.1;simp at this;omega
     have l:¬(off+v.cells.size>Cs.size):=by have:=hc.1;simp at this;omega
     let Cs1:=v.cells.zipIdx.foldl (fun cs (x:Value×Nat)=>cs.setIfInBounds (off+x.2) x.1) Cs
     have b:Cs1.toList=setL Cs.toList off v.cells.toList:=by
      have:=Ho v.cells.toList 0 off Cs;rw[aZ3]at this;rw[<-this];simp only[Cs1];congr 1;rw[<-Array.foldl_toList];congr 1;simp
     obtain⟨Cs',d,n,o⟩:=wZ a ps xs vs (setL cells off cs) Cs1 cs' (fun j r q=>by simpa using hp (j+1) r (by simpa using q)) (by simpa using hl) hx.tail (by simpa using hv)
      (by rw[b];exact hc.setL off m) (fun y hy=>by
       rw[b]at hy;rcases Nk off hy with h|h;exact hcell y h;exact e y h) hf
     refine⟨Cs',?_,n,o⟩;simp only[List.zip_cons_cons,Instr.fill,<-h1];rw[zB2 (by simp[k];omega)];exact d;cases hf;cases hf
def bW1 {α β} (f:α->Sem β) (r:α->β) (l:aA α) (h:∀a∈l,∀w,(f a).run P w=.ok (r a) w) (w:World):(l.mapM f).run P w=.ok (l.map r) w:=by
 induction l generalizing w with
 |nil=>simp
 |cons a l ih=>
  simp only[cM3,Sem.run_bind,h a (by simp),Result.andThen_ok,ih (fun b hb=>h b (by simp[hb])),Sem.run_pure,bQ3]
def Xu {α β} (f:α->Sem β) (r:α->β) (l:Array α) (h:∀a∈l.toList,∀w,(f a).run P w=.ok (r a) w) (w:World):(l.mapM f).run P w=.ok (l.map r) w:=by
 rw[Array.mapM_eq_mapM_toList];simp only[Sem.run_map,bW1 f r l.toList h w,Result.andThen_ok];congr 1;apply cZ3;simp
def oO {t:TypeId} {place:Nat->aB (Nat×Nat)}
  (hs:∀fs,P.underlying t=some (.struct fs)->∀(i:Nat) (f:Field) (c:TypeInfo),fs[i]? =some f->P.info? f.type=some c->place i=some (f.offset,c.size))
  (o:∀m e,P.underlying t=some (.array m e)->∀(i:Nat) (a:TypeInfo),P.info? e=some a->place i=some (i*a.size,a.size)):
  ∀(is:aA Nat) (ps:aA (Nat×Nat)),oC P t is=some ps->is.length=ps.length/\∀(j i:Nat),is[j]? =some i->ps[j]? =place i/\(place i).isSome
 |[],ps,h=>by
  simp only[oC,yZ2]at h
  subst h
  exact⟨rfl,fun j i h=>by simp at h⟩
 |i::is,ps,h=>by
  simp only[oC]at h
  split at h
  cases h
  rename_i r hr
  have IH:=oO hs o is r hr
  have fin:∀q,place i=some q->ps=q::r->(i::is).length=ps.length/\∀(j b:Nat),(i::is)[j]? =some b->ps[j]? =place b/\(place b).isSome:=by
   intro q p l;subst l;refine⟨by simp[IH.1],fun j b k=>?_⟩;cases j with
   |zero=>simp at k;subst k;simp[p]
   |succ j=>simpa using IH.2 j b (by simpa using k)
  split at h;rename_i fs n;split at h;rename_i f hf;split at h;rename_i c g;cases h;exact fin _ (hs fs n i f c hf g) rfl;cases h;cases h;rename_i m e n;split at h;rename_i a d;cases h;exact fin _ (o m e n i a d) rfl;cases h;cases h
def bX1 {t:TypeId} {parts:Array (Nat×Operand)} {i:TypeInfo} {z:Value} {ps:aA (Nat×Nat)} (S:o.op=.build t parts) (hi:P.info? t=some i) (U:i.zero=some z)
  (hg:z.cells.toList.all Value.ground=true) (G:∀fs,P.underlying t=some (.struct fs)->fs.toList.all (fun f=>(P.info? f.type).isSome)=true) (A:oC P t (parts.toList.map (·.1))=some ps)
  (J:TR g xs ((parts.toList.map (·.2)).map ρ)) (hd:doOp L lim n (.build z.cells.toList ps) xs=some out) (F:∀m e,P.underlying t=some (.array m e)->(P.info? e).isSome=true) (T:P.underlying t≠none) (H:dS P t=true) (N:HR P g L w) (O:WG g w):
  gY P g lim w L n out (execOp ρ o):=by
 simp only[doOp,yV2]at hd;obtain⟨cs,u,rfl⟩:=hd;have B:=fun w=>mT (P:=P) hi U w
 have q:(parts.map fun(x:Nat×Operand)=>(x.1,ρ x.2)).toList=(parts.toList.map (·.1)).zip ((parts.toList.map (·.2)).map ρ):=by
  rw[cG3];generalize parts.toList=l
  induction l with
  |nil=>rfl
  |cons a l ih=>simp[ih]
 have fin:∀Cs':Array Value,TR g cs Cs'.toList->(∀y∈Cs'.toList,isCell y=true)->(Instr.build t (parts.map fun(x:Nat×Operand)=>(x.1,ρ x.2))).run P w=.ok (.agg Cs') w->
   gY P g lim w L n {v:=.agg cs} (execOp ρ o):=by
  intro Cs' h1 h2 r;refine bF (V:=.agg Cs') ?_ (.agg (by simpa using h1.1) (fun i y hy=>h2 y (zC2 (by simpa using hy))) (fun i x y a b=>h1.2 i x y a (by simpa using b))) N O;have E:(Instr.build t (parts.map fun(i,x)=>(i,ρ x))).run P w=.ok (.agg Cs') w:=r;simp[execOp,S,E]
 cases hd2:P.underlying t with
 |none=>exact absurd hd2 T
 |some d=>
  cases d with
  |struct fs=>
   have s:=G fs hd2;let place:Nat->aB (Nat×Nat):=fun j=>(fs.map fun f=>(f.offset,((P.info? f.type).map (·.size)).getD 0))[j]?
   obtain⟨C,e2⟩:=oO (P:=P) (t:=t) (place:=place) (fun D c j f M hf h=>by
    rw[hd2]at c;cases c;simp[place,hf,h]) (fun m e c=>by rw[hd2]at c;cases c) _ _ A
   obtain⟨Cs',h1,h2,r⟩:=wZ (place:=place) (parts.toList.map (·.1)) ps xs ((parts.toList.map (·.2)).map ρ) (zeroRow z.cells.toList) z.cells cs e2 C J (by simp) (wW hg) (nQ hg) u;refine fin Cs' h2 r ?_
   have R:=Xu (P:=P) (fun f:Field=>(do pure (f.offset,<-sizeOf f.type):Sem (Nat×Nat))) (fun f=>(f.offset,((P.info? f.type).map (·.size)).getD 0)) fs (fun f hf w=>by
    have:=yW2.1 s f hf;cases h:P.info? f.type with
    |none=>simp[h]at this
    |some M=>simp[gD h,h]) w
   simp only[Instr.build,Sem.run_bind,B,Result.andThen_ok,run_underlying hd2,R,q];simp only[place]at h1;rw[h1];simp
  |array m e=>
   have k:=F m e hd2;cases k:P.info? e with
   |none=>simp[k]at *
   |some ei=>
    let place:Nat->aB (Nat×Nat):=fun j=>some (j*ei.size,ei.size)
    obtain⟨C,e2⟩:=oO (P:=P) (t:=t) (place:=place) (fun D c=>by rw[hd2]at c;cases c) (fun W e' c j K p=>by
     rw[hd2]at c;cases c;rw[k]at p;cases p;rfl) _ _ A
    obtain⟨Cs',h1,h2,r⟩:=wZ (place:=place) (parts.toList.map (·.1)) ps xs ((parts.toList.map (·.2)).map ρ) (zeroRow z.cells.toList) z.cells cs e2 C J (by simp) (wW hg) (nQ hg) u;refine fin Cs' h2 r ?_;simp only[Instr.build,Sem.run_bind,B,Result.andThen_ok,run_underlying hd2,gD k,q];simp only[place]at h1;rw[h1];simp
  |_=>simp[dS,hd2]at H
end
end Go.Sim
namespace Go.Sim
section
variable {P:Program} {g:Gh} {lim:Nat} {w:World} {L:Nat->Option AO} {n:Nat}
variable (ρ:Operand->Value) (o:Oper) {k:gC} {os:List Operand} {xs:List AV} {out:Out}
def Rr (z:Array Value) (len:Nat):((Array.range (len*z.size)).map (z[· %z.size]!))=Builtin.zeroCells z len:=rfl
def TR.flatRows {esz m} {cs} {Cs} (h:TR g cs Cs) (hl:cs.length=m*esz) (hc:∀y∈Cs,isCell y=true):
  lE g esz ((List.range m).map fun i=>(cs.drop (i*esz)).take esz) Cs:=by
 refine⟨by rw[<-h.1,hl];simp,fun i row hr=>?_,hc,fun i row j x hr c=>?_⟩;simp only[aJ3,yV2]at hr;obtain⟨e,a,rfl⟩:=hr;have:i<m:=by have:=(yT2.1 a).1;simpa using this
 rw[cF3 this]at a;cases a;have h2:(i+1)*esz<=m*esz:=aH3 _ this;rw[bD3]at h2;simp;omega;simp only[aJ3,yV2]at hr;obtain⟨e,a,rfl⟩:=hr;have hi:i<m:=by have:=(yT2.1 a).1;simpa using this
 rw[cF3 hi]at a;cases a;rw[zR2]at c;split at c;rename_i d;rw[aI3]at c;have b:i*esz+j<Cs.length:=by rw[<-h.1,hl];exact zI hi d
 exact⟨Cs[i*esz+j],by simp[b],h.2 _ x _ c (by simp[b])⟩;cases c
def Rs {t e} {len} {parts} {z} (Z:o.op=.buildSlice t len parts) (S:P.underlying t=some (.slice e)) (hz:oG P e=some z) (a0:len*z.length<=2^24)
  (hx:TR g xs ((parts.toList.map (·.2)).map ρ)) (hd:doOp L lim n (.buildSl e z.length len z (parts.toList.map (·.1))) xs=some out) (U:HR P g L w) (X:WG g w) (hn:g.ι n=none) (hl:lim<=n):
  gY P g lim w L n out (execOp ρ o):=by
 simp only[doOp,yV2]at hd;obtain⟨cs,f,rfl⟩:=hd;obtain⟨i,b,hi,R,s,hg,hlen,Y⟩:=mZ hz;have d:b.cells.size=z.length:=by rw[<-s];simp
 have M:((List.range len).flatMap fun _=>zeroRow z)=zeroRow (Builtin.zeroCells b.cells len).toList:=by
  apply cK3;intro j;have r:0<z.length:=by omega
  have T:((List.range len).flatMap fun _=>zeroRow z)=(List.replicate len (zeroRow z)).flatten:=by
   rw[List.flatMap_def,List.map_const'];simp
  rw[T];by_cases G:j<len*z.length;have h1:j/z.length<len:=Nat.div_lt_of_lt_mul (by rw[Nat.mul_comm];exact G);have h2:j%z.length<z.length:=Nat.mod_lt _ r
  have W:(zeroRow (Builtin.zeroCells b.cells len).toList)[j]? =some (.v z[j%z.length]):=by
   have:=Ni b.cells len (j/z.length) (j%z.length) h1 (by omega);rw[d,Nat.div_add_mod']at this;simp only[zeroRow,aJ3,aY3,this];have H:b.cells[j%z.length]? =some z[j%z.length]:=by rw[<-aY3];simp[s,h2]
   rw[H];rfl
  rw[W]
  have:∀m k,k<m*z.length->((List.replicate m (zeroRow z)).flatten)[k]? =some (.v z[k%z.length]!):=by
   intro m
   induction m with
   |zero=>intro k hk;omega
   |succ m ih=>
    intro k hk;rw[List.replicate_succ,cV3,aV3];have O:(zeroRow z).length=z.length:=by simp[zeroRow]
    by_cases B:k<z.length;rw[yY2 (by omega)];simp[zeroRow,B,Nat.mod_eq_of_lt B];rw[zB2 (by omega),O,ih (k-z.length) (by rw[bD3]at hk;omega)];congr 3;rw[<-Nat.mod_eq_sub_mod (by omega)]
  rw[this len j G];congr 1;simp[h2];rw[List.getElem?_eq_none,List.getElem?_eq_none];simp[zeroRow,size_zeroCells,d];omega;simp[zeroRow];omega
 have A:(Builtin.zeroCells b.cells len).toList.all Value.ground=true:=by
  rw[yW2];intro y hy;simp only[Builtin.zeroCells,cG3,cQ3]at hy;obtain⟨k,hk,rfl⟩:=hy;have:k%b.cells.size<b.cells.size:=Nat.mod_lt _ (by omega);rw[getElem!_pos b.cells _ this];exact yW2.1 hg _ (by rw[<-s];simp)
 let place:Nat->aB (Nat×Nat):=fun j=>some (j*z.length,z.length)
 rw[M]at f
 obtain⟨Cs',h1,h2,H⟩:=wZ (g:=g) (place:=place) (parts.toList.map (·.1)) _ xs ((parts.toList.map (·.2)).map ρ) (zeroRow (Builtin.zeroCells b.cells len).toList) (Builtin.zeroCells b.cells len) cs
  (fun j i' G=>by rw[aJ3,G];exact⟨rfl,rfl⟩) (by simp) hx (by simp) (wW A) (nQ A) f
 have K:cs.length=len*z.length:=by
  have:∀cells ps xs cs,fillParts cells ps xs=some cs->cs.length=cells.length:=by
   intro cells ps
   induction ps generalizing cells with
   |nil=>intro xs cs h;cases xs<;>simp[fillParts]at h;subst h;rfl
   |cons p ps ih=>
    intro xs cs h;cases xs with
    |nil=>simp[fillParts]at h
    |cons x xs=>
     obtain⟨off,m⟩:=p;simp only[fillParts]at h;split at h;split at h;have:=ih _ xs cs h;rw[this,nA];cases h;cases h
  rw[this _ _ _ _ f];simp[zeroRow,size_zeroCells,d]
 have F:(parts.map fun(x:Nat×Operand)=>(x.1,ρ x.2)).toList=(parts.toList.map (·.1)).zip ((parts.toList.map (·.2)).map ρ):=by
  rw[cG3];generalize parts.toList=l
  induction l with
  |nil=>rfl
  |cons a l ih=>simp[ih]
 have D:(Instr.buildSlice t len (parts.map fun(x:Nat×Operand)=>(x.1,ρ x.2))).run P w=.ok (.slice (some ⟨w.heap.size,0,none⟩) len len) (w.alloc (.cells Cs' e)):=by
  have E:¬(len*i.size>2^24):=by rw[<-hlen];omega
  have c:Instr.fill (fun j=>some (j*i.size,i.size)) ((Array.range (len*i.size)).map (b.cells[· %b.cells.size]!)) (parts.map fun(x:Nat×Operand)=>(x.1,ρ x.2)).toList=some Cs':=by
   rw[F,<-hlen,<-d,Rr,d];exact h1
  by_cases h0:len*i.size=0;have r:(Array.range (len*i.size)).map ((#[]:Array Value)[· %(#[]:Array Value).size]!)=(Array.range (len*i.size)).map (b.cells[· %b.cells.size]!):=by rw[h0];simp
  rw[<-r,h0]at c;simp only[Instr.buildSlice,Sem.run_bind,run_underlying S,Result.andThen_ok,gD hi];simp only[h0];simp only[Sem.run_ite,Sem.run_bind,gt_iff_lt,Nat.not_lt_zero,aL3,Sem.run_pure,Result.andThen_ok,zT2];rw[c];simp[newRow];exact run_buildSlice w t e len _ Cs' i b S hi R E h0 c
 refine qF (w₁:=w) (V:=.slice (some ⟨w.heap.size,0,none⟩) len len) (o:=.cells Cs' e) (loc:=⟨w.heap.size,z.length,len,0⟩) (.inl rfl) ?_ rfl hn hl ?_ ?_ U X;have J:(Instr.buildSlice t len (parts.map fun(i,x)=>(i,ρ x))).run P w=.ok (.slice (some ⟨w.heap.size,0,none⟩) len len) (w.alloc (.cells Cs' e)):=D;simp[execOp,Z,J];intro g' u q;exact .sl q (yX2 _) (yX2 _) rfl (fun _=>⟨rfl,.inr (by simp),by simp,fun _=>by simp,fun k h=>by cases h⟩);intro g' u q;have N:=(h2.mono u).flatRows K H;have C:((List.range len).map fun i=>(cs.drop (i*z.length)).take z.length).length=len:=by simp
 have:=Cb (P:=P) (w:=w) (ty:=e) (bx:=false) (cJ:=#[]) (ct:=len) g' q rfl rfl rfl rfl (show z.length≠0 by omega) N (by rw[C];exact yX2 _) (by rw[C];simp);simpa using this
def jH1 {t e} {l c} {i} {z} (J:o.op=.makeSlice t l c) (M:P.underlying t=some (.slice e)) (hi:P.info? e=some i) (N:oG P e=some z) (hb:i.bytes<=2^16)
  (f:TR g xs [ρ l,ρ c]) (hd:doOp L lim n (.mksl e i.size i.bytes z) xs=some out) (F:HR P g L w) (G:WG g w) (hn:g.ι n=none) (hl:lim<=n):gY P g lim w L n out (execOp ρ o):=by
 match xs,f with
 |[],f=>have:=f.1;simp at this
 |[_],f=>have:=f.1;simp at this
 |[a,b],f=>
  obtain⟨S,r,d,A,p,hg,hlen,y⟩:=mZ N;rw[hi]at d;cases d;have u:r.cells.size=z.length:=by rw[<-p];simp
  simp only[doOp]at hd;split at hd;rename_i m q H K;obtain⟨O,B⟩:=jB H f.head;obtain⟨R,e2⟩:=jB K f.tail.head;split at hd;rename_i hc;obtain⟨h1,h2,C⟩:=hc;cases hd;simp only[maxRoom]at C
  have j:(i.bytes:Int)*q<=281474976710656:=by
   have D:i.bytes*q.toNat<=2^16*2^30:=Nat.mul_le_mul hb (by omega);have E:((i.bytes*q.toNat:Nat):Int)<=((2^16*2^30:Nat):Int):=Int.ofNat_le.2 D;rw[Int.natCast_mul,Int.toNat_of_nonneg (by omega)]at E;omega
  have hr:=run_make (P:=P) w t e i r M hi A O R m q h1 h2 j (by omega);refine qF (w₁:=w) (V:=.slice (some ⟨w.heap.size,0,none⟩) m.toNat q.toNat) (o:=.cells (madeCells r.cells (q.toNat*i.size)) e) (loc:=⟨w.heap.size,i.size,q.toNat,0⟩) (.inl rfl) ?_ rfl hn hl ?_ ?_ F G;simp[execOp,J,B,e2,hr];intro g' v d;exact .sl d (yX2 _) (by omega) rfl (fun _=>⟨rfl,.inr (by simp),by simp,fun _=>by simp,fun k h=>by cases h⟩);intro g' v d;have s:=zJ (g:=g') (z:=r.cells) (m:=q.toNat) (by rw[p];exact hg);rw[u,hlen]at s
  have x:madeCells r.cells (q.toNat*i.size)=Builtin.zeroCells r.cells q.toNat:=by
   unfold madeCells Builtin.zeroCells;rw[u,hlen]
  have:=Cb (P:=P) (w:=w) (ty:=e) (bx:=false) (cJ:=#[]) (ct:=q.toNat) g' d rfl rfl rfl rfl y s (by simp) (by simp);rw[x,<-p];simpa using this;cases hd;cases hd
 |_::_::_::_,f=>have:=f.1;simp at this
end
end Go.Sim
namespace Go.Sim
section
variable {P:Program} {g:Gh} {lim:Nat} {w:World} {L:Nat->Option AO} {n:Nat}
variable (ρ:Operand->Value) (o:Oper) {k:gC} {os:List Operand} {xs:List AV} {out:Out}
def pV:Nat->Value
 |0=>.slice none 0 0
 |1=>.pointer none
 |2=>.map none
 |_=>.nilFunc
def Kd (kd:Nat):TypeDesc->Bool
 |.slice _=>kd==0
 |.pointer _=>kd==1
 |.map _ _=>kd==2
 |.func _ _ _=>kd==3
 |_=>false
def Hq {kd} {x} {V} (h:isNilv kd x=some true) (a:VR g x V):V=pV kd/\kd<=3:=by
 unfold isNilv at h;split at h
 .exact ⟨a.ground,by omega⟩
 .exact ⟨a.ground,by omega⟩
 .exact ⟨a.ground,by omega⟩
 .exact ⟨a.ground,by omega⟩
 all_goals cases h
theorem Rt {kd} {x} {V} (h:isNilv kd x=some false) (d:VR g x V):
  (kd=0/\∃a l c,V=.slice (some a) l c)\/(kd=1/\∃a,V=.pointer (some a))\/(kd=2/\∃b,V=.map (some b))\/(kd=3/\∃f a c,V=.func f a c):=by
 unfold isNilv at h;split at h;cases h;cases h;cases h;cases h;cases d
 grind
 grind
 cases d;exact .inl ⟨rfl,_,_,_,rfl⟩;cases d;exact .inr (.inl ⟨rfl,_,rfl⟩);cases d;exact .inr (.inl ⟨rfl,_,rfl⟩);cases d;exact .inr (.inr (.inl ⟨rfl,_,rfl⟩));cases d;exact .inr (.inr (.inl ⟨rfl,_,rfl⟩));cases d
 grind
 grind
 cases h
def Xv {t} {d} {kd} (hd:P.underlying t=some d) (hk:Kd kd d=true) {A B} {a b}
  (g:(a=true/\A=pV kd)\/(a=false/\((kd=0/\∃p l c,A=.slice (some p) l c)\/(kd=1/\∃p,A=.pointer (some p))\/(kd=2/\∃p,A=.map (some p))\/(kd=3/\∃f x c,A=.func f x c))))
  (e:(b=true/\B=pV kd)\/(b=false/\((kd=0/\∃p l c,B=.slice (some p) l c)\/(kd=1/\∃p,B=.pointer (some p))\/(kd=2/\∃p,B=.map (some p))\/(kd=3/\∃f x c,B=.func f x c)))) (h:a=true\/b=true):
  (Op.equal t A B).run P w=.ok (a&&b) w:=by
 have key:∀m,(Op.equalIn (m+1) t A B).run P w=.ok (a&&b) w:=by
  intro m;rw[Op.equalIn];simp only[Sem.run_bind,run_underlying hd,Result.andThen_ok];cases d<;>simp only[Kd,zG2]at hk
  all_goals
   have hk:=eq_of_beq hk;subst hk;rcases g with⟨rfl,rfl⟩|⟨rfl,g⟩
   .rcases e with⟨rfl,rfl⟩|⟨rfl,e⟩
    .simp [pV]
    .simp at e
     first
     |(obtain⟨p,l,c,rfl⟩:=e;simp[pV];done)
     |(obtain⟨p,rfl⟩:=e;simp[pV];done)
   .rcases e with⟨rfl,rfl⟩|⟨rfl,e⟩
    .simp at g
     first
     |(obtain⟨p,l,c,rfl⟩:=g;simp[pV];done)
     |(obtain⟨p,rfl⟩:=g;simp[pV];done)
    .simp at h
 exact key 9999
theorem Nl {op} {neg} {t u} {x y} {d} {kd} (K:o.op=.binOp op t x y u) (hop:op=if neg then .neq else .eql) (M:P.underlying t=some d) (hk:Kd kd d=true)
  (i:TR g xs [ρ x,ρ y]) (hd:doOp L lim n (.eqNil neg kd) xs=some out) (H:HR P g L w) (J:WG g w):gY P g lim w L n out (execOp ρ o):=by
 match xs,i with
 |[],i=>have:=i.1;simp at this
 |[_],i=>have:=i.1;simp at this
 |[a,b],i=>
  have F:=i.head;have hb:=i.tail.head;simp only[doOp]at hd
  have j:∀{x} {V} {r},isNilv kd x=some r->VR g x V->(r=true/\V=pV kd)\/(r=false/\((kd=0/\∃p l c,V=.slice (some p) l c)\/(kd=1/\∃p,V=.pointer (some p))\/(kd=2/\∃p,V=.map (some p))\/(kd=3/\∃f x c,V=.func f x c))):=by
   intro x V r h1 h2;cases r;exact .inr ⟨rfl,Rt h1 h2⟩;exact .inl ⟨rfl,(Hq h1 h2).1⟩
  have fin:∀p q:Bool,isNilv kd a=some p->isNilv kd b=some q->(p=true\/q=true)->gY P g lim w L n {v:=.v (.bool ((p&&q)!=neg))} (execOp ρ o):=by
   intro p q h1 h2 G;have E:=j h1 F;have N:=j h2 hb;have he:=Xv (P:=P) (w:=w) M hk E N G
   have C:(eqGuard op t x y (ρ x) (ρ y)).run P w=.ok () w:=by
    rcases E with⟨_,e⟩|⟨_,e⟩
    rw[e];rename_i D;subst D;have:=(Hq h1 F).2
    match kd,this with
    |0,_=>cases op<;>rfl
    |1,_=>cases op<;>rfl
    |2,_=>cases op<;>rfl
    |3,_=>cases op<;>rfl
    rcases e with⟨_,_,_,_,e⟩|⟨_,_,e⟩|⟨_,_,e⟩|⟨_,_,_,_,e⟩<;>rw[e]<;>cases op<;>rfl
   have z:(binOp op t (ρ x) (ρ y)).run P w=.ok (.bool ((p&&q)!=neg)) w:=by
    have h:(∀k m,ρ x≠.int k m)/\(∀k m,ρ x≠.float k m)/\(∀k m r,ρ x≠.complex k m r)/\(∀s,ρ x≠.string s):=by
     rcases E with⟨_,e⟩|⟨_,e⟩
     rw[e];unfold pV;split<;>refine⟨?_,?_,?_,?_⟩<;>intros<;>simp
     grind
    generalize ρ x=A at *;generalize ρ y=B at *;subst hop;cases neg
    cases A<;>first
     |exact absurd rfl (h.1 _ _)
     |exact absurd rfl (h.2.1 _ _)
     |exact absurd rfl (h.2.2.1 _ _ _)
     |exact absurd rfl (h.2.2.2 _)
     |(simp[binOp,he])
    cases A<;>first
     |exact absurd rfl (h.1 _ _)
     |exact absurd rfl (h.2.1 _ _)
     |exact absurd rfl (h.2.2.1 _ _ _)
     |exact absurd rfl (h.2.2.2 _)
     |(simp[binOp,he])
   refine bF (V:=.bool ((p&&q)!=neg)) ?_ (.v rfl) H J;simp[execOp,K,C,z]
  split at hd
  grind
  grind
  cases hd
 |_::_::_::_,i=>have:=i.1;simp at this
def lO {b} {args} {a} (d:o.op=.call {callee:=.builtin b,args:=args,argTypes:=a}) {V} {w'}
  (h:∀c,(builtin b a o.type c (args.map ρ)).run P w=.ok (.value V) w'):(execOp ρ o).run P w=.ok (.value V) w':=by
 simp only[execOp,d,Sem.run_bind,resolve,Sem.run_pure,Result.andThen_ok,invoke];exact h _
def Ru {x} {t} {d} {kd} (y:o.op=.call {callee:=.builtin .len,args:=#[x],argTypes:=#[t]}) (j:P.underlying t=some d)
  (hk:(kd=0/\∃e,d=.slice e)\/(kd=1/\d=.string)\/(kd=2/\∃k e,d=.map k e))
  (l:TR g xs [ρ x]) (hd:doOp L lim n (.len kd) xs=some out) (p:HR P g L w) (q:WG g w):gY P g lim w L n out (execOp ρ o):=by
 match xs,l with
 |[],l=>have:=l.1;simp at this
 |[a],l=>
  have i:=l.head
  have fin:∀m:Nat,(Builtin.len_ #[t] o.type #[ρ x]).run P w=.ok (goInt m) w->gY P g lim w L n {v:=.int m} (execOp ρ o):=by
   intro m h;refine bF (V:=goInt m) (lO ρ o y (fun c=>?_)) (.v rfl) p q;simp[builtin,h]
  simp only[doOp]at hd;split at hd;cases hd;rcases hk with⟨h,e,rfl⟩|⟨h,_⟩|⟨h,_⟩<;>first|(cases h;done)|skip
  generalize f:ρ x=V at i;cases i with
  |is0=>exact fin _ (by simp[Builtin.len_,run_underlying j,f])
  |is=>exact fin _ (by simp[Builtin.len_,run_underlying j,f])
  cases hd;rcases hk with⟨h,e,rfl⟩|⟨h,_⟩|⟨h,_⟩<;>first|(cases h;done)|skip
  generalize f:ρ x=V at i;cases i with
  |sl=>exact fin _ (by simp[Builtin.len_,run_underlying j,f])
  cases hd;rcases hk with⟨h,e,rfl⟩|⟨h,_⟩|⟨h,_⟩<;>first|(cases h;done)|skip
  have f:=i.ground;exact fin 0 (by simp[Builtin.len_,run_underlying j,f]);cases hd;rcases hk with⟨h,e,rfl⟩|⟨h,_⟩|⟨h,_⟩<;>first|(cases h;done)|skip
  generalize f:ρ x=V at i;cases i with
  |es=>exact fin 0 (by simp[Builtin.len_,run_underlying j,f])
  cases hd;rcases hk with⟨h,_⟩|⟨h,rfl⟩|⟨h,_⟩<;>first|(cases h;done)|skip
  have f:=i.ground;exact fin _ (by simp[Builtin.len_,run_underlying j,f]);cases hd;rcases hk with⟨h,_⟩|⟨h,_⟩|⟨h,k,e,rfl⟩<;>first|(cases h;done)|skip
  have f:=i.ground;exact fin 0 (by simp[Builtin.len_,run_underlying j,f]);rename_i id;rcases hk with⟨h,_⟩|⟨h,_⟩|⟨h,k,e,rfl⟩<;>first|(cases h;done)|skip
  split at hd;rename_i es u;cases hd;obtain⟨loc,ents,clock,h1,h2,r,s,z⟩:=p id _ u;generalize f:ρ x=V at i;cases i with
  |@map _ _ b loc' hi hp=>
   rw[h1]at hi;cases hi;have:=hp h2;subst this;have hg:(getObj loc.b).run P w=.ok (.map ents clock) w:=by simp[getObj,Sem.run,r]
   exact fin _ (by simp[Builtin.len_,run_underlying j,f,hg,s])
  cases hd;rename_i es;cases hd;rcases hk with⟨h,_⟩|⟨h,_⟩|⟨h,k,e,rfl⟩<;>first|(cases h;done)|skip
  generalize f:ρ x=V at i;cases i with
  |@im _ _ b clock ents hb hl hk' hv=>
   have hg:(getObj b).run P w=.ok (.map ents clock) w:=by simp[getObj,Sem.run,q.still _ _ hb]
   exact fin _ (by simp[Builtin.len_,run_underlying j,f,hg,hl])
  cases hd
 |_::_::_,l=>have:=l.1;simp at this
def Dv:∀xs vs k a r,TR g xs vs->foldMn k a xs=some r->(vs.foldlM Builtin.min2 (.int k a)).run P w=.ok (.int k r) w
 |[],vs,k,a,r,hx,h=>by
  have:vs=[]:=by have:=hx.1;simpa using this.symm
  subst this
  simp only[foldMn,yZ2]at h
  subst h
  simp
 |x::xs,[],k,a,r,hx,h=>by have:=hx.1;simp at this
 |x::xs,v::vs,k,a,r,hx,h=>by
  simp only[foldMn]at h
  split at h
  rename_i k' b
  split at h
  rename_i e
  subst e
  have hv:=hx.head.ground
  subst hv
  simp only[List.foldlM_cons,Sem.run_bind,Builtin.min2,Sem.run_pure,Result.andThen_ok]
  exact Dv xs vs k _ r hx.tail h
  cases h
  cases h
def xI1 {args} {at_} (f:o.op=.call {callee:=.builtin .min,args:=args,argTypes:=at_})
  (b:TR g xs (args.toList.map ρ)) (hd:doOp L lim n .mn xs=some out) (d:HR P g L w) (e:WG g w):gY P g lim w L n out (execOp ρ o):=by
 cases xs with
 |nil=>simp[doOp]at hd
 |cons x xs=>
  simp only[doOp]at hd;split at hd;rename_i k a;simp only[yV2]at hd;obtain⟨r,hr,rfl⟩:=hd;cases hvs:args.toList.map ρ with
  |nil=>rw[hvs]at b;have:=b.1;simp at this
  |cons v vs=>
   rw[hvs]at b;have hv:=b.head.ground;have:=Dv (P:=P) (w:=w) xs vs k a r b.tail hr;refine bF (V:=.int k r) (lO ρ o f (fun c=>?_)) (.v rfl) d e;have h2:(args.map ρ).toList=v::vs:=by rw[cG3];exact hvs
   simp only[builtin,Builtin.min_,h2,Sem.run_bind,hv,this,Result.andThen_ok,Sem.run_pure]
  cases hd
def Dw:∀xs vs k a r,TR g xs vs->foldMx k a xs=some r->(vs.foldlM Builtin.max2 (.int k a)).run P w=.ok (.int k r) w
 |[],vs,k,a,r,hx,h=>by
  have:vs=[]:=by have:=hx.1;simpa using this.symm
  subst this
  simp only[foldMx,yZ2]at h
  subst h
  simp
 |x::xs,[],k,a,r,hx,h=>by have:=hx.1;simp at this
 |x::xs,v::vs,k,a,r,hx,h=>by
  simp only[foldMx]at h
  split at h
  rename_i k' b
  split at h
  rename_i e
  subst e
  have hv:=hx.head.ground
  subst hv
  simp only[List.foldlM_cons,Sem.run_bind,Builtin.max2,Sem.run_pure,Result.andThen_ok]
  exact Dw xs vs k _ r hx.tail h
  cases h
  cases h
def xJ1 {args} {at_} (f:o.op=.call {callee:=.builtin .max,args:=args,argTypes:=at_})
  (b:TR g xs (args.toList.map ρ)) (hd:doOp L lim n .mx xs=some out) (d:HR P g L w) (e:WG g w):gY P g lim w L n out (execOp ρ o):=by
 cases xs with
 |nil=>simp[doOp]at hd
 |cons x xs=>
  simp only[doOp]at hd;split at hd;rename_i k a;simp only[yV2]at hd;obtain⟨r,hr,rfl⟩:=hd;cases hvs:args.toList.map ρ with
  |nil=>rw[hvs]at b;have:=b.1;simp at this
  |cons v vs=>
   rw[hvs]at b;have hv:=b.head.ground;have:=Dw (P:=P) (w:=w) xs vs k a r b.tail hr;refine bF (V:=.int k r) (lO ρ o f (fun c=>?_)) (.v rfl) d e;have h2:(args.map ρ).toList=v::vs:=by rw[cG3];exact hvs
   simp only[builtin,Builtin.max_,h2,Sem.run_bind,hv,this,Result.andThen_ok,Sem.run_pure]
  cases hd
end
end Go.Sim
namespace Go.Sim
section
variable {P:Program} {g:Gh} {lim:Nat} {w:World} {L:Nat->Option AO} {n:Nat}
variable (ρ:Operand->Value) (o:Oper) {k:gC} {os:List Operand} {xs:List AV} {out:Out}
def Rv {s} {nx} {V} {v} {zz id ver off len} {cap} {G} {bx} {ty} {esz} {els new} {news} (z:HR P g L w) (N:WG g w)
  (O:L id=some (.arr bx ty esz ver els)) (A:VR g (.sl zz id ver off len cap) G) (hlen:off+len<=els.length) (f:lim<=id) (hf:lE g esz new news) (hnl:new.length<=len)
  (h:∀a c w',G=.slice (some a) len c->(storeCells a news).run P w=.ok () w'->s.run P w=.ok nx w') (o:nx=.value V\/(nx=.skip/\V=undef)) (hv:∀g',VR g' v V):
  gY P g lim w L n {v:=v,up:=some (id,.arr bx ty esz ver (setL els off new))} s:=by
 obtain⟨loc,cs,h1,h2,u,H,r,t,J,K,M⟩:=z id _ O;cases A with
 |@sl _ _ _ _ _ _ _ loc' p c hi hver hlc hsp hp=>
  rw[h1]at hi;cases hi;obtain⟨hz,E,T,U,W⟩:=hp u;by_cases B:new.length=0
  ·
   have C:new=[]:=by simpa using B
   subst C;have D:news=[]:=by have:=hf.len;simpa using this
   subst D;have hr:=h p c w rfl rfl;refine wV (hnl:=fun R S=>by simp_all) (nx:=nx) (V:=V) (loc:=loc) (ver:=loc.ver) hr o h1 f (yX2 _) r (fun b hb=>rfl) rfl rfl rfl rfl (fun g' _ _=>hv g') (fun g' l m=>?_) z N;simp only[setL];exact⟨_,cs,m,h2,u,H,r,t,J,K,fun i row j x a b=>by obtain⟨y,X,Y,Z⟩:=M i row j x a b;exact⟨y,X,Y,Z.mono l⟩⟩
  have F:p=⟨loc.b,off*loc.esz,none⟩:=E.resolve_left (by omega);subst F
  have e:off*esz+news.length<=cs.size:=by
   rw[hf.len,t,<-aX3];exact aH3 _ (by omega)
  have q:=run_storeCells_at P loc.b (off*esz) ty news 0 cs w r (by simpa using e) (fun y hy=>Du (hf.cell y hy));simp only[aZ3]at q;have hr:=h _ c _ rfl (by rw[h2];exact q);obtain⟨p1,p2,p3,p4⟩:=pU w loc.b (cs.toList.take (off*esz)++news++cs.toList.drop (off*esz+news.length)).toArray;have d:=setRow_heap w loc.b cs (cs.toList.take (off*esz)++news++cs.toList.drop (off*esz+news.length)).toArray ty (0,0) r;refine wV (hnl:=fun R S=>by simp_all) (nx:=nx) (V:=V) (loc:=loc) (ver:=loc.ver) hr o h1 f (yX2 _) d (fun b hb=>setRow_other w loc.b b _ hb) p4 p1 p2 p3 (fun g' _ _=>hv g') (fun g' l m=>?_) z N;obtain⟨r1,r2⟩:=Ng (g':=g') l (cs:=cs.toList) (k:=off) (ct:=loc.ct) (by simpa using t) hf (by omega) K (fun i row j x a b=>by simpa using M i row j x a b) (Hn (by omega));refine⟨_,_,m,h2,u,H,d,?_,by rw[nA];exact J,r1,fun i row j x a b=>?_⟩;rw[List.size_toArray,jD1 _ _ _ (by simpa using e)];simpa using t;simpa using r2 i row j x a b
def lE.take {esz} {rows} {ys} (h:lE g esz rows ys) (m:Nat):lE g esz (rows.take m) (ys.take (m*esz)):=by
 refine⟨?_,fun i row hr=>?_,fun y hy=>h.cell y (cN3 hy),fun i row j x hr a=>?_⟩;rw[cH3,cH3,h.len,Nat.mul_min_mul_right];rw[zR2]at hr;split at hr;exact h.row i row hr;cases hr;rw[zR2]at hr;split at hr;rename_i hi;obtain⟨y,h1,h2⟩:=h.val i row j x hr a;have b:j<esz:=by rw[<-h.row i row hr];exact(yT2.1 a).1
 exact⟨y,by rw[zR2,yY2 (zI hi b)];exact h1,h2⟩;cases hr
def bY1 {x} {t e} {z} (v:o.op=.call {callee:=.builtin .clear,args:=#[x],argTypes:=#[t]}) (p:P.underlying t=some (.slice e)) (F:oG P e=some z)
  (h:TR g xs [ρ x]) (hd:doOp L lim n (.clear z.length z) xs=some out) (q:HR P g L w) (s:WG g w):gY P g lim w L n out (execOp ρ o):=by
 obtain⟨i,C,hi,A,j,hg,hlen,E⟩:=mZ F;have y:C.cells.size=z.length:=by rw[<-j];simp
 match xs,h with
 |[],h=>have:=h.1;simp at this
 |[d],h=>
  have b:=h.head;simp only[doOp]at hd;split at hd;cases hd;have r:=b.ground;refine bF (V:=undef) (lO ρ o v (fun c=>?_)) (.undef g) q s;simp[builtin,Builtin.clear_,run_underlying p,r,undef];cases hd;generalize r:ρ x=V at b;cases b with
  |@es _ a=>
   refine bF (V:=undef) (lO ρ o v (fun c=>?_)) (.undef g) q s;cases a<;>simp[builtin,Builtin.clear_,run_underlying p,r,undef]
  rename_i J id ver off len cap;split at hd;rename_i bx ty H B els D;split at hd;rename_i hc;obtain⟨rfl,rfl,u,l⟩:=hc;cases hd;have hf:=zJ (g:=g) (z:=C.cells) (m:=len) (by rw[j];exact hg);rw[y,j]at hf;refine Rv (nx:=.value undef) (V:=undef) q s D b u l hf (by simp) (fun a c w' k f=>?_) (.inl rfl) (fun g'=>.undef g');refine lO ρ o v (fun G=>?_);cases len with
  |zero=>
   have:w'=w:=by
    simp[Builtin.zeroCells,Array.range_zero',storeCells]at f;exact f.symm
   subst this;simp[builtin,Builtin.clear_,run_underlying p,k,undef]
  |succ m=>
   simp[builtin,Builtin.clear_,run_underlying p,k,mT hi A,f,undef]
  cases hd;cases hd;cases hd
 |_::_::_,h=>have:=h.1;simp at this
end
end Go.Sim
namespace Go.Sim
variable {e t:TypeId} {hi lo mx:aB Operand} {len m n:Nat}
section
variable {P:Program} {g:Gh} {lim:Nat} {w:World} {L:Nat->Option AO}
variable (ρ:Operand->Value) (o:Oper) {k:gC} {os:List Operand} {xs:List AV} {out:Out}
def Xw {x:Value} {b:IntKind} {i:Int} (a:x=.int b i) {y:Nat} (c:BoundsCode) (h1:0<=i) (h2:i<=y):(Instr.sliceBound x y c).run P w=.ok i.toNat w:=by
 simp[Instr.sliceBound,a,asIntOf,h1,h2]
def Nm {lo hi} {len} {bs} {l h} (hb:bounds lo.isSome hi.isSome len bs=some (l,h)) (c:TR g bs ((lo.toList++hi.toList).map ρ)):
  ((lo=none/\l=0)\/∃a k,lo=some a/\ρ a=.int k l)/\((hi=none/\h=len)\/∃a k,hi=some a/\ρ a=.int k h):=by
 cases lo with
 |none=>
  cases hi with
  |none=>
   simp only[bounds,Option.isSome_none]at hb;split at hb<;>simp_all
  |some b=>
   match bs,c with
   |[],c=>have:=c.1;simp at this
   |[y],c=>
    simp only[bounds,Option.isSome_none,cC3]at hb;simp only[yV2,zU2]at hb;obtain⟨m,d,rfl,rfl⟩:=hb;obtain⟨k,hk⟩:=jB d c.head;exact⟨.inl ⟨rfl,rfl⟩,.inr ⟨b,k,rfl,hk⟩⟩
   |_::_::_,c=>have:=c.1;simp at this
 |some a=>
  cases hi with
  |none=>
   match bs,c with
   |[],c=>have:=c.1;simp at this
   |[y],c=>
    simp only[bounds,Option.isSome_none,cC3]at hb;simp only[yV2,zU2]at hb;obtain⟨m,d,rfl,rfl⟩:=hb;obtain⟨k,hk⟩:=jB d c.head;exact⟨.inr ⟨a,k,rfl,hk⟩,.inl ⟨rfl,rfl⟩⟩
   |_::_::_,c=>have:=c.1;simp at this
  |some b=>
   match bs,c with
   |[],c=>have:=c.1;simp at this
   |[_],c=>have:=c.1;simp at this
   |[y,z],c=>
    simp only[bounds,cC3]at hb;split at hb;rename_i m q d f;cases hb;obtain⟨i,e⟩:=jB d c.head;obtain⟨j,e2⟩:=jB f c.tail.head;exact⟨.inr ⟨a,i,rfl,e⟩,.inr ⟨b,j,rfl,e2⟩⟩;cases hb
   |_::_::_::_,c=>have:=c.1;simp at this
def Rw {isS:Bool} {cap:Nat} {l h:Int} (h1:(lo=none/\l=0)\/∃a k,lo=some a/\ρ a=.int k l) (h2:(hi=none/\h=len)\/∃a k,hi=some a/\ρ a=.int k h)
  (f:(mx=none/\m=cap)\/(hi.isSome/\∃a k,mx=some a/\ρ a=.int k m)) (e:0<=l) (g:l<=h) (d:h<=m) (p:m<=cap):
  (Instr.sliceBounds isS len cap (lo.map ρ) (hi.map ρ) (mx.map ρ)).run P w=.ok (l.toNat,h.toNat,m) w:=by
 have hb:∀{x:Value} {n:IntKind} {i:Int} {y:Nat} (c:BoundsCode),x=.int n i->0<=i->i<=y->(Instr.sliceBound x y c).run P w=.ok i.toNat w:=fun c j h1 h2=>Xw j c h1 h2;rcases f with⟨rfl,rfl⟩|⟨hs,a,k,rfl,ha⟩
 rcases h2 with⟨rfl,rfl⟩|⟨b,kb,rfl,hb2⟩
 rcases h1 with⟨rfl,rfl⟩|⟨c,kc,rfl,hc⟩
 simp[Instr.sliceBounds];simp[Instr.sliceBounds,hb _ hc e g];have o:h<=((h.toNat:Nat):Int):=by omega
 rcases h1 with⟨rfl,rfl⟩|⟨c,kc,rfl,hc⟩
 simp[Instr.sliceBounds,hb _ hb2 (by omega) d];simp[Instr.sliceBounds,hb _ hb2 (by omega) d,hb (y:=h.toNat) _ hc e (by omega)];rcases h2 with⟨rfl,rfl⟩|⟨b,kb,rfl,hb2⟩
 simp at hs;have e2:=hb (y:=cap) (if isS then BoundsCode.slice3Acap else .slice3Alen) ha (by omega) (by omega);simp only[Int.toNat_natCast]at e2;rcases h1 with⟨rfl,rfl⟩|⟨c,kc,rfl,hc⟩
 simp[Instr.sliceBounds,e2,hb (y:=m) _ hb2 (by omega) d];simp[Instr.sliceBounds,e2,hb (y:=m) _ hb2 (by omega) d,hb (y:=h.toNat) _ hc e (by omega)]
def tO1 {x:Operand} {i:TypeInfo} (ho:o.op=.slice t x lo hi mx) (hu:P.underlying t=some (.slice e)) (Y:P.info? e=some i) (h0:i.size≠0) (b0:mx.isSome->hi.isSome)
  (hx:TR g xs ((x::(lo.toList++hi.toList++mx.toList)).map ρ))
  (hd:doOp L lim n (.slc i.size lo.isSome hi.isSome mx.isSome) xs=some out) (F:HR P g L w) (H:WG g w):gY P g lim w L n out (execOp ρ o):=by
 simp only[doOp,yV2]at hd;obtain⟨v,hv,rfl⟩:=hd;cases xs with
 |nil=>have:=hx.1;simp at this
 |cons a bs=>
  have s:VR g a (ρ x):=TR.head (t:=bs) (v:=(lo.toList++hi.toList++mx.toList).map ρ) hx;have E:TR g bs ((lo.toList++hi.toList++mx.toList).map ρ):=TR.tail (x:=a) (y:=ρ x) hx;unfold sliceOp at hv;simp only at hv
  obtain⟨G,m,M,A⟩:∃(G:aA AV) (m:Int),(if mx.isSome then(bs.dropLast,bs.getLast?.bind intOf)else(bs,some 0))=(G,some m)/\
    TR g G ((lo.toList++hi.toList).map ρ)/\((mx=none/\m=0)\/∃a k,mx=some a/\ρ a=.int k m):=by
   cases mx with
   |none=>exact⟨bs,0,by simp,by simpa using E,.inl ⟨rfl,rfl⟩⟩
   |some c=>
    rw[List.map_append]at E;have hlen:=E.1;simp only[Option.toList_some,bQ3,cX3,aU3,zZ2,zJ2]at hlen;rcases List.eq_nil_or_concat bs with rfl|⟨ini,lst,rfl⟩
    simp at hlen;rw[List.concat_eq_append]at *;have hl:((lo.toList++hi.toList).map ρ).length=ini.length:=by simp at hlen ⊢;omega
    have h1:=E.take ini.length;have h2:=E.drop ini.length;rw[List.take_left' rfl,List.take_left' hl]at h1;rw[List.drop_left' rfl,List.drop_left' hl]at h2;simp only[cC3,zT2,List.dropLast_concat,List.getLast?_concat,yU2]at hv ⊢;cases hm:intOf lst with
    |none=>rw[hm]at hv;simp at hv
    |some m=>
     obtain⟨k,hk⟩:=jB hm h2.head;exact⟨ini,m,rfl,h1,.inr ⟨c,k,rfl,hk⟩⟩
  rw[M]at hv;obtain⟨d0,A⟩:=A;simp only at hv
  have key:∀{b:aB Addr} {len cap:Nat} {l h:Int} {q:Nat},ρ x=.slice b len cap->bounds lo.isSome hi.isSome len G=some (l,h)->0<=l->l<=h->h<=q->q<=cap->((mx=none/\q=cap)\/(mx.isSome/\(q:Int)=m))->
    (execOp ρ o).run P w=.ok (.value (.slice (if q=l.toNat then b else b.map (·.add (l.toNat*i.size))) (h.toNat-l.toNat) (q-l.toNat))) w:=by
   intro b len cap l h q u hb c1 c2 c3 c4 J;obtain⟨b1,b2⟩:=Nm ρ hb d0
   have hr:=Rw (P:=P) (w:=w) ρ (isS:=true) (len:=len) (cap:=cap) (mx:=mx) (m:=q) b1 b2 (by
    rcases J with J|⟨hs,J⟩
    exact .inl J;rcases A with⟨e,_⟩|⟨a,k,e,hk⟩
    subst e;simp at hs;exact .inr ⟨b0 hs,a,k,e,by rw[hk,J]⟩) c1 c2 c3 c4
   simp[execOp,ho,Instr.sliceAt,Instr.slice,run_underlying hu,u,hr,gD Y]
  have d4:∀{len cap:Nat},m=0->(mx=none/\cap=cap)\/(mx.isSome/\((0:Nat):Int)=m):=by
   intro len cap e;rcases A with⟨f,_⟩|⟨a,k,f,_⟩
   exact .inl ⟨f,rfl⟩;exact .inr ⟨by simp[f],by omega⟩
  split at hv
  ·
   have u:=s.ground;split at hv;rename_i hb;split at hv;rename_i K;cases hv
   have:=key (b:=none) (len:=0) (cap:=0) (l:=0) (h:=0) (q:=0) u hb (bV3 _) (bV3 _) (by simp) (yX2 _) (by
    rcases A with⟨f,_⟩|⟨a,k,f,_⟩
    exact .inl ⟨f,rfl⟩;exact .inr ⟨by simp[f],by simp[K]⟩)
   exact bF (V:=.slice none 0 0) (by simpa using this) (.v rfl) F H;cases hv;cases hv
  ·
   generalize u:ρ x=V at s;cases s with
   |@es _ p=>
    split at hv;rename_i hb;split at hv;rename_i K;cases hv
    have:=key (b:=p) (len:=0) (cap:=0) (l:=0) (h:=0) (q:=0) u hb (bV3 _) (bV3 _) (by simp) (yX2 _) (by
     rcases A with⟨f,_⟩|⟨a,k,f,_⟩
     exact .inl ⟨f,rfl⟩;exact .inr ⟨by simp[f],by simp[K]⟩)
    exact bF (V:=.slice p 0 0) (by simpa using this) .es F H;cases hv;cases hv
  ·
   rename_i ez els;split at hv;rename_i l h hb;split at hv;rename_i hc;obtain⟨rfl,c1,c2,c3⟩:=hc;generalize u:ρ x=V at s;cases s with
   |@is0 _ _ cap p=>
    simp only[zJ2]at c3 hb;have a0:l=0:=by omega
    have X:h=0:=by omega
    subst a0;subst X;split at hv;rename_i d;split at hv;rename_i C;obtain⟨_,rfl⟩:=C;cases hv;have:=key (b:=some p) (len:=0) (cap:=cap) (q:=0) u hb (bV3 _) (bV3 _) (by omega) (by omega) (.inr ⟨d,by omega⟩);exact bF (V:=.slice (some p) 0 0) (by simpa using this) .es F H;cases hv;rename_i d;cases hv;have D:mx=none:=by cases mx<;>simp_all
    have:=key (b:=some p) (len:=0) (cap:=cap) (q:=cap) u hb (bV3 _) (bV3 _) (by omega) (yX2 _) (.inl ⟨D,rfl⟩);refine bF this ?_ F H;simp;split<;>exact VR.is0
   |@is _ _ _ p cap hs hl hr hc' hv'=>
    split at hv;rename_i d;split at hv;rename_i C;obtain⟨rfl,rfl⟩:=C;cases hv;have:=key (b:=some p) (q:=m.toNat) u hb c1 (bV3 _) (by omega) (by omega) (.inr ⟨d,by omega⟩);exact bF (V:=.slice (some p) 0 0) (by simpa using this) .es F H;cases hv;rename_i d;cases hv;have D:mx=none:=by cases mx<;>simp_all
    have:=key (b:=some p) (q:=cap) u hb c1 c2 (by omega) (yX2 _) (.inl ⟨D,rfl⟩);have S:((els.drop l.toNat).take (h.toNat-l.toNat)).length=h.toNat-l.toNat:=by simp;omega
    have aG:∀(j:Nat) (row:aA AV),((els.drop l.toNat).take (h.toNat-l.toNat))[j]? =some row->els[l.toNat+j]? =some row:=by
     intro j row B;rw[zR2]at B;split at B;rw[aI3]at B;exact B;cases B
    by_cases R:cap=l.toNat
    rw[yY2 R]at this;refine bF this ?_ F H;have O:h.toNat-l.toNat=0:=by omega
    rw[O,List.take_zero];exact .is hs (by simp) (fun i r h=>by simp at h) (fun i r j y h=>by simp at h) (fun i r j y z h=>by simp at h);rw[zB2 R]at this;refine bF (V:=.slice (some (p.add (l.toNat*i.size))) (h.toNat-l.toNat) (cap-l.toNat)) (by simpa using this) ?_ F H
    have hE:VR g (.is i.size ((els.drop l.toNat).take (h.toNat-l.toNat))) (.slice (some (p.add (l.toNat*i.size))) ((els.drop l.toNat).take (h.toNat-l.toNat)).length (cap-l.toNat)):=by
     refine .is (Dr hs _) (by rw[S];omega) (fun j r B=>hr _ r (aG j r B)) (fun j r q y B J=>?_) (fun j r q y z B J O=>?_);obtain⟨z,z1,z2⟩:=hc' _ r q y (aG j r B) J;refine⟨z,?_,z2⟩;rw[oD p hs,<-z1,aX3,aP3];rw[oD p hs]at O;exact hv' _ r q y z (aG j r B) J (by rw[aX3,aP3];exact O)
    rw[S]at hE;exact hE
   cases hv;cases hv
  ·
   rename_i zz id ver off len cap;split at hv;rename_i bx ty ez W els hL;split at hv;rename_i l h hb;split at hv;rename_i hc;obtain⟨rfl,rfl,c1,c2,c3,c4⟩:=hc;obtain⟨loc,cs,h1,h2,h3,h4,h5,h6,h7,h8,h9⟩:=F id _ hL;generalize u:ρ x=V at s;cases s with
   |@sl _ _ _ _ _ _ _ loc' p c hi2 hver hlc hsp hp=>
    have f:loc'=loc:=by rw[h1]at hi2;cases hi2;rfl
    subst f;obtain⟨O,b4,d5,T,U⟩:=hp h3
    have b9:roomOf cap els.length off<=c:=by
     cases cap with
     |none=>simp only[roomOf];have:=T rfl;omega
     |some c'=>simp only[roomOf];have:=U c' rfl;omega
    have mk:∀(q:Nat) (cap':aB Nat),h<=q->q<=c->(cap'=none->cap=none/\q=c)->(∀k,cap'=some k->k=q-l.toNat)->
      VR g (.sl zz id W (off+l.toNat) (h.toNat-l.toNat) cap') (.slice (if q=l.toNat then some p else(some p).map (·.add (l.toNat*i.size))) (h.toNat-l.toNat) (q-l.toNat)):=by
     intro q cap' d6 d7 b6 b7;have Z:(if q=l.toNat then some p else(some p).map (·.add (l.toNat*i.size)))=some (if q=l.toNat then p else p.add (l.toNat*i.size)):=by split<;>rfl
     rw[Z]
     have N:(if q=l.toNat then p else p.add (l.toNat*i.size)).spot=none:=by
      split;exact hsp;unfold Addr.add;split;exact hsp;rfl
     refine .sl hi2 hver (by omega) N (fun d3=>⟨O,?_,by omega,fun hn=>?_,fun k hk=>(b7 k hk).symm⟩);by_cases b8:q=l.toNat
     exact .inl (by omega);right;rw[zB2 b8];have b5:p=⟨loc'.b,off*loc'.esz,none⟩:=b4.resolve_left (by omega);rw[b5,kF,h2,aX3];obtain⟨f,e2⟩:=b6 hn;have:=T f;omega
    split at hv;rename_i d;split at hv;rename_i C;obtain⟨d1,d2⟩:=C;cases hv;have:=key (b:=some p) (q:=m.toNat) u hb c1 c2 (by omega) (by omega) (.inr ⟨d,by omega⟩);exact bF this (mk m.toNat (some (m.toNat-l.toNat)) (by omega) (by omega) (fun h=>by cases h) (fun k hk=>by cases hk;rfl)) F H;cases hv;rename_i d;cases hv;have D:mx=none:=by cases mx<;>simp_all
    have:=key (b:=some p) (q:=c) u hb c1 c2 (by omega) (yX2 _) (.inl ⟨D,rfl⟩);refine bF this (mk c _ (by omega) (yX2 _) (fun hn=>?_) (fun k hk=>?_)) F H;cases cap with
    |none=>exact⟨rfl,rfl⟩
    |some c'=>simp at hn
    cases cap with
    |none=>simp at hk
    |some c'=>simp at hk;have:=U c' rfl;omega
   cases hv;cases hv;cases hv
  cases hv
end
end Go.Sim
namespace Go.Sim
section
variable {P:Program} {g:Gh} {lim:Nat} {w:World} {L:Nat->Option AO} {n:Nat}
variable (ρ:Operand->Value) (o:Oper) {k:gC} {os:List Operand} {xs:List AV} {out:Out}
def Hr {kt} {agg} {ks} (hk:kD P kt=some (agg,ks)) {a b} {A B} {r} (f:VR g a A) (hb:VR g b B) (h:keyEq agg ks a b=some r):
  (Op.equal kt A B).run P w=.ok r w:=by
 unfold kD at hk;unfold keyEq at h;split at hk;rename_i e;simp only[yV2,zU2]at hk;obtain⟨c,h1,rfl,rfl⟩:=hk;simp only[zG2,aL3]at h;have d:c=[.b]:=by simp[fM,e]at h1;exact h1.symm
 have:=oL (P:=P) (g:=g) 1 kt c h1 10000 (by omega) [a] [b] [A] [B] r w (.cons f (.nil g)) (.cons hb (.nil g)) (by rw[d];rfl) (by rw[d];rfl) h;simp only[Vc,dS,e]at this;exact this;rename_i j e;simp only[yV2,zU2]at hk;obtain⟨c,h1,rfl,rfl⟩:=hk;simp only[zG2,aL3]at h;have d:c=[.i]:=by simp[fM,e]at h1;exact h1.symm
 have:=oL (P:=P) (g:=g) 1 kt c h1 10000 (by omega) [a] [b] [A] [B] r w (.cons f (.nil g)) (.cons hb (.nil g)) (by rw[d];rfl) (by rw[d];rfl) h;simp only[Vc,dS,e]at this;exact this;rename_i e;simp only[yV2,zU2]at hk;obtain⟨c,h1,rfl,rfl⟩:=hk;simp only[zG2,aL3]at h;have d:c=[.s]:=by simp[fM,e]at h1;exact h1.symm
 have:=oL (P:=P) (g:=g) 1 kt c h1 10000 (by omega) [a] [b] [A] [B] r w (.cons f (.nil g)) (.cons hb (.nil g)) (by rw[d];rfl) (by rw[d];rfl) h;simp only[Vc,dS,e]at this;exact this;rename_i fs e;split at hk;simp only[yV2,zU2]at hk;obtain⟨c,h1,rfl,rfl⟩:=hk;simp only[zT2]at h;split at h;rename_i as bs;split at h;rename_i hc;obtain⟨c1,c2⟩:=hc;cases f with
 |@agg _ _ Cs hl hcell hv=>
  cases hb with
  |@agg _ _ Ds hl2 hcell2 hv2=>
   have:=oL (P:=P) (g:=g) 2 kt c h1 10000 (by omega) as bs Cs.toList Ds.toList r w ⟨by simpa using hl,fun i x y a b=>hv i x y a (by simpa using b)⟩
    ⟨by simpa using hl2,fun i x y a b=>hv2 i x y a (by simpa using b)⟩ c1 c2 h
   simp only[Vc,dS,e]at this;exact this
 cases h;cases h;cases hk;cases hk
def Dx {α} (f:α->PUnit->Sem (ForInStep PUnit)):∀(l:aA α) (w:World),(∀a∈l,∀w,(f a ⟨⟩).run P w=.ok (.yield ⟨⟩) w)->(forIn l PUnit.unit f).run P w=.ok ⟨⟩ w
 |[],w,h=>by simp
 |a::l,w,h=>by
  simp only[List.forIn_cons,Sem.run_bind,h a (by simp),Result.andThen_ok]
  exact Dx f l w (fun b hb=>h b (by simp[hb]))
def xA {kt} {agg} {ks} (hk:kD P kt=some (agg,ks)) {a} {A} (F:VR g a A) (o:agg=true->∃as,a=.agg as/\as.length=ks.length) (e:Bool):
  (Instr.checkKey e 10000 kt A).run P w=.ok () w:=by
 have b:∀{d:TypeDesc} {m:Nat} {t:TypeId} {V:Value} {w:World},P.underlying t=some d->(d=.bool\/(∃k,d=.int k)\/d=.string)->(Instr.checkKey e (m+1) t V).run P w=.ok () w:=by
  intro d m t V w c hd;rw[Instr.checkKey];simp only[Sem.run_bind,run_underlying c,Result.andThen_ok];rcases hd with rfl|⟨k,rfl⟩|rfl<;>(cases V<;>rfl)
 unfold kD at hk;split at hk;rename_i c;exact b c (.inl rfl);rename_i L c;exact b c (.inr (.inl ⟨_,rfl⟩));rename_i c;exact b c (.inr (.inr rfl));rename_i fs c;split at hk;rename_i n;simp only[yV2,zU2]at hk;obtain⟨s,h1,rfl,rfl⟩:=hk;obtain⟨as,rfl,hlen⟩:=o rfl;cases F with
 |@agg _ _ Cs hl hcell hv=>
  rw[Instr.checkKey];simp only[Sem.run_bind,run_underlying c,Result.andThen_ok];rw[<-Array.forIn_toList]
  have v:∀(l:aA Field) (off:Nat) (ks:aA CK),pL (fM P 1) P l off=some ks->∀f∈l,f.offset<off+ks.length:=by
   intro l
   induction l with
   |nil=>intro off ks h f hf;simp at hf
   |cons x l ih=>
    intro off ks h f hf;simp only[pL]at h;split at h;rename_i hc;split at h;rename_i J i G hi;split at h;rename_i H;split at h;rename_i K y;cases h;rcases zF2.1 hf with rfl|hf;rw[hc.1,aU3];omega;have:=ih _ _ y f hf;rw[aU3];omega;cases h;cases h;cases h;cases h
  have z:pL (fM P 1) P fs.toList 0=some s:=by
   rw[fM]at h1;simp only[c]at h1;split at h1;cases h1;exact h1
  have q:=v fs.toList 0 s z
  refine(congrArg (fun r=>Result.andThen r _) (Dx (P:=P) _ fs.toList w (fun f hf w=>by
   have h2:=yW2.1 n f hf;have B:f.offset<Cs.size:=by have:=q f hf;omega
   have D:∃d,P.underlying f.type=some d/\(d=.bool\/(∃k,d=.int k)\/d=.string):=by
    revert h2;split;rename_i j;intro _;exact⟨_,j,.inl rfl⟩;rename_i j;intro _;exact⟨_,j,.inr (.inl ⟨_,rfl⟩)⟩;rename_i j;intro _;exact⟨_,j,.inr (.inr rfl)⟩;intro h;cases h
   obtain⟨d,j,E⟩:=D;have C:dS P f.type=false:=by unfold dS;rw[j];rcases E with rfl|⟨k,rfl⟩|rfl<;>rfl
   have hp:(part f.type Cs f.offset).run P w=.ok Cs[f.offset] w:=bP1 (by rw[j];simp) C (by simp[B]);by_cases p:f.name= "_";simp[p];have u:=b (m:=9998) (V:=Cs[f.offset]) (w:=w) j E;simp[p,hp,u]))).trans ?_
  rfl
 cases hk;cases hk
def Hs {agg} {ks} {a} (h:keyOK agg ks a=true):agg=true->∃as,a=.agg as/\as.length=ks.length:=by
 rintro rfl;cases a<;>simp_all[keyOK]
def Xx {a b:ByteArray} (h:(a==b)=true):a=b:=by
 rw[beq_toListBytes,ByteArray.toList_eq,ByteArray.toList_eq]at h;exact ByteArray.ext (Array.toList_inj.mp (by simpa using h))
def Nn (a:ByteArray):(a==a)=true:=by rw[beq_toListBytes];simp
def No {c:CK} {x y:AV} {X Y:Value} (a:VR g x X) (hy:VR g y Y) (h:cellEq c x y=some true):X=Y/\∀n,Instr.sameBits n X Y=true:=by
 unfold cellEq at h;split at h;split at h;rename_i e;cases h1:a with
 |v _=>cases h2:hy with
  |v _=>
   simp only[yZ2,bH3]at h;subst e;subst h;exact⟨rfl,fun n=>by cases n<;>simp[Instr.sameBits]⟩
 cases h;cases h1:a with
 |v _=>cases h2:hy with
  |v _=>
   simp only[yZ2,bH3]at h;subst h;exact⟨rfl,fun n=>by cases n<;>simp[Instr.sameBits]⟩
 cases h1:a with
 |v _=>cases h2:hy with
  |v _=>
   simp only[yZ2]at h;have h:_=_:=Xx h;subst h;exact⟨rfl,fun n=>by cases n<;>simp[Instr.sameBits,Nn]⟩
 cases h
def rH:∀ks xs ys Xs Ys,TR g xs Xs->TR g ys Ys->cellsEq ks xs ys=some true->Xs=Ys/\∀n,(Xs.zip Ys).all (fun(x,y)=>Instr.sameBits n x y)=true
 |[],[],[],Xs,Ys,hx,hy,h=>by
  have h1:=hx.1;have h2:=hy.1
  cases Xs with
  |nil=>cases Ys with
   |nil=>exact⟨rfl,fun _=>rfl⟩
   |cons _ _=>simp at h2
  |cons _ _=>simp at h1
 |k::ks,x::xs,y::ys,Xs,Ys,hx,hy,h=>by
  have h1:=hx.1;have h2:=hy.1
  cases Xs with
  |nil=>simp at h1
  |cons X Xs=>cases Ys with
   |nil=>simp at h2
   |cons Y Ys=>
    simp only[cellsEq]at h
    split at h
    rename_i hc
    obtain⟨a,e2⟩:=No hx.head hy.head hc
    obtain⟨b,c⟩:=rH ks xs ys Xs Ys hx.tail hy.tail h
    subst a;subst b
    exact⟨rfl,fun n=>by simp only[List.zip_cons_cons,aR3,e2 n,c n,bT3]⟩
    cases h
    cases h
 |[],_::_,_,_,_,_,_,h=>by simp[cellsEq]at h
 |[],[],_::_,_,_,_,_,h=>by simp[cellsEq]at h
 |_::_,[],_,_,_,_,_,h=>by simp[cellsEq]at h
 |_::_,_::_,[],_,_,_,_,h=>by simp[cellsEq]at h
def Rx {agg} {ks} {a b} {A B} (e:VR g a A) (hb:VR g b B) (h:keyEq agg ks a b=some true):A=B/\∀n,Instr.sameBits (n+1) A B=true:=by
 unfold keyEq at h;split at h;split at h;split at h;cases e with
 |@agg _ _ Cs hl hcell hv=>
  cases hb with
  |@agg _ _ Ds hl2 hcell2 hv2=>
   obtain⟨c,e2⟩:=rH ks _ _ Cs.toList Ds.toList ⟨by simpa using hl,fun i x y a b=>hv i x y a (by simpa using b)⟩
     ⟨by simpa using hl2,fun i x y a b=>hv2 i x y a (by simpa using b)⟩ h
   have d:Cs=Ds:=by cases Cs;cases Ds;simpa using c
   refine⟨by rw[d],fun n=>?_⟩;simp only[Instr.sameBits,e2 n,d,beq_self_eq_true,cU3];rw[d]at e2;exact e2 n
 cases h;cases h;obtain⟨c,e2⟩:=rH ks _ _ [A] [B] (.cons e (.nil g)) (.cons hb (.nil g)) h;simp only[List.cons.injEq,and_true]at c;refine⟨c,fun n=>?_⟩;have:=e2 (n+1);simpa using this
def Ht (agg:Bool) (ks:aA CK) (k:AV) (es:aA (AV×AV)) (ents:aA MapEntry) (i:Nat):aB (Nat×AV)->aB (Nat×Value)->Prop
 |none,none=>True
 |some (j,x),some (j',y)=>j=j'/\i<=j/\∃(k':AV) (e:MapEntry),es[j-i]? =some (k',x)/\ents[j-i]? =some e/\y=e.val/\keyEq agg ks k k'=some true
 |_,_=>False
def Ht.cons {agg} {ks} {k} {es} {ents} {i} {r} {r'} {a} {e} (h:Ht agg ks k es ents (i+1) r r'):
  Ht agg ks k (a::es) (e::ents) i r r':=by
 match r,r',h with
 |none,none,h=>trivial
 |some (j,x),some (j',y),⟨h1,h2,k',e',h3,h4,h5,h6⟩=>
  have:j-i=(j-(i+1))+1:=by omega
  exact⟨h1,by omega,k',e',by rw[this];simpa using h3,by rw[this];simpa using h4,h5,h6⟩
def Aw {kt} {agg} {ks} (hk:kD P kt=some (agg,ks)) {k} {K} (hK:VR g k K):∀(es:aA (AV×AV)) (ents:aA MapEntry) (i:Nat) (r:aB (Nat×AV)),
  ents.length=es.length->(∀(i:Nat) (k x:AV) (e:MapEntry),es[i]? =some (k,x)->ents[i]? =some e->VR g k e.key)->findKey agg ks k es i=some r->
  ∃r',(Instr.findAsking kt K ents i).run P w=.ok r' w/\Ht agg ks k es ents i r r'
 |[],[],i,r,_,_,h=>by
  simp only[findKey,yZ2]at h
  subst h
  exact⟨none,by simp[Instr.findAsking],trivial⟩
 |[],_::_,_,_,hl,_,_=>by simp at hl
 |_::_,[],_,_,hl,_,_=>by simp at hl
 |(k',x)::es,e::ents,i,r,hl,hv,h=>by
  have c:=hv 0 k' x e rfl rfl
  simp only[findKey]at h
  split at h
  rename_i d
  cases h
  refine⟨some (i,e.val),?_,rfl,yX2 _,k',e,by simp,by simp,rfl,d⟩
  simp[Instr.findAsking,Hr hk hK c d]
  rename_i d
  obtain⟨r',h1,h2⟩:=Aw hk hK es ents (i+1) r (by simpa using hl) (fun j k x e a b=>hv (j+1) k x e (by simpa using a) (by simpa using b)) h
  exact⟨r',by simp[Instr.findAsking,Hr hk hK c d,h1],h2.cons⟩
  cases h
def xB {d} {c} (hd:(d=.bool/\c=.b)\/(∃q,d=.int q/\c=.i)\/(d=.string/\c=.s)) {k} {K} (hK:VR g k K):∀(es:aA (AV×AV)) (ents:aA MapEntry) (i:Nat) (r:aB (Nat×AV)),
  ents.length=es.length->(∀(i:Nat) (k x:AV) (e:MapEntry),es[i]? =some (k,x)->ents[i]? =some e->VR g k e.key)->findKey false [c] k es i=some r->
  ∃r',Instr.findNow d K ents i=some r'/\Ht false [c] k es ents i r r'
 |[],[],i,r,_,_,h=>by
  simp only[findKey,yZ2]at h
  subst h
  exact⟨none,by simp[Instr.findNow],trivial⟩
 |[],_::_,_,_,hl,_,_=>by simp at hl
 |_::_,[],_,_,hl,_,_=>by simp at hl
 |(k',x)::es,e::ents,i,r,hl,hv,h=>by
  have f:=hv 0 k' x e rfl rfl
  have hs:∀b,keyEq false [c] k k'=some b->Instr.sameNow d K e.key=some b:=by
   intro b hb;simp only[keyEq,zG2,aL3,cellsEq]at hb
   have l:cellEq c k k'=some b:=by
    cases hc:cellEq c k k' with
    |none=>simp[hc]at hb
    |some t=>cases t<;>simp[hc]at hb<;>simp[hb]
   clear hl hv h hb;have hb:=l;clear l;unfold cellEq at hb;split at hb;split at hb;rename_i n;subst n;have:=hK.ground;have h0:=f.ground;rcases hd with⟨_,h⟩|⟨q,rfl,_⟩|⟨_,h⟩
   cases h;rw[this,h0];simpa[Instr.sameNow]using hb;cases h;cases hb;have:=hK.ground;have h0:=f.ground;rcases hd with⟨rfl,_⟩|⟨q,_,h⟩|⟨_,h⟩
   rw[this,h0];simpa[Instr.sameNow]using hb;cases h;cases h;have:=hK.ground;have h0:=f.ground;rcases hd with⟨_,h⟩|⟨q,_,h⟩|⟨rfl,_⟩
   cases h;cases h;rw[this,h0];simpa[Instr.sameNow]using hb;cases hb
  simp only[findKey]at h;split at h;rename_i m;cases h;exact⟨some (i,e.val),by simp[Instr.findNow,hs _ m],rfl,yX2 _,k',e,by simp,by simp,rfl,m⟩;rename_i m;obtain⟨r',h1,h2⟩:=xB hd hK es ents (i+1) r (by simpa using hl) (fun j k x e a b=>hv (j+1) k x e (by simpa using a) (by simpa using b)) h;exact⟨r',by simp[Instr.findNow,hs _ m,h1],h2.cons⟩;cases h
def Dy {kt} {agg} {ks} (hk:kD P kt=some (agg,ks)) {k} {K} (hK:VR g k K) {es} {ents} {r}
  (hl:ents.length=es.length) (hv:∀(i:Nat) (k x:AV) (e:MapEntry),es[i]? =some (k,x)->ents[i]? =some e->VR g k e.key) (h:findKey agg ks k es 0=some r):
  ∃r',(Instr.findKey kt K ents).run P w=.ok r' w/\Ht agg ks k es ents 0 r r':=by
 have l:=hk;unfold kD at hk;split at hk;rename_i f;simp only[yV2,zU2]at hk;obtain⟨c,h1,rfl,rfl⟩:=hk;have a:c=[.b]:=by simp[fM,f]at h1;exact h1.symm
 subst a;obtain⟨r',h2,j⟩:=xB (d:=.bool) (.inl ⟨rfl,rfl⟩) hK es ents 0 r hl hv h;exact⟨r',by simp[Instr.findKey,run_underlying f,h2],j⟩;rename_i q f;simp only[yV2,zU2]at hk;obtain⟨c,h1,rfl,rfl⟩:=hk;have a:c=[.i]:=by simp[fM,f]at h1;exact h1.symm
 subst a;obtain⟨r',h2,j⟩:=xB (d:=.int q) (.inr (.inl ⟨_,rfl,rfl⟩)) hK es ents 0 r hl hv h;exact⟨r',by simp[Instr.findKey,run_underlying f,h2],j⟩;rename_i f;simp only[yV2,zU2]at hk;obtain⟨c,h1,rfl,rfl⟩:=hk;have a:c=[.s]:=by simp[fM,f]at h1;exact h1.symm
 subst a;obtain⟨r',h2,j⟩:=xB (d:=.string) (.inr (.inr ⟨rfl,rfl⟩)) hK es ents 0 r hl hv h;exact⟨r',by simp[Instr.findKey,run_underlying f,h2],j⟩;rename_i fs f;obtain⟨r',h2,j⟩:=Aw (w:=w) l hK es ents 0 r hl hv h;exact⟨r',(run_findKey_eq (P:=P) (w:=w) (k:=kt) (by simp[f]) K ents).trans h2,j⟩;cases hk
theorem Np {t} {z} (h:Jy P t=some z):∃i b,P.info? t=some i/\i.zero=some b/\∀g,VR g z b:=by
 unfold Jy at h;cases hi:P.info? t with
 |none=>simp[hi]at h
 |some i=>
  simp only[hi]at h;cases hz:i.zero with
  |none=>simp[hz]at h
  |some b=>
   simp only[hz]at h;refine⟨i,b,rfl,hz,fun g=>?_⟩;unfold AV.ofValue at h;split at h;rename_i cs;split at h;rename_i hc;cases h
   refine .agg (by simp) (fun i y hy=>mU (yW2.1 hc y (by
    rw[<-aY3]at hy;exact zL2.2 ⟨i,hy⟩))) (fun i x y a hy=>?_)
   rw[<-aY3]at hy;simp only[aJ3,hy,zW2,yZ2]at a;subst a;exact .v (yW2.1 hc y (zL2.2 ⟨i,hy⟩));cases h;rename_i cs;split at h;rename_i hc;cases h;have:cs=#[]:=by grind
   subst this;exact .tup (by simp) (fun i x y a=>by simp at a);cases h;split at h;rename_i hc;cases h;exact .v hc;cases h
def Dz {r} {es} {clock} (hb:w.heap[r]? =some (.map es clock)):(getObj r).run P w=.ok (.map es clock) w:=by
 simp[getObj,Sem.run,hb]
def Nq {r} {es} {clock} (o:Obj) (hb:w.heap[r]? =some (.map es clock)):(setObj r o).run P w=.ok () {w with heap:=w.heap.setIfInBounds r o}:=by
 simp[setObj,Sem.run,hb]
theorem Ry {r} {o o'} (hb:w.heap[r]? =some o):(w.heap.setIfInBounds r o')[r]? =some o'/\∀r',r'≠r->(w.heap.setIfInBounds r o')[r']? =w.heap[r']? :=by grind
def xK1 (g:Gh) (es:aA (AV×AV)) (ents:aA MapEntry):Prop:=
 ents.length=es.length/\∀(i:Nat) (k x:AV) (e:MapEntry),es[i]? =some (k,x)->ents[i]? =some e->VR g k e.key/\VR g x e.val
def VR.unstill {a} {A} (h:VR g.still a A):VR g a A:=h.mono ⟨fun _ _ h=>h,fun _ _ h=>by simp[Gh.still]at h⟩
def Rz {m} {M} {es} (h:entsOf L m=some es) (c:VR g m M) (l:HR P g L w) (o:WG g w):
  ∃ents:aA MapEntry,xK1 g es ents/\((M=.map none/\ents=[])\/∃r E clock,M=.map (some r)/\w.heap[r]? =some (.map E clock)/\E.toList=ents):=by
 unfold entsOf at h;split at h;cases h;exact⟨[],⟨rfl,fun i k x e h=>by simp at h⟩,.inl ⟨c.ground,rfl⟩⟩;rename_i id;split at h;rename_i es' n;cases h;obtain⟨loc,E,clock,h1,h2,d,f,j⟩:=l id _ n;cases c with
 |@map _ _ b loc' hi hp=>
  rw[h1]at hi;cases hi;have:=hp h2;subst this;exact⟨E.toList,⟨by simpa using f,fun i k x e a b=>j i k x e a (by simpa using b)⟩,.inr ⟨_,E,clock,rfl,d,rfl⟩⟩
 cases h;cases h;cases c with
 |@im _ _ b clock E hb hl hk hv=>
  exact⟨E.toList,⟨by simpa using hl,fun i k x e a b=>⟨(hk i k x e a (by simpa using b)).unstill,(hv i k x e a (by simpa using b)).unstill⟩⟩,.inr ⟨_,E,clock,rfl,o.still _ _ hb,rfl⟩⟩
 cases h
def Xy {t kt e} {x i} {ok agg} {ks} {z} (O:o.op=.lookup t x i ok) (J:P.underlying t=some (.map kt e)) (R:Jy P e=some z) (hk:kD P kt=some (agg,ks))
  (c:TR g xs [ρ x,ρ i]) (hd:doOp L lim n (.lookup agg ks z ok) xs=some out) (G:HR P g L w) (H:WG g w):gY P g lim w L n out (execOp ρ o):=by
 obtain⟨S,T,hi,F,D⟩:=Np R
 match xs,c with
 |[],c=>have:=c.1;simp at this
 |[_],c=>have:=c.1;simp at this
 |[m,k],c=>
  have N:=c.head;have h:=c.tail.head;simp only[doOp]at hd;split at hd;rename_i C;have d:=fun b=>xA (w:=w) hk h (Hs C) b
  have p:∀r,(∃es,entsOf L m=some es/\findKey agg ks k es 0=some r)->∃A,(Instr.lookup t (ρ x) (ρ i) ok).run P w=.ok (if ok then .tuple #[A,.bool r.isSome]else A) w/\
    VR g (match r with|some (_,a)=>a|none=>z) A:=by
   rintro r ⟨es,he,hf⟩;obtain⟨ents,u,K⟩:=Rz he N G H;obtain⟨r',h1,h2⟩:=Dy (w:=w) hk h u.1 (fun i k x e a b=>(u.2 i k x e a b).1) hf
   have B:(Instr.lookup t (ρ x) (ρ i) ok).run P w=((Instr.findKey kt (ρ i) ents).run P w).andThen fun a w=>(do
     let(v,b)<-match a with
      |some (_,v)=>pure (v,true)
      |none=>pure (<-zeroValue e,false)
     pure (if ok then .tuple #[v,.bool b]else v):Sem Value).run P w:=by
    rcases K with⟨q,s⟩|⟨r0,E,clock,q,s,h5⟩
    subst s;simp only[Instr.lookup,Sem.run_bind,run_underlying J,Result.andThen_ok,q,Sem.run_pure,d];rfl;subst h5;simp only[Instr.lookup,Sem.run_bind,run_underlying J,Result.andThen_ok,q,Dz s,Sem.run_pure,d];rfl
   rw[B,h1]
   match r,r',h2 with
   |none,none,_=>exact⟨T,by simp[mT hi F],D g⟩
   |some (j,a),some (j',y),⟨e1,e2,k',en,e3,e4,e5,e6⟩=>
    refine⟨y,by simp,?_⟩;rw[e5];exact(u.2 _ _ _ _ e3 e4).2
  have done:∀(r:aB (Nat×AV)) (a:AV),out={v:=if ok then .tup [a,.v (.bool r.isSome)]else a}->(a=match r with|some (_,a)=>a|none=>z)->(∃es,entsOf L m=some es/\findKey agg ks k es 0=some r)->gY P g lim w L n out (execOp ρ o):=by
   intro r a l M hr;obtain⟨A,h1,h2⟩:=p r hr;rw[<-M]at h2;subst l;refine bF (V:=if ok then .tuple #[A,.bool r.isSome]else A) ?_ ?_ G H;simp[execOp,O,h1];cases ok;simpa using h2;refine .tup (by simp) (fun i x y c hy=>?_)
   match i,c,hy with
   |0,c,hy=>
    simp at c hy;subst c;subst hy;exact h2
   |1,c,hy=>
    simp at c hy;subst c;subst hy;exact .v rfl
   |i+2,c,hy=>simp at c
  split at hd;rename_i es f;split at hd;rename_i j a hr;cases hd;exact done (some (j,a)) a rfl rfl ⟨es,f,hr⟩;rename_i hr;cases hd;exact done none z rfl rfl ⟨es,f,hr⟩;cases hd;cases hd;cases hd
 |_::_::_::_,c=>have:=c.1;simp at this
theorem bZ1 {t kt e} {m i x} {agg} {ks} (K:o.op=.mapUpdate t m i x) (M:P.underlying t=some (.map kt e)) (hk:kD P kt=some (agg,ks))
  (d:TR g xs [ρ m,ρ i,ρ x]) (hd:doOp L lim n (.mapup agg ks) xs=some out) (H:HR P g L w) (O:WG g w):gY P g lim w L n out (execOp ρ o):=by
 match xs,d with
 |[],d=>have:=d.1;simp at this
 |[_],d=>have:=d.1;simp at this
 |[_,_],d=>have:=d.1;simp at this
 |[m',k,v],d=>
  have B:=d.head;have f:=d.tail.head;have S:=d.tail.tail.head;simp only[doOp]at hd;split at hd;rename_i id;split at hd;rename_i es N;split at hd;rename_i hc;obtain⟨hl,F⟩:=hc;have r:=xA (w:=w) hk f (Hs F) false;obtain⟨loc,E,clock,h1,h2,l,A,C⟩:=H id _ N
  have J:ρ m=.map (some loc.b):=by
   revert B;intro B;generalize hq:ρ m=q at B;cases B with
   |@map _ _ b loc' hi hp=>
    rw[h1]at hi;cases hi;rw[hp h2]
  have cC:=fun o'=>Ry (o':=o') l
  have fin:∀(es':aA (AV×AV)) (E':Array MapEntry) (c:Nat),out={v:=.undef,up:=some (id,.map es')}->
    (execOp ρ o).run P w=.ok .skip {w with heap:=w.heap.setIfInBounds loc.b (.map E' c)}->E'.size=es'.length->
    (∀(i:Nat) (k x:AV) (e:MapEntry),es'[i]? =some (k,x)->E'[i]? =some e->VR g k e.key/\VR g x e.val)->gY P g lim w L n out (execOp ρ o):=by
   intro es' E' c u z G p;subst u
   refine wV (hnl:=fun R U=>by simp_all) (V:=undef) (nx:=.skip) (o:=.map E' c) (loc:=loc) (ver:=loc.ver) z (.inr ⟨rfl,rfl⟩) h1 hl (yX2 _) (cC _).1 (cC _).2 (by simp) rfl rfl rfl
    (fun g' _ _=>.undef g') (fun g' s D=>⟨loc,E',c,D,h2,(cC _).1,G,fun i k x e a b=>⟨(p i k x e a b).1.mono s,(p i k x e a b).2.mono s⟩⟩) H O
  split at hd;rename_i j a hf;cases hd;obtain⟨r',h,e2⟩:=Dy (w:=w) hk f (ents:=E.toList) (by simpa using A) (fun i k x e a b=>(C i k x e a (by simpa using b)).1) hf
  match r',h,e2 with
  |some (j',y),h,⟨q1,_,k',en,q2,q3,q4,q5⟩=>
   subst q1;simp only[Nat.sub_zero,aY3]at q2 q3;obtain⟨W,X⟩:=Rx f (C _ _ _ _ q2 q3).1 q5;have T:Instr.sameBits 10000 en.key (ρ i)=true:=by grind
   refine fin (es.set j (k,v)) (E.modify j fun e=>{e with key:=ρ i,val:=ρ x}) clock rfl ?_ (by simp[A]) ?_;simp[execOp,K,Instr.mapUpdate,run_underlying M,J,Dz l,r,h,q3,Instr.keyThatStays,T,Nq _ l]
   grind
  rename_i hf;cases hd;obtain⟨r',h,e2⟩:=Dy (w:=w) hk f (ents:=E.toList) (by simpa using A) (fun i k x e a b=>(C i k x e a (by simpa using b)).1) hf
  match r',h,e2 with
  |none,h,_=>
   refine fin (es++[(k,v)]) (E.push {key:=ρ i,val:=ρ x,born:=clock}) (clock+1) rfl ?_ (by simp[A]) ?_;simp[execOp,K,Instr.mapUpdate,run_underlying M,J,Dz l,r,h,Nq _ l]
   grind
  cases hd;cases hd;cases hd;cases hd
 |_::_::_::_::_,d=>have:=d.1;simp at this
end
end Go.Sim
namespace Go.Sim
variable {k:gC} {l:aA AV} {t ty:TypeId} {α:Type}
section
variable {P:Program} {g:Gh} {lim:Nat} {w:World} {L:Nat->Option AO} {n:Nat}
variable (ρ:Operand->Value) (o:Oper) {os:List Operand} {xs:List AV} {out:Out}
def Sa {f:FuncId}:doOp L lim n (.callF f) xs=none:=by simp[doOp]
def Sb:doOp L lim n .callV xs=none:=by simp[doOp]
def zK:doOp L lim n .fail xs=none:=by simp[doOp]
def tP1 {ρ:Operand->Value} {os:aA Operand} (h:TR g xs (os.map ρ)):xs.length=os.length:=by simpa using h.1
def Hu {a:Array α} {x y:α} (h:a.toList=[x,y]):a=#[x,y]:=by cases a;simp_all
def zL {a:Array α} {x:α} (h:a.toList=[x]):a=#[x]:=by cases a;simp_all
def Sc:gC->Bool
 |.len _|.cap|.clear .. =>true
 |_=>false
def Sd:gC->Bool
 |.append .. |.copy _=>true
 |_=>false
def tQ1 (h:(doOp L lim n k l).isSome=true) (hk:Sc k=true):∃a,l=[a]:=by
 cases k<;>simp only[Sc]at hk<;>(try cases hk)<;>(match l with
  |[a]=>exact⟨a,rfl⟩
  |[]=>simp[doOp]at h
  |_::_::_=>simp[doOp]at h)
def tR1 (h:(doOp L lim n k l).isSome=true) (hk:Sd k=true):∃a b,l=[a,b]:=by
 cases k<;>simp only[Sd]at hk<;>(try cases hk)<;>(match l with
  |[a,b]=>exact⟨a,b,rfl⟩
  |[]=>simp[doOp]at h
  |[_]=>simp[doOp]at h
  |_::_::_::_=>simp[doOp]at h)
def Nr {l:aA α} (h:l.length=1):∃a,l=[a]:=by
 match l,h with
 |[a],_=>exact⟨a,rfl⟩
def cA1 {l:aA α} (h:l.length=2):∃a b,l=[a,b]:=by
 match l,h with
 |[a,b],_=>exact⟨a,b,rfl⟩
def He {b:Builtin} {args:Array Operand} {B:Array TypeId} (E:o.op=.call {callee:=.builtin b,args:=args,argTypes:=B}) (hk:kE P b B.toList ty=some k) (f:TR g xs (args.toList.map ρ))
  (hd:doOp L lim n k xs=some out) (u:HR P g L w) (A:WG g w) (hn:g.ι n=none) (hl:lim<=n):gY P g lim w L n out (execOp ρ o):=by
 have hlen:=tP1 f;have H:(doOp L lim n k xs).isSome=true:=by rw[hd];rfl
 have one:Sc k=true->∃x,args=#[x]:=fun h=>by
  obtain⟨a,rfl⟩:=tQ1 H h;obtain⟨x,f⟩:=Nr (l:=args.toList) (by simpa using hlen.symm);exact⟨x,zL f⟩
 have U:Sd k=true->∃x y,args=#[x,y]:=fun h=>by
  obtain⟨a,b,rfl⟩:=tR1 H h;obtain⟨x,y,f⟩:=cA1 (l:=args.toList) (by simpa using hlen.symm);exact⟨x,y,Hu f⟩
 generalize d:B.toList=atl at hk;unfold kE at hk;split at hk
 ·
  rename_i t;have d:=zL d;split at hk<;>(try cases hk);rename_i e r;obtain⟨x,rfl⟩:=one rfl;exact Ru ρ o (by rw[E,d]) r (.inl ⟨rfl,_,rfl⟩) f hd u A;rename_i r;obtain⟨x,rfl⟩:=one rfl;exact Ru ρ o (by rw[E,d]) r (.inr (.inl ⟨rfl,rfl⟩)) f hd u A;rename_i r;obtain⟨x,rfl⟩:=one rfl;exact Ru ρ o (by rw[E,d]) r (.inr (.inr ⟨rfl,_,_,rfl⟩)) f hd u A
 ·
  rename_i s x;have d:=Hu d;split at hk;rename_i e r;split at hk;rename_i i z hi S;obtain⟨i',V,J,T,F,hg,D,X⟩:=mZ S;rw[hi]at J;cases J;split at hk;rename_i hb
  have C:∀zeros,k=.append e i.size i.bytes z zeros->(zeros=true->P.underlying x=some (.int .i64))->(zeros=false->(∃e',P.underlying x=some (.slice e'))\/P.underlying x=some .string)->
    gY P g lim w L n out (execOp ρ o):=by
   intro zeros O h1 h2;subst O;obtain⟨xo,yo,rfl⟩:=U rfl
   match xs,f with
   |[a,b],f=>
    simp only[doOp]at hd;split at hd;rename_i new c;split at hd;rename_i o' G
    have j:o'=out/\∀z id ver off len cap,out.v=.sl z id ver off len cap->len<=maxRoom:=by
     split at hd;rename_i z' id ver off len cap hv;split at hd;rename_i hc;cases hd;exact⟨rfl,fun z id ver off len cap h=>by rw[hv]at h;cases h;exact hc.1⟩;cases hd;rename_i hv;cases hd;exact⟨rfl,fun z id ver off len cap h=>absurd h (hv _ _ _ _ _ _)⟩
    obtain⟨rfl,j⟩:=j;have M:V.cells.size=i.size:=by rw[<-D,<-F];simp
    have K:∃news,zH P w x i V (ρ yo) zeros new.length news/\lE g i.size new news:=by
     cases zeros with
     |true=>
      simp only[appRows,zT2]at c;split at c;rename_i m N;split at c;rename_i hc;cases c;have hy:=f.tail.head
      obtain⟨q,rfl⟩:∃q,b=.v (.int q m):=by
       unfold intOf at N;split at N;cases N;exact⟨_,rfl⟩;cases N
      have W:=hy.ground;have:=Kc (P:=P) (w:=w) (g:=g) (i:=i) (h1 rfl) (by rw[F];exact hg) M (k:=q) (m:=m.toNat) (by have:=hc.2;simp only[maxRoom]at this ⊢;omega);rw[F]at this;have R:(m.toNat:Int)=m:=Int.toNat_of_nonneg hc.1;rw[R]at this;rw[W];simpa using this;cases c;cases c
     |false=>
      simp only[appRows,zG2,aL3]at c;exact Nh (h2 rfl) u A (by omega) f.tail.head c
    obtain⟨news,Y,Z⟩:=K;exact Xt (ty':=ty) ρ o (by rw[E,d]) r hi T M (by omega) hb f.head Y Z G j u A hn hl;cases hd;cases hd
   |[],f=>have:=f.1;simp at this
   |[_],f=>have:=f.1;simp at this
   |_::_::_::_,f=>have:=f.1;simp at this
  split at hk;rename_i p;cases hk;exact C true rfl (fun _=>p) (fun h=>by cases h);rename_i e' p;cases hk;exact C false rfl (fun h=>by cases h) (fun _=>.inl ⟨_,p⟩);rename_i p;cases hk;exact C false rfl (fun h=>by cases h) (fun _=>.inr p);cases hk;cases hk;cases hk;cases hk
 ·
  rename_i t;have d:=zL d;split at hk;rename_i e r;split at hk;rename_i z S;cases hk;obtain⟨x,rfl⟩:=one rfl;exact bY1 ρ o (by rw[E,d]) r S f hd u A;cases hk;cases hk
 cases hk;exact xI1 ρ o E f hd u A;cases hk;exact xJ1 ρ o E f hd u A;cases hk
def Hv {d:TypeDesc} (a:P.underlying t=some d) (hd:(match d with|.struct _|.array _ _=>true|_=>false)=true):dS P t=true:=by
 unfold dS;rw[a];cases d<;>simp_all
def vO (a:jZ P o.op o.type=some (k,os)) (l:TR g xs (os.map ρ)) (hd:doOp L lim n k xs=some out) (h:HR P g L w) (j:WG g w) (hn:g.ι n=none) (hl:lim<=n):
  gY P g lim w L n out (execOp ρ o):=by
 generalize hop:o.op=op at a;unfold jZ at a;split at a;cases a;exact bG1 ρ o (.inl hop) l hd h j;cases a;exact bG1 ρ o (.inr hop) l hd h j;cases a;exact jC1 ρ o hop l hd h j;cases a;exact jB1 ρ o hop l hd h j;split at a;rename_i i hi;cases a;exact tI1 ρ o hop hi l hd h j hn hl;cases a;simp only[yV2,zU2]at a;obtain⟨z,u,rfl,rfl⟩:=a;exact bH1 ρ o hop u l hd h j hn hl
 ·
  rename_i t parts;split at a;rename_i i hi;split at a;rename_i z u;split at a;rename_i hc;simp only[yS2]at hc;obtain⟨hg,s⟩:=hc;split at a;rename_i ps x;cases a;unfold bD1 at s;refine bX1 ρ o hop hi u hg ?_ x l hd ?_ ?_ ?_ h j;intro fs f;rw[f]at s;exact s;intro m e f;rw[f]at s;exact s;intro f;rw[f]at s;cases s;unfold dS;split at s;rfl;rfl;cases s;cases a;cases a;cases a;cases a
 ·
  split at a;rename_i e f;split at a;rename_i z u;split at a;rename_i hc;cases a;exact Rs ρ o hop f u hc l hd h j hn hl;cases a;cases a;cases a
 ·
  split at a;rename_i d i f hi;simp only[yZ2,zU2]at a;obtain⟨rfl,rfl⟩:=a;split at hd;rename_i r;exact bN1 ρ o hop (by rw[f];simp) r hi l hd h j;rename_i r;exact bM1 ρ o hop (by rw[f];simp) (by simpa using r) l hd h j;cases a
 split at a;rename_i i hi;cases a;exact bO1 ρ o hop hi l hd h j;cases a
 ·
  split at a;rename_i fs f;split at a;rename_i fd hf;split at a;rename_i i hi;split at a;rename_i h0;cases a;exact tJ1 ρ o hop f hf hi h0 l hd h j;cases a;cases a;cases a;cases a
 ·
  split at a;rename_i e f;split at a;rename_i A hi;split at a;rename_i h0;cases a;exact tK1 ρ o hop f hi h0 l hd h j;cases a;cases a;rename_i m e f;split at a;rename_i A hi;cases a;exact jE1 ρ o hop f hi l hd h j;cases a;cases a
 ·
  split at a;rename_i f;cases a;exact Xr ρ o hop f l hd h j;rename_i m e f;split at a;rename_i d A y hi;cases a;exact jF1 ρ o hop f (by rw[y];simp) hi l hd h j;cases a;cases a
 ·
  split at a;cases a;exact bR1 ρ o hop l hd h j;cases a;exact bR1 ρ o hop l hd h j;rename_i f;split at a;cases a;exact bS1 (neg:=false) ρ o hop rfl f l hd h j;cases a;exact bS1 (neg:=true) ρ o hop rfl f l hd h j;cases a;rename_i fs f;split at a;rename_i ks p;split at a;cases a;rename_i hg;have r:=Hv f (by rfl);split at a;cases a;exact Kb (neg:=false) ρ o hop rfl p r (by simpa using hg) l hd h j;cases a;exact Kb (neg:=true) ρ o hop rfl p r (by simpa using hg) l hd h j;cases a;cases a;rename_i m e f;split at a;rename_i ks p;split at a;cases a;rename_i hg;have r:=Hv f (by rfl);split at a;cases a;exact Kb (neg:=false) ρ o hop rfl p r (by simpa using hg) l hd h j;cases a;exact Kb (neg:=true) ρ o hop rfl p r (by simpa using hg) l hd h j;cases a;cases a;rename_i d _ _ _ _ _ f;split at a;rename_i kd hkd
  have hk:Kd kd d=true:=by
   split at hkd<;>cases hkd<;>rfl
  split at a;cases a;exact Nl (neg:=false) ρ o hop rfl f hk l hd h j;cases a;exact Nl (neg:=true) ρ o hop rfl f hk l hd h j;cases a;cases a;cases a
 cases a;exact xH1 ρ o hop l hd h j
 ·
  split at a;rename_i h1 h2;cases a;exact bT1 ρ o hop h1 h2 l hd h j;rename_i e h1 h2;split at a;rename_i C;split at a;cases a;exact tN1 ρ o hop h1 h2 C l hd h j;cases a;cases a;cases a
 ·
  split at a;cases a;exact jG1 ρ o hop l hd h j;cases a
 split at a;cases a;exact bV1 ρ o hop l hd h j hn hl;cases a
 ·
  split at a;rename_i e f;split at a;rename_i i z hi u;split at a;rename_i hb;cases a;exact jH1 ρ o hop f hi u hb l hd h j hn hl;cases a;cases a;cases a
 ·
  split at a;rename_i e f;split at a;rename_i i hi;split at a;rename_i hc;cases a;exact tO1 ρ o hop f hi hc.1 hc.2 l hd h j;cases a;cases a;cases a
 ·
  split at a;rename_i kt e f;split at a;rename_i z agg ks u p;cases a;exact Xy ρ o hop f u p l hd h j;cases a;cases a
 split at a;rename_i kt e f;split at a;rename_i agg ks p;cases a;exact bZ1 ρ o hop f p l hd h j;cases a;cases a;cases a;exact tM1 ρ o hop l hd h j
 ·
  rename_i c;obtain⟨callee,args,B⟩:=c;split at a;cases a;rw[Sa]at hd;cases hd;cases a;rw[Sb]at hd;cases hd;rename_i b q;simp only[yV2,zU2]at a;obtain⟨k',v,rfl,rfl⟩:=a;have q:callee=.builtin b:=q;subst q;exact He ρ o hop v l hd h j hn hl;cases a
 cases a
end
end Go.Sim
namespace Go.Sim
def Wf:aA fQ->Nat->Prop
 |[],_=>True
 |.mark::r,n=>Wf r n
 |.ob i _::r,n=>i<n/\Wf r i
def Wf.mono:∀{h} {n m},Wf h n->n<=m->Wf h m
 |[],_,_,_,_=>trivial
 |.mark::r,_,_,h,hm=>Wf.mono (h:=r) h hm
 |.ob i _::r,_,_,h,hm=>⟨aE3 h.1 hm,h.2⟩
def Wf.lt:∀{h} {n id} {o},Wf h n->look h id=some o->id<n
 |[],_,_,_,_,hl=>by cases hl
 |.mark::r,_,_,_,h,hl=>Wf.lt (h:=r) h hl
 |.ob i o::r,n,id,o',h,hl=>by
  simp only[look]at hl
  split at hl
  rename_i e;subst e;exact h.1
  exact Nat.lt_trans (Wf.lt (h:=r) h.2 hl) h.1
def look_upd:∀h id o j,look (upd h id o) j=if j=id/\(look h id).isSome then some o else look h j
 |[],id,o,j=>by simp[look,upd]
 |.mark::r,id,o,j=>look_upd r id o j
 |.ob i o'::r,id,o,j=>by
  by_cases h1:i=id
  subst h1
  simp only[upd,zT2,look]
  by_cases h2:i=j
  subst h2;simp
  have a:¬j=i:=fun e=>h2 e.symm
  simp[h2,a]
  simp only[upd,zB2 h1,look]
  by_cases h2:i=j
  subst h2;simp[h1]
  simp only[zB2 h2]
  exact look_upd r id o j
def Wf.upd:∀{h} {n} id o,Wf h n->Wf (Sim.upd h id o) n
 |[],_,_,_,_=>trivial
 |.mark::r,_,id,o,h=>Wf.upd (h:=r) id o h
 |.ob i o'::r,n,id,o,h=>by
  by_cases h1:i=id
  subst h1
  simp only[Sim.upd,zT2]
  exact⟨h.1,h.2⟩
  simp only[Sim.upd,zB2 h1]
  exact⟨h.1,Wf.upd (h:=r) id o h.2⟩
def Wf.pop:∀{h} {n},Wf h n->Wf (popMark h) n
 |[],_,_=>trivial
 |.mark::r,_,h=>h
 |.ob i o::r,n,h=>by
  have hr:=Wf.pop (h:=r) h.2
  cases o with
  |arr bx ty esz ver els=>
   cases bx
   exact⟨h.1,hr⟩
   exact hr.mono (aN3 h.1)
  |map es=>exact⟨h.1,hr⟩
  |loop=>exact⟨h.1,hr⟩
def Ns:∀{h} {n id} {o},Wf h n->look (popMark h) id=some o->look h id=some o
 |[],_,_,_,_,hl=>hl
 |.mark::r,_,_,_,_,hl=>hl
 |.ob i o'::r,n,id,o,h,hl=>by
  have ih:=fun hl=>Ns (h:=r) (id:=id) (o:=o) h.2 hl
  have drop:look (popMark r) id=some o->look (.ob i o'::r) id=some o:=fun hl=>by
   have h1:=ih hl
   have h2:=Wf.lt h.2 h1
   simp only[look]
   rw[zB2 (by omega)]
   exact h1
  have keep:look (.ob i o'::popMark r) id=some o->look (.ob i o'::r) id=some o:=fun hl=>by
   simp only[look]at hl ⊢
   split at hl
   rename_i e;rw[yY2 e];exact hl
   rename_i e;rw[zB2 e];exact ih hl
  cases o' with
  |arr bx ty esz ver els=>
   cases bx
   exact keep hl
   exact drop hl
  |map es=>exact keep hl
  |loop=>exact keep hl
def Wf.rm:∀{h} {n} id,Wf h n->Wf (hide.rm id h) n
 |[],_,_,_=>trivial
 |.mark::r,_,id,h=>Wf.rm (h:=r) id h
 |.ob i o::r,n,id,h=>by
  simp only[hide.rm]
  split
  exact h.2.mono (aN3 h.1)
  exact⟨h.1,Wf.rm (h:=r) id h.2⟩
def Ke:∀{h} {n id j} {o},Wf h n->look (hide.rm id h) j=some o->look h j=some o/\j≠id
 |[],_,_,_,_,_,hl=>by cases hl
 |.mark::r,_,_,_,_,h,hl=>Ke (h:=r) h hl
 |.ob i o'::r,n,id,j,o,h,hl=>by
  simp only[hide.rm]at hl
  split at hl
  rename_i e
  subst e
  have h2:=Wf.lt h.2 hl
  simp only[look]
  rw[zB2 (by omega)]
  exact⟨hl,by omega⟩
  rename_i e
  simp only[look]at hl ⊢
  split at hl
  rename_i e2;subst e2;rw[yY2 rfl];exact⟨hl,e⟩
  rename_i e2;rw[zB2 e2];exact Ke (h:=r) h.2 hl
def Wf.hide:∀a {h} {n},Wf h n->Wf (Sim.hide a h) n
 |[],_,_,h=>h
 |id::a,_,_,h=>Wf.hide a (h.rm id)
def zM:∀a {h} {n j} {o},Wf h n->look (hide a h) j=some o->look h j=some o/\j∉a
 |[],_,_,_,_,_,hl=>⟨hl,by simp⟩
 |id::a,h,n,j,o,hw,hl=>by
  obtain⟨h1,h2⟩:=zM a (hw.rm id) hl
  obtain⟨b,c⟩:=Ke hw h1
  exact⟨b,by simp[c,h2]⟩
end Go.Sim
namespace Go.Sim
def eG {α β} {f}:∀{l:aA α} {r:aA β},mapO f l=some r->r.length=l.length/\∀(i:Nat) (y:β),r[i]? =some y->∃x,l[i]? =some x/\f x=some y
 |[],r,h=>by
  simp only[mapO,yZ2]at h
  subst h
  exact⟨rfl,fun i y h=>by simp at h⟩
 |a::l,r,h=>by
  simp only[mapO]at h
  split at h
  rename_i b bs hb c
  cases h
  obtain⟨h1,h2⟩:=eG c
  refine⟨by simp[h1],fun i y hi=>?_⟩
  cases i with
  |zero=>simp at hi;subst hi;exact⟨a,rfl,hb⟩
  |succ i=>simp at hi;obtain⟨x,d,e⟩:=h2 i y hi;exact⟨x,by simpa using d,e⟩
  cases h
open Classical in
noncomputable def frz (g':Gh) (w':World) (n0:Nat) (ι0:Nat->aB Hb):Gh:=
 {G:=fun b=>if ∃id loc,n0<=id/\g'.ι id=some loc/\loc.b=b then w'.heap[b]? else g'.G b,ι:=ι0}
section
variable {P:Program} {g':Gh} {w':World} {n0:Nat} {ι0:Nat->Option Hb} {L:Nat->Option AO}
def xC (id:Nat) (loc:Hb) (h0:n0<=id) (hi:g'.ι id=some loc):(frz g' w' n0 ι0).G loc.b=w'.heap[loc.b]? :=by
 simp only[frz];rw[yY2 ⟨id,loc,h0,hi,rfl⟩]
def rF1 (c:WG g' w') (b:Nat) (o:Obj) (h:g'.G b=some o):(frz g' w' n0 ι0).G b=some o:=by
 simp only[frz];split;rename_i he;obtain⟨id,loc,_,h2,a⟩:=he;have:=c.out id loc h2;rw[a,h]at this;cases this;exact h
def rI (a:WG g' w'):g'.still.le (frz g' w' n0 ι0).still:=⟨fun b o h=>rF1 a b o h,fun id loc h=>by simp[Gh.still]at h⟩
def VR.ip_still {g} {cs} {X} (h:VR g (.ip cs) X):VR g.still (.ip cs) X:=by
 cases h with
 |ip hs hc hv=>exact .ip hs hc hv
def VR.is_still {g} {e} {els} {X} (h:VR g (.is e els) X):VR g.still (.is e els) X:=by
 cases h with
 |is hs hl hr hc hv=>exact .is hs hl hr hc hv
 |is0=>exact .is0
def rJ (D:HR P g' L w') (F:WG g' w'):∀(d:Nat) (x y:AV) (X:Value),VR g' x X->oB L n0 d x=some y->VR (frz g' w' n0 ι0).still y X
 |0,_,_,_,_,h=>by simp[oB]at h
 |d+1,x,y,X,k,h=>by
  have ih:=rJ D F d
  simp only[oB]at h
  split at h
  cases h
  cases k with
  |v h=>exact .v h
  cases h
  exact k.ip_still.mono (rI F)
  cases h
  exact k.is_still.mono (rI F)
  cases h
  cases k with
  |es=>exact .es
  rename_i esz id ver off len cap
  split at h
  rename_i bx ty e t els E
  split at h
  rename_i hc
  obtain⟨c1,rfl,c3⟩:=hc
  simp only[yV2]at h
  obtain⟨rows,r,rfl⟩:=h
  obtain⟨hlen,aG⟩:=eG r
  obtain⟨loc,cs,h1,h2,z,N,A,O,R,M,B⟩:=D id _ E
  have s:rows.length=len:=by rw[hlen];simp;omega
  cases k with
  |@sl _ _ _ _ _ _ _ loc' p c hi hver hlc hs hp=>
   rw[h1]at hi
   cases hi
   obtain⟨q1,q2,q3,q4,q5⟩:=hp z
   have C:(frz g' w' n0 ι0).still.G loc.b=some (.cells cs ty (0,0)):=(xC id loc c1 h1).trans A
   have l:∀(i:Nat) (row:aA AV),rows[i]? =some row->∃a,els[off+i]? =some a/\row.length=a.length/\∀(j:Nat) (x:AV),row[j]? =some x->∃g,a[j]? =some g/\oB L n0 d g=some x:=by
    intro i row hr;obtain⟨a,r1,r2⟩:=aG i row hr;obtain⟨r3,r4⟩:=eG r2;refine⟨a,?_,r3,r4⟩;rw[zR2]at r1;split at r1
    rwa [aI3]at r1
    cases r1
   have f:∀(i:Nat) (row:aA AV) (j:Nat) (x:AV),rows[i]? =some row->row[j]? =some x->∃y g,(frz g' w' n0 ι0).still.cell p (i*e+j)=some y/\isCell y=true/\VR g' g y/\oB L n0 d g=some x:=by
    intro i row j x hr k;obtain⟨a,r1,r2,r3⟩:=l i row hr;obtain⟨g,r4,r5⟩:=r3 j x k;obtain⟨y,H,J,K⟩:=B (off+i) a j g r1 r4;have S:i<len:=by rw[<-s];exact(yT2.1 hr).1
    have q:p=⟨loc.b,off*loc.esz,none⟩:=q2.resolve_left (by omega);refine⟨y,g,?_,J,K,r5⟩;subst q;simp only[Gh.cell,C,h2];rw[<-H];congr 1;rw[aX3];omega
   rw[<-s];refine .is hs (by omega) (fun i row hr=>?_) (fun i row j x hr k=>?_) (fun i row j x y hr k hy=>?_);obtain⟨a,r1,r2,_⟩:=l i row hr;rw[r2];exact M _ _ r1;obtain⟨y,g,m,e2,_,_⟩:=f i row j x hr k;exact⟨y,m,e2⟩;obtain⟨T,g,m,e2,u,w⟩:=f i row j x hr k;rw[hy]at m;cases m;exact ih g x y u w
  cases h;cases h;rename_i id ver e o;split at h;rename_i bx ty esz t els E;split at h;rename_i hc;obtain⟨c1,rfl⟩:=hc;split at h;rename_i row l;simp only[yV2]at h;obtain⟨cells,n,rfl⟩:=h;obtain⟨hlen,aG⟩:=eG n;obtain⟨loc,cs,h1,h2,z,N,A,O,R,M,B⟩:=D id _ E;cases k with
  |@ptr _ _ _ _ _ loc' p hi hver hp=>
   rw[h1]at hi;cases hi;have q:=hp z;subst q;have C:(frz g' w' n0 ι0).still.G loc.b=some (.cells cs ty (0,0)):=(xC id loc c1 h1).trans A
   have f:∀(j:Nat) (x:AV),cells[j]? =some x->∃y g,(frz g' w' n0 ι0).still.cell ⟨loc.b,e*loc.esz+o,none⟩ j=some y/\isCell y=true/\VR g' g y/\oB L n0 d g=some x:=by
    intro j x k;obtain⟨g,r1,r2⟩:=aG j x k;rw[aI3]at r1;obtain⟨y,H,J,K⟩:=B e row (o+j) g l r1;refine⟨y,g,?_,J,K,r2⟩;simp only[Gh.cell,C,h2];rw[<-H];congr 1;omega
   refine .ip rfl (fun j x k=>?_) (fun j x y k hy=>?_);obtain⟨y,g,m,e2,_,_⟩:=f j x k;exact⟨y,m,e2⟩;obtain⟨T,g,m,e2,u,w⟩:=f j x k;rw[hy]at m;cases m;exact ih g x y u w
  cases h;cases h;cases h;cases h
def Kf (c:HR P g' L w') (d:WG g' w') {x y} {X} (a:VR g' x X) (h:Rn L n0 x=some y):VR (frz g' w' n0 ι0).still y X:=by
 unfold Rn at h;split at h;simp only[yV2]at h;obtain⟨cs,b,rfl⟩:=h;obtain⟨hlen,aG⟩:=eG b;cases a with
 |@agg _ _ Cs hl hc hv=>
  refine .agg (by rw[hlen];exact hl) hc (fun i x y a hy=>?_);obtain⟨e,r1,r2⟩:=aG i x a;exact rJ c d 6 e x y (hv i e y r1 hy) r2
 exact rJ c d 6 x y X a h
def cB1 (c:HR P g' L w') (d:WG g' w') (hι:∀id,id<n0->g'.ι id=ι0 id) {x y} {X} (b:VR g' x X) (h:fzC L n0 x=some y):VR (frz g' w' n0 ι0) y X:=by
 have up:∀{y:AV} {X:Value},VR (frz g' w' n0 ι0).still y X->VR (frz g' w' n0 ι0) y X:=fun h=>h.unstill;unfold fzC at h;split at h;rename_i esz id ver off len cap;split at h;rename_i a;cases h;cases b with
 |sl hi hver hlen hs hp=>exact .sl ((hι id a).symm.trans hi) hver hlen hs hp
 exact up (rJ c d 6 _ y X b h);rename_i id ver e o;split at h;rename_i a;cases h;cases b with
 |ptr hi hver hp=>exact .ptr ((hι id a).symm.trans hi) hver hp
 exact up (rJ c d 6 _ y X b h);rename_i id;split at h;rename_i a;cases h;cases b with
 |map hi hp=>exact .map ((hι id a).symm.trans hi) hp
 exact up (rJ c d 6 _ y X b h);simp only[yV2]at h;obtain⟨cs,f,rfl⟩:=h;obtain⟨hlen,aG⟩:=eG f;cases b with
 |fn h1 h2 v1 v2=>exact .fn h1 (by rw[hlen];exact h2) (fun i x y h=>by simp at h) (fun i x y b hy=>by
   obtain⟨g,r1,r2⟩:=aG i x b;exact up (rJ c d 6 g x y (v2 i g y r1 hy) r2))
 exact up (rJ c d 6 _ y X b h)
def cC1 (c:HR P g' L w') (d:WG g' w') (hι:∀id,id<n0->g'.ι id=ι0 id) {x y} {X} (a:VR g' x X) (h:fz1 L n0 x=some y):VR (frz g' w' n0 ι0) y X:=by
 unfold fz1 at h;split at h;simp only[yV2]at h;obtain⟨cs,b,rfl⟩:=h;obtain⟨hlen,aG⟩:=eG b;cases a with
 |@agg _ _ Cs hl hc hv=>
  refine .agg (by rw[hlen];exact hl) hc (fun i x y a hy=>?_);obtain⟨e,r1,r2⟩:=aG i x a;exact cB1 c d hι (hv i e y r1 hy) r2
 exact cB1 c d hι a h
theorem rG1 (g:HR P g' L w') (j:WG g' w') (hι:∀id,id<n0->g'.ι id=ι0 id) {x y} {X} (d:VR g' x X) (h:fz L n0 x=some y):VR (frz g' w' n0 ι0) y X:=by
 unfold fz at h;split at h;simp only[yV2]at h;obtain⟨cs,l,rfl⟩:=h;obtain⟨hlen,aG⟩:=eG l;cases d with
 |@tup _ _ Cs hl hv=>
  refine .tup (by rw[hlen];exact hl) (fun i x y d hy=>?_);obtain⟨c,r1,r2⟩:=aG i x d;exact cC1 g j hι (hv i c y r1 hy) r2
 rename_i id;split at h;rename_i n;cases h;cases d with
 |map hi hp=>exact .map ((hι id n).symm.trans hi) hp
 rename_i s;split at h;rename_i es r;simp only[yV2]at h;obtain⟨es',m,rfl⟩:=h;obtain⟨hlen,aG⟩:=eG m;obtain⟨loc,ents,clock,h1,h2,p,q,o⟩:=g id _ r;have a:∀(i:Nat) (k x:AV),es'[i]? =some (k,x)->∃f c,es[i]? =some (f,c)/\Rn L n0 f=some k/\Rn L n0 c=some x:=by grind
 cases d with
 |@map _ _ b loc' hi hp=>
  rw[h1]at hi;cases hi;rw[hp h2];refine .im (ents:=ents) (clock:=clock) ((xC id loc (by omega) h1).trans p) (by rw[hlen];exact q) (fun i k x e hi he=>?_) (fun i k x e hi he=>?_);obtain⟨f,c,r1,r2,r3⟩:=a i k x hi;exact Kf g j (o i f c e r1 he).1 r2;obtain⟨f,c,r1,r2,r3⟩:=a i k x hi;exact Kf g j (o i f c e r1 he).2 r3
 cases h;exact cC1 g j hι d h
end
end Go.Sim
namespace Go.Sim
variable {L:Nat->aB AO} {P:Program} {g:Gh} {tmps:Array Value} {v:AV} {w:World}
structure mJ (P:Program) (g:Gh) (w:World) (s:Hp):Prop where
 H:HR P g (look s.h) w
 W:WG g w
 dom:∀id,g.ι id≠none->id<s.n
 wf:Wf s.h s.n
def FW (r:aB Nat):Fence:={fn:=fun _=>True,depth:=none,alive:=false,round:=r}
def Ea {r} {n} {P} {f} {args} {w} {R} (h:CallsIn (FW none) n P f args w R):CallsIn (FW r) n P f args w R:=h
def jK (base:Nat) (g:Gh) (w:World):aA Deferred->Prop
 |[]=>True
 |d::a=>(∃r,d.target=.collected r/\base<=r/\w.heap[r]? =some (.deferred (some []))/\(∀id loc,g.ι id=some loc->loc.b≠r)/\g.G r=none/\∀c∈a,c.target≠.collected r)/\jK base g w a
def jK.ext {base lim} {g g'} {w w'} (b:sS lim g g' w w'):∀{c},jK base g w c->jK base g' w' c
 |[],_=>trivial
 |d::c,⟨⟨r,h1,h2,h3,h4,h5,h6⟩,h7⟩=>by
  have e:r<w.heap.size:=(zV2.1 h3).1
  refine⟨⟨r,h1,h2,(b.keep r e (fun id loc _ hi=>h4 id loc hi)).trans h3,fun id loc hi=>?_,?_,h6⟩,jK.ext b h7⟩
  rcases b.fresh id loc hi with⟨a,f,h⟩|k
  rw[<-h];exact h4 id a f
  omega
  cases hG:g'.G r with
  |none=>rfl
  |some o=>
   rcases b.gfresh r o hG with k|k
   rw[h5]at k;cases k
   omega
def mJ.shut {P} {g} {w} {s} (a:mJ P g w s) {r} {o} (c:∀id loc,g.ι id=some loc->loc.b≠r) (d:g.G r=none):
  mJ P g {w with heap:=w.heap.setIfInBounds r o} s where
 H:=fun id ao f=>(a.H id ao f).mono (.refl g) rfl (fun loc hl=>by simp[Ne.symm (c id loc hl)])
 W:=⟨fun b o' h=>by
   have:r≠b:=fun e=>by subst e;rw[d]at h;cases h
   simp[this]
   exact a.W.still b o' h,fun id loc h=>by simpa using a.W.lt id loc h,a.W.out,a.W.inj⟩
 dom:=a.dom
 wf:=a.wf
def jK.shut {base} {g} {w} {r} {o}:∀{a},jK base g w a->(∀b∈a,b.target≠.collected r)->jK base g {w with heap:=w.heap.setIfInBounds r o} a
 |[],_,_=>trivial
 |d::a,⟨⟨r',h1,h2,h3,h4,h5,h6⟩,h7⟩,hd=>by
  have f:r≠r':=fun e=>hd d (by simp) (by rw[h1,e])
  exact⟨⟨r',h1,h2,by simpa[f]using h3,h4,h5,h6⟩,jK.shut h7 (fun b c=>hd b (by simp[c]))⟩
def cD1 {lim} {g g'} {w w'} (a:sS lim g g' w w') {r} {o} (hr:w.heap.size<=r):sS lim g g' w {w' with heap:=w'.heap.setIfInBounds r o}:=
 ⟨a.le,by simpa using a.size,fun b hb hn=>by
  have:r≠b:=by omega
  simp[this]
  exact a.keep b hb hn,a.fresh,a.old,a.os,a.tape,a.output,a.gfresh,fun b R h=>by
  have c:b<w.heap.size:=(zV2.1 h).1
  obtain⟨R',h'⟩:=a.loops b R h
  have:r≠b:=by omega
  exact⟨R',by simp[this];exact h'⟩⟩
def Nt {P:Program} {α:Type} {w:World} {f:α->Sem Value}:∀(l:aA α) (vs:aA Value),l.length=vs.length->(∀(i:Nat) (x:α) (v:Value),l[i]? =some x->vs[i]? =some v->(f x).run P w=.ok v w)->(l.mapM f).run P w=.ok vs w
 |[],[],_,_=>by simp
 |[],_::_,h,_=>by simp at h
 |_::_,[],h,_=>by simp at h
 |x::l,v::vs,h,hx=>by
  have h0:=hx 0 x v rfl rfl
  have ih:=Nt (P:=P) (w:=w) (f:=f) l vs (by simpa using h) (fun i x v a b=>hx (i+1) x v (by simpa using a) (by simpa using b))
  simp[cM3,h0,ih]
def jI1 (l:HR P g L w) (m:WG g w) {t:aA AV} (n:TR g t tmps.toList) {k:ResultVar} {r:RV} (hc:compRes P k=some r) (hv:readRes L t r=some v):
  ∃V,(match k with
   |.tmp t=>pure (tmps.getD t undef)
   |.cell a t=>do loadVar t (<-asAddr (tmps.getD a undef)):Sem Value).run P w=.ok V w/\VR g v V:=by
 have get:∀i x,t[i]? =some x->∃X,tmps.getD i undef=X/\VR g x X:=by
  intro i x q;have e:i<tmps.size:=by have:=n.1;have:=(yT2.1 q).1;simp at *;omega
  refine⟨tmps[i],by simp[e],n.2 i x _ q (by simp[e])⟩
 cases k with
 |tmp i=>
  simp only[compRes,yZ2]at hc;subst hc;obtain⟨X,h1,h2⟩:=get i v hv;exact⟨X,by simp[h1],h2⟩
 |cell a ty=>
  simp only[compRes]at hc;split at hc;rename_i d i o hi;simp only[yZ2]at hc;subst hc;by_cases f:dS P ty=true;simp only[f,zT2,readRes]at hv;split at hv;rename_i p hp;simp only[yV2]at hv;obtain⟨out,j,rfl⟩:=hv;obtain⟨X,h1,h2⟩:=get a p hp;obtain⟨vs,s,ys,rfl,h,hl,b,c⟩:=bL1 h2 j l m;refine⟨.agg ys.toArray,?_,c⟩;simp[h1,h,asAddr,vI (by rw[o];simp) f hi hl b];cases hv;simp only[f,aL3,zG2,readRes]at hv;split at hv;rename_i p hp;simp only[yV2]at hv;obtain⟨out,j,rfl⟩:=hv;obtain⟨X,h1,h2⟩:=get a p hp;obtain⟨v',s,y,rfl,h,b,c⟩:=bK1 h2 j l m;refine⟨y,?_,c⟩;simp[h1,h,asAddr,vH (by rw[o];simp) (by simpa using f) b];cases hv;cases hc
def Nu (E:HR P g L w) (F:WG g w) {t:aA AV} (G:TR g t tmps.toList) {fn:Func} {u:aA RV} (hc:mapO (compRes P) fn.results.toList=some u) (hv:results L t u=some v):
  ∃V,(Go.results fn tmps).run P w=.ok V w/\VR g v V:=by
 obtain⟨hl,hg⟩:=eG hc;unfold Sim.results at hv
 have parts:∀(vs:aA AV),mapO (readRes L t) u=some vs->∃Vs:aA Value,Vs.length=vs.length/\(∀(i:Nat) (v:AV) (V:Value),vs[i]? =some v->Vs[i]? =some V->VR g v V)/\
   (fn.results.mapM fun
    |.tmp t=>pure (tmps.getD t undef)
    |.cell a t=>do loadVar t (<-asAddr (tmps.getD a undef)):Sem (Array Value)).run P w=.ok Vs.toArray w:=by
  intro vs b;obtain⟨p,o⟩:=eG b
  have c:∀(i:Nat) (v:AV),vs[i]? =some v->∃d V,fn.results.toList[i]? =some d/\VR g v V/\(match d with
   |.tmp t=>pure (tmps.getD t undef)
   |.cell a t=>do loadVar t (<-asAddr (tmps.getD a undef)):Sem Value).run P w=.ok V w:=by
   intro i v hi;obtain⟨r,h1,h2⟩:=o i v hi;obtain⟨d,m,B⟩:=hg i r h1;obtain⟨V,C,D⟩:=jI1 E F G B h2;exact⟨d,V,m,D,C⟩
  have A:∃Vs:aA Value,Vs.length=vs.length/\∀(i:Nat) (v:AV) (V:Value),vs[i]? =some v->Vs[i]? =some V->∃d,fn.results.toList[i]? =some d/\VR g v V/\(match d with
   |.tmp t=>pure (tmps.getD t undef)
   |.cell a t=>do loadVar t (<-asAddr (tmps.getD a undef)):Sem Value).run P w=.ok V w:=by
   refine⟨(List.range vs.length).pmap (fun i (hi:i<vs.length)=>Classical.choose (cE3 (c i vs[i] (by simp[hi])))) (fun i hi=>by simpa using hi),by simp,fun i v V hi f=>?_⟩;simp only[List.getElem?_pmap,Option.pmap_eq_some_iff]at f;obtain⟨j,J,n,rfl⟩:=f;have k:i<vs.length:=(yT2.1 hi).1;rw[cF3 k]at n;cases n;have e:vs[i]=v:=by simpa[k]using hi
   have h:=cE3 (cE3 (c i vs[i] (by simp[k])));refine⟨_,h.1,?_,h.2.2⟩;rw[<-e];exact h.2.1
  obtain⟨Vs,c1,c2⟩:=A;have hlen:Vs.length=fn.results.toList.length:=by rw[c1,p,hl]
  refine⟨Vs,c1,fun i v V hi f=>(c2 i v V hi f).elim (fun _ h=>h.2.1),?_⟩;rw[Array.mapM_eq_mapM_toList];simp only[Sem.run_bind,map_eq_pure_bind]
  rw[Nt (P:=P) (w:=w) fn.results.toList Vs hlen.symm (fun i x V s f=>by
   have hi:i<vs.length:=by rw[<-c1];exact(yT2.1 f).1
   obtain⟨d,z,_,H⟩:=c2 i vs[i] V (by simp[hi]) f;rw[s]at z;cases z;exact H)]
  simp
 split at hv;rename_i v' b;cases hv;obtain⟨Vs,h1,h2,m⟩:=parts _ b;obtain⟨V,rfl⟩:=Nr (l:=Vs) (by simpa using h1);refine⟨V,?_,h2 0 _ V rfl rfl⟩;unfold Go.results;refine(Sem.run_bind ..).trans ((congrArg (fun r=>Result.andThen r _) m).trans ?_);rfl;rename_i vs q b;cases hv;obtain⟨Vs,h1,h2,m⟩:=parts _ b;refine⟨.tuple Vs.toArray,?_,.tup (by simp[h1]) (fun i x y s hy=>h2 i x y s (by simpa using hy))⟩;unfold Go.results;refine(Sem.run_bind ..).trans ((congrArg (fun r=>Result.andThen r _) m).trans ?_);simp only[Result.andThen_ok]
 have:¬Vs.toArray.size=1:=by
  intro e;have e2:vs.length=1:=by rw[<-h1];simpa using e
  match vs,e2 with
  |[v],_=>exact q v rfl
 rw[dif_neg this];rfl;cases hv
end Go.Sim
namespace Go.Sim
section
variable {P:Program} {g':Gh} {w':World} {ι0:Nat->Option Hb} {L:Nat->Option AO}
def cE1 (s:HR P g' L w') (t:WG g' w'):∀(d:Nat) (x y:AV) (X:Value),VR g' x X->Bu L d x=some y->VR (frz g' w' 0 ι0).still y X
 |0,_,_,_,_,h=>by simp[Bu]at h
 |d+1,x,y,X,f,h=>by
  have ih:=cE1 s t d
  have cJ:oB L 0 6 x=some y->VR (frz g' w' 0 ι0).still y X:=fun h=>rJ s t 6 x y X f h
  simp only[Bu]at h
  split at h
  split at h
  rename_i a b A hb
  cases h
  obtain⟨S,r⟩:=eG A
  obtain⟨T,e2⟩:=eG hb
  cases f with
  |fn h1 h2 v1 v2=>
   refine .fn (by rw[S];exact h1) (by rw[T];exact h2) (fun i x y f hy=>?_) (fun i x y f hy=>?_)
   obtain⟨c,r1,r2⟩:=r i x f
   exact ih c x y (v1 i c y r1 hy) r2
   obtain⟨c,r1,r2⟩:=e2 i x f
   exact ih c x y (v2 i c y r1 hy) r2
  cases h
  simp only[yV2]at h
  obtain⟨cs,B,rfl⟩:=h
  obtain⟨hlen,aG⟩:=eG B
  cases f with
  |@agg _ _ Cs hl hc hv=>
   refine .agg (by rw[hlen];exact hl) hc (fun i x y f hy=>?_)
   obtain⟨c,r1,r2⟩:=aG i x f
   exact ih c x y (hv i c y r1 hy) r2
  cases h
  cases f with
  |im hb hl hk hv=>exact(VR.im (g:=g') hb hl hk hv|>fun h=>(by cases h with|im hb hl hk hv=>exact VR.im hb hl hk hv:VR g'.still _ _)).mono (rI t)
  rename_i id
  split at h
  rename_i es z
  simp only[yV2]at h
  obtain⟨es',C,rfl⟩:=h
  obtain⟨hlen,aG⟩:=eG C
  obtain⟨loc,ents,clock,h1,h2,w,E,v⟩:=s id _ z
  have m:∀(i:Nat) (k x:AV),es'[i]? =some (k,x)->∃q c,es[i]? =some (q,c)/\Rn L 0 q=some k/\Rn L 0 c=some x:=by
   intro i k x hi;obtain⟨⟨q,c⟩,r1,r2⟩:=aG i (k,x) hi;simp only at r2;split at r2;rename_i a b A hb;cases r2;exact⟨q,c,r1,A,hb⟩;cases r2
  cases f with
  |@map _ _ b loc' hi hp=>
   rw[h1]at hi;cases hi;rw[hp h2];refine .im (ents:=ents) (clock:=clock) ((xC id loc (aB3 _) h1).trans w) (by rw[hlen];exact E) (fun i k x e hi he=>?_) (fun i k x e hi he=>?_);obtain⟨q,c,r1,r2,r3⟩:=m i k x hi;exact Kf s t (v i q c e r1 he).1 r2;obtain⟨q,c,r1,r2,r3⟩:=m i k x hi;exact Kf s t (v i q c e r1 he).2 r3
  cases h;rename_i id ver e o;split at h;rename_i bx ty esz F els z;split at h;rename_i hc;subst hc;split at h;rename_i row u;simp only[yV2]at h;obtain⟨cells,n,rfl⟩:=h;obtain⟨hlen,aG⟩:=eG n;obtain⟨loc,cs,h1,h2,w,E,v,U,V,W,K⟩:=s id _ z;cases f with
  |@ptr _ _ _ _ _ loc' p hi hver hp=>
   rw[h1]at hi;cases hi;have D:=hp w;subst D;have M:(frz g' w' 0 ι0).still.G loc.b=some (.cells cs ty (0,0)):=(xC id loc (aB3 _) h1).trans v
   have l:∀(j:Nat) (x:AV),cells[j]? =some x->∃y c,(frz g' w' 0 ι0).still.cell ⟨loc.b,e*loc.esz+o,none⟩ j=some y/\isCell y=true/\VR g' c y/\Bu L d c=some x:=by
    intro j x f;obtain⟨c,r1,r2⟩:=aG j x f;rw[aI3]at r1;obtain⟨y,N,O,R⟩:=K e row (o+j) c u r1;refine⟨y,c,?_,O,R,r2⟩;simp only[Gh.cell,M,h2];rw[<-N];congr 1;omega
   refine .ip rfl (fun j x f=>?_) (fun j x y f hy=>?_);obtain⟨y,c,r,e2,_,_⟩:=l j x f;exact⟨y,r,e2⟩;obtain⟨Y,c,r,e2,H,J⟩:=l j x f;rw[hy]at r;cases r;exact ih c x y H J
  cases h;cases h;cases h;exact cJ h
def Kg {g g2}:∀{d} {x} {X},gnd d x=true->VR g x X->VR g2 x X
 |0,_,_,h,_=>by simp[gnd]at h
 |d+1,x,X,h,a=>by
  cases a with
  |v hg=>exact .v hg
  |agg hl hc hv=>
   simp only[gnd,yW2]at h
   exact .agg hl hc (fun i x y a hy=>Kg (h x (zC2 a)) (hv i x y a hy))
  |tup hl hv=>
   simp only[gnd,yW2]at h
   exact .tup hl (fun i x y a hy=>Kg (h x (zC2 a)) (hv i x y a hy))
  |_=>simp[gnd]at h
end
end Go.Sim
namespace Go.Sim
def Ex.toExit:Ex->Exit
 |.normal=>.normal
 |.exit id=>.exit id
 |.ret=>.ret
structure Ax (P:Program) (base lim:Nat) (g:Gh) (w:World) (s:Hp) (t:List AV) (s':Hp) (g':Gh) (a':Act) (w':World):Prop where
 t:TR g' t a'.tmps.toList
 inv:mJ P g' w' s'
 ext:sS lim g g' w w'
 n:s.n<=s'.n
 marks:jK base g' w' a'.defers
def Eb (P:Program) (base lim:Nat) (g:Gh) (w:World) (s:Hp) (e:Ex) (a:St):Exit->Act->World->Prop:=
 fun e' a' w'=>e'=e.toExit/\∃g',Ax P base lim g w s a.t a.s g' a' w'
def pM (r:aB Nat) (w:World):Prop:=∀b,r=some b->∃R:Loop,w.heap[b]? =some (Obj.loop R)
def pM.none (w:World):pM none w:=fun b h=>by cases h
def pM.ext {r} {lim} {g g'} {w w'} (h:pM r w) (a:sS lim g g' w w'):pM r w':=fun b hb=>by
 obtain⟨R,h1⟩:=h b hb
 exact a.loops b R h1
def pW (P:Program) (ex:Nat->Bool->IC->St->aB (Ex×St)):Prop:=
 ∀(lim:Nat) (rd:Bool) (c:IC) (σ:St) (e:Ex) (b:St),ex lim rd c σ=some (e,b)->∀code:Code,comp P code=some c->∀r:aB Nat,rd=r.isSome->
  ∀(g:Gh) (a:Act) (w:World) (n base:Nat),pM r w->TR g σ.t a.tmps.toList->mJ P g w σ.s->lim<=σ.s.n->base<=w.heap.size->jK base g w a.defers->
   code.wpIn (FW r) n P (Eb P base lim g w σ.s e b) a w
section
variable {P:Program} {T:jW} {ex:Nat->Bool->IC->St->Option (Ex×St)} {lim n:Nat} {g:Gh} {w:World}
def zN {r} (h:w.heap[r]? =some (.deferred (some []))):(Instr.takeDeferred r).run P w=.ok [] {w with heap:=w.heap.setIfInBounds r (.deferred none)}:=by
 simp[Instr.takeDeferred,getObj,setObj,Sem.run,h]
def Hw {fn} {tmps} {t} {rs} {v} {s} {g0} {w0} {g'} {F} {R} (c:TR g' t tmps.toList)
  (hc:mapO (compRes P) fn.results.toList=some rs) (hv:results (look s.h) t rs=some v)
  (b:∀V w',VR g' v V->mJ P g' w' s->sS lim g0 g' w0 w'->R (.returned V) w'):
  ∀a w',jK w0.heap.size g' w' a->mJ P g' w' s->sS lim g0 g' w0 w'->LeavesInM F n P fn tmps R a .returning w'
 |[],w',hm,hI,hE=>by
  obtain⟨V,h1,h2⟩:=Nu hI.H hI.W c hc hv
  exact⟨V,h1,b V w' h2 hI hE⟩
 |d::a,w',⟨⟨r,h1,h2,h3,h4,h5,h6⟩,h7⟩,hI,hE=>by
  refine⟨by simp,.inl ⟨r,_,h1,zN h3,?_⟩⟩
  exact Hw c hc hv b a _ (h7.shut h6) (hI.shut h4 h5) (cD1 hE h2)
def Xz (g:Gh) (m:Nat):TR g (List.replicate m .undef) (List.replicate m undef):=by
 refine⟨by simp,fun i x y a hy=>?_⟩;simp only[bW3]at a hy;split at a;cases a;rename_i hi;rw[yY2 hi]at hy;cases hy;exact .undef g;cases a
def TR.app {t t'} {v v'} (h:TR g t v) (h':TR g t' v'):TR g (t++t') (v++v'):=by
 refine⟨by simp[h.1,h'.1],fun i x y a hy=>?_⟩;rw[aV3]at a hy;rw[<-h.1]at hy;split at a;rename_i hi;rw[yY2 hi]at hy;exact h.2 i x y a hy;rename_i hi;rw[zB2 hi]at hy;exact h'.2 _ x y a hy
def lP (P:Program) (lim:Nat) (g:Gh) (w:World) (s:Hp) (v:AV) (s':Hp):Ending->World->Prop:=
 fun e w'=>∃V g',e=.returned V/\VR g' v V/\mJ P g' w' s'/\sS lim g g' w w'/\s.n<=s'.n
def nR (P:Program) (f:FuncId) (args:aA AV) (v:AV):Prop:=∀{g:Gh} {w:World} {s:Hp} {n:Nat} {Args:Array Value},TR g args Args.toList->mJ P g w s->CallsIn (FW none) n P f Args w (lP P s.n g w s v s)
structure jT (P:Program) (T:jW):Prop where
 fns:∀f ifn,T f=some ifn->∃fn,P.funcs[f]? =some fn/\nH P fn ifn.pure ifn.frz=some ifn
 memo:∀f args v,T.memo f args=some v->nR P f args v
theorem Cc (i:pW P ex) {f} {fn} {ifn} {pure frz} (hf:P.funcs[f]? =some fn) (hc:nH P fn pure frz=some ifn) {args} {Args} {s s'} {v}
  (h:body ex lim ifn args s=some (v,s')) (p:TR g args Args.toList) (r:mJ P g w s) (hl:lim<=s.n):CallsIn (FW none) n P f Args w (lP P lim g w s v s'):=by
 unfold nH at hc;split at hc;cases hc;rename_i c hb;split at hc;rename_i ic u j m;split at hc;rename_i k;cases hc;unfold body at h;simp only at h
 have key:∀e σ,ex lim false ic {t:=args++List.replicate (fn.ntmps-args.length) .undef,s:=s}=some (e,σ)->(∀id,e≠.exit id)->(results (look σ.s.h) σ.t u).map (fun v=>(v,σ.s))=some (v,s')->
   CallsIn (FW none) n P f Args w (lP P lim g w s v s'):=by
  intro e σ he l a;simp only[yV2,zU2]at a;obtain⟨v',a,rfl,rfl⟩:=a;have o:Args.size=args.length:=by have:=p.1;simpa using this.symm
  refine callsIn_of_wp_marks hf hb trivial ?_;refine wpIn_mono (i lim false ic _ e σ he c j none rfl g {tmps:=Args++Array.replicate (fn.ntmps-Args.size) undef,defers:=[]} w n w.heap.size (.none w) ?_ r hl (yX2 _) trivial) ?_;have:(Args++Array.replicate (fn.ntmps-Args.size) undef).toList=Args.toList++List.replicate (fn.ntmps-args.length) undef:=by simp[o]
  simp only[this];exact p.app (Xz g _);rintro e' a' w' ⟨rfl,g',b⟩;have d:=Hw (n:=n) (F:=FW none) (R:=lP P lim g w s v' σ.s) (s:=σ.s) (g0:=g) (w0:=w) b.t m a (fun V w' h1 h2 q=>⟨V,g',rfl,h1,h2,q,b.n⟩) a'.defers w' b.marks b.inv b.ext;cases e with
  |normal=>exact d
  |ret=>exact d
  |exit id=>exact absurd rfl (l id)
 split at h;cases h
 grind
 cases h;cases hc;cases hc
theorem Hx {n0} {g'} {w'} {s s'} {v v'} {V} (c:mJ P g w s) (a:mJ P g' w' s') (t:VR g' v V) (m:fz (look s'.h) n0 v=some v') (hι:∀id,id<n0->g'.ι id=g.ι id)
  (d:∀b,b<w.heap.size->w'.heap[b]? =w.heap[b]?) (r:∀b o,g.G b=some o->g'.G b=some o) (i:∀b o,g'.G b=some o->g.G b=some o\/w.heap.size<=b)
  (e:∀id loc,n0<=id->g'.ι id=some loc->w.heap.size<=loc.b) (q:w.heap.size<=w'.heap.size) (p:w'.os=w.os) (f:w'.tape=w.tape) (l:w'.output=w.output):
  lP P s.n g w s v' s (.returned V) w':=by
 have j:g.le (frz g' w' n0 g.ι):=⟨fun b o h=>rF1 a.W b o (r b o h),fun id loc h=>⟨loc,h,yX2 _,fun _=>rfl⟩⟩
 have e:∀b,(∃id loc,n0<=id/\g'.ι id=some loc/\loc.b=b)->w.heap.size<=b:=by grind
 refine⟨V,frz g' w' n0 g.ι,rfl,rG1 a.H a.W hι t m,⟨?_,⟨?_,?_,?_,?_⟩,c.dom,c.wf⟩,⟨j,q,?_,?_,fun _ _=>rfl,p,f,l,?_,fun b R h=>⟨R,(d b (zV2.1 h).1).trans h⟩⟩,yX2 _⟩;intro id ao u;exact(c.H id ao u).mono j rfl (fun loc hl=>d _ (c.W.lt id loc hl));intro b o h;simp only[frz]at h;split at h;exact h;exact a.W.still b o h;intro id loc h;have:=c.W.lt id loc h;omega;intro id loc h;have h:g.ι id=some loc:=h;have x:=c.W.lt id loc h;simp only[frz];rw[zB2 (fun he=>by have:=e _ he;omega)];cases hG':g'.G loc.b with
 |none=>rfl
 |some o=>
  rcases i _ _ hG' with k|k;rw[c.W.out id loc h]at k;cases k;omega
 exact c.W.inj
 grind
 intro id loc h;exact .inl ⟨loc,h,rfl⟩;intro b o h;simp only[frz]at h;split at h
 grind
 exact i b o h
def Vd (j:pW P ex) {f} {fn} {ifn} {pure frz} (hf:P.funcs[f]? =some fn) (hc:nH P fn pure frz=some ifn) {args} {Args} {s s'} {v v'}
  (h:body ex s.n ifn args s=some (v,s')) (l:fz (look s'.h) s.n v=some v') (p:TR g args Args.toList) (d:mJ P g w s):CallsIn (FW none) n P f Args w (lP P s.n g w s v' s):=by
 refine CallsIn.mono (Cc j hf hc h p d (yX2 _)) ?_;rintro e w' ⟨V,g',rfl,o,i,a,hn⟩
 refine Hx d i o l (fun id c=>a.old id c) (fun b hb=>a.keep b hb (fun id loc c hi=>by
  have:=d.dom id (by rw[hi];simp);omega)) a.le.G a.gfresh (fun id loc h1 h2=>?_) a.size a.os a.tape a.output
 rcases a.fresh id loc h2 with⟨m,q,r⟩|k;have:=d.dom id (by rw[q];simp);omega;exact k
def lW:∀{d} {x} {X},closed d x=true->VR g x X->VR g.still x X
 |0,_,_,h,_=>by simp[closed]at h
 |d+1,x,X,h,a=>by
  cases a with
  |v hg=>exact .v hg
  |ip hs hc hv=>exact .ip hs hc hv
  |is hs hl hr hc hv=>exact .is hs hl hr hc hv
  |is0=>exact .is0
  |es=>exact .es
  |im hb hl hk hv=>exact .im hb hl hk hv
  |fn h1 h2 v1 v2=>
   simp only[closed,yS2,yW2]at h
   exact .fn h1 h2 (fun i x y a hy=>lW (h.1 x (zC2 a)) (v1 i x y a hy)) (fun i x y a hy=>lW (h.2 x (zC2 a)) (v2 i x y a hy))
  |agg hl hc hv=>
   simp only[closed,yW2]at h
   exact .agg hl hc (fun i x y a hy=>lW (h x (zC2 a)) (hv i x y a hy))
  |tup hl hv=>
   simp only[closed,yW2]at h
   exact .tup hl (fun i x y a hy=>lW (h x (zC2 a)) (hv i x y a hy))
  |ptr=>simp[closed]at h
  |sl=>simp[closed]at h
  |map=>simp[closed]at h
  |yield=>simp[closed]at h
def zO (m:pW P ex) (r:jT P T) {f} {ifn} (hf:T f=some ifn) {args} {Args} {s} {v'} (l:args.all (closed 4)=true)
  (h:runP T ex f ifn args=some v') (p:TR g args Args.toList) (c:mJ P g w s):CallsIn (FW none) n P f Args w (lP P s.n g w s v' s):=by
 unfold runP at h;split at h;rename_i v A;cases h;exact r.memo _ _ _ A p c;split at h;rename_i v s' hb;obtain⟨fn,hf,hc⟩:=r.fns f ifn hf;have q:TR g.still args Args.toList:=⟨p.1,fun i x y t hy=>lW (yW2.1 l x (zC2 t)) (p.2 i x y t hy)⟩
 have j:mJ P g.still w {h:=[],n:=0}:=⟨fun id ao h=>by simp[look]at h,⟨c.W.still,fun id loc h=>by simp[Gh.still]at h,fun id loc h=>by simp[Gh.still]at h,fun id id' loc loc' h=>by simp[Gh.still]at h⟩,fun id h=>by simp[Gh.still]at h,trivial⟩
 refine CallsIn.mono (Cc m hf hc hb q j (yX2 _)) ?_;rintro e w' ⟨V,g',rfl,z,d,a,hn⟩;refine Hx c d z h (fun id o=>by omega) (fun b hb=>a.keep b hb (fun id loc o hi=>by simp[Gh.still]at hi)) a.le.G a.gfresh (fun id loc h1 h2=>?_) a.size a.os a.tape a.output;rcases a.fresh id loc h2 with⟨u,B,C⟩|k;simp[Gh.still]at B;exact k;cases h
def Hy (r:pW P ex) (B:jT P T) {f} {ifn} (hf:T f=some ifn) {args as} {Args} {s} {v} (t:mapO (Bu (look s.h) 6) args=some as)
  (h:runP T ex f ifn as=some v) (hg:gnd 4 v=true) (C:TR g args Args.toList) (c:mJ P g w s):CallsIn (FW none) n P f Args w (lP P s.n g w s v s):=by
 let p:Gh:=Sim.frz g w 0 (fun _=>none)
 have m:TR p as Args.toList:=by
  obtain⟨h1,h2⟩:=eG t;refine⟨by rw[h1];exact C.1,fun i x y A hy=>?_⟩;obtain⟨D,r1,r2⟩:=h2 i x A;exact cE1 (ι0:=fun _=>none) c.H c.W 6 D x y (C.2 i D y r1 hy) r2
 have k:mJ P p w {h:=[],n:=0}:=by
  refine⟨fun id ao h=>by simp[look]at h,⟨fun b o h=>?_,fun id loc h=>(by cases h),fun id loc h=>(by cases h),fun id id' loc loc' h=>(by cases h)⟩,fun id h=>absurd rfl h,trivial⟩;simp only[p,Sim.frz]at h;split at h;exact h;exact c.W.still b o h
 have fin:∀e w' x s',lP P 0 p w {h:=[],n:=0} x s' e w'->(∀V g',VR g' x V->HR P g' (look s'.h) w'->WG g' w'->VR g v V)->lP P s.n g w s v s e w':=by
  rintro e w' x s' ⟨V,g',rfl,l,j,d,hn⟩ A;have a:∀b,b<w.heap.size->w'.heap[b]? =w.heap[b]? :=fun b hb=>d.keep b hb (fun id loc u hi=>(by cases hi));have z:∀b o,g.G b=some o->b<w.heap.size:=fun b o h=>(zV2.1 (c.W.still b o h)).1;refine⟨V,g,rfl,A V g' l j.H j.W,⟨fun id ao J=>(c.H id ao J).mono (.refl g) rfl (fun loc hl=>a _ (c.W.lt id loc hl)),⟨fun b o h=>?_,fun id loc h=>?_,c.W.out,c.W.inj⟩,c.dom,c.wf⟩,⟨.refl g,d.size,fun b hb _=>a b hb,fun id loc h=>.inl ⟨loc,h,rfl⟩,fun _ _=>rfl,d.os,d.tape,d.output,fun _ _ h=>.inl h,fun b R h=>⟨R,(a b (zV2.1 h).1).trans h⟩⟩,yX2 _⟩;rw[a b (z b o h)];exact c.W.still b o h;have:=c.W.lt id loc h;have:=d.size;omega
 unfold runP at h;split at h;rename_i v1 K;cases h;exact CallsIn.mono (B.memo _ _ _ K m k) (fun e w' q=>fin e w' _ _ q (fun V g' l _ _=>Kg hg l));split at h;rename_i x s' hb;obtain⟨fn,hf,hc⟩:=B.fns f ifn hf;exact CallsIn.mono (Cc r hf hc hb m k (yX2 _)) (fun e w' q=>fin e w' _ _ q (fun V g' l E F=>Kg hg (rG1 (ι0:=g'.ι) (n0:=0) E F (fun id u=>by omega) l h)));cases h
def lP.mono {lim'} {s s'} {v} (hl:lim<=lim') {e} {w'} (h:lP P lim' g w s v s' e w'):lP P lim g w s v s' e w':=by
 obtain⟨V,g',h1,h2,a,b,c⟩:=h;exact⟨V,g',h1,h2,a,b.mono hl,c⟩
def xD (b:pW P ex) (i:jT P T) {f} {args} {Args} {s s'} {v} (h:callF T ex lim f args s=some (v,s')) (d:TR g args Args.toList) (c:mJ P g w s)
  (hl:lim<=s.n):CallsIn (FW none) n P f Args w (lP P lim g w s v s'):=by
 unfold callF at h;split at h;cases h;rename_i ifn a;obtain⟨fn,hf,hc⟩:=i.fns f ifn a;split at h;split at h;rename_i j;simp only[yV2,zU2]at h;obtain⟨v1,hr,rfl,rfl⟩:=h;exact CallsIn.mono (zO b i a j hr d c) (fun e w' h=>h.mono hl);split at h;split at h;rename_i as k;split at h;rename_i m hb;split at h;rename_i hg;cases h;exact CallsIn.mono (Hy b i a k hb hg d c) (fun e w' h=>h.mono hl);cases h;cases h;cases h;split at h;rename_i m s0 hb;simp only[yV2,zU2]at h;obtain⟨v1,l,rfl,rfl⟩:=h;exact CallsIn.mono (Vd b hf hc hb l d c) (fun e w' h=>h.mono hl);cases h;exact Cc b hf hc h d c hl
def Ec (b:pW P ex) (d:jT P T) {f} {ifn} (a:T f=some ifn) (hp:ifn.pure=true) {args} {Args} {s s'} {v} (h:callF T ex lim f args s=some (v,s')) (k:TR g args Args.toList) (c:mJ P g w s):
  s'=s/\CallsIn (FW none) n P f Args w (lP P s.n g w s v s):=by
 unfold callF at h;rw[a]at h;simp only[hp,zT2]at h;obtain⟨fn,hf,hc⟩:=d.fns f ifn a;split at h;rename_i e;simp only[yV2,zU2]at h;obtain⟨v1,hr,rfl,rfl⟩:=h;exact⟨rfl,zO b d a e hr k c⟩;split at h;split at h;rename_i as i;split at h;rename_i l hb;split at h;rename_i hg;cases h;exact⟨rfl,Hy b d a i hb hg k c⟩;cases h;cases h;cases h;split at h;rename_i l s0 hb;simp only[yV2,zU2]at h;obtain⟨v1,j,rfl,rfl⟩:=h;exact⟨rfl,Vd b hf hc hb j k c⟩;cases h
end
end Go.Sim
namespace Go.Sim
def cF1 (k:Nat):rsv (k+1)=rsv k+1048576:=bD3 _ _
def tS1 {a b} (h:a<=b):rsv a<=rsv b:=aH3 _ h
def vP {α:Type} {f:α->α->Bool} (hf:∀a b,f a b=true->a=b):∀{l r},Hm f l r=true->l=r
 |[],[],_=>rfl
 |[],_::_,h=>by simp[Hm]at h
 |_::_,[],h=>by simp[Hm]at h
 |a::l,b::r,h=>by
  simp only[Hm,yS2]at h
  rw[hf a b h.1,vP hf h.2]
theorem tT1 {x y} (h:eqV x y=true):x=y:=by
 unfold eqV at h;split at h;rw[eq_of_beq h]
 grind
 rename_i a b;have:=eq_of_beq h;congr 1;cases a;cases b;simp only at this;congr 1;exact Array.toList_inj.1 this;rfl;rfl;rfl;rfl;rfl;cases h
def xE:∀d x y,wU d x y=true->x=y
 |0,_,_,h=>by simp[wU]at h
 |d+1,x,y,h=>by
  have ih:=xE d
  have c:∀{l r},Hm (wU d) l r=true->l=r:=fun h=>vP ih h
  unfold wU at h
  have e:∀{a b},Nat.beq a b=true->a=b:=fun h=>zM2 h
  split at h
  rw[tT1 h]
  rw[c h]
  simp only[yS2]at h
  rw[e h.1,vP (fun _ _ h=>c h) h.2]
  simp only[yS2]at h
  rw[e h.1.1.1,e h.1.1.2,e h.1.2,e h.2]
  simp only[yS2,zD2]at h
  rw[e h.1.1.1.1.1,e h.1.1.1.1.2,e h.1.1.1.2,e h.1.1.2,e h.1.2,h.2]
  rfl
  rw[e h]
  simp only[yS2]at h
  rw[e h.1.1,c h.1.2,c h.2]
  rw[c h]
  rw[c h]
  cases h
def jJ1 {x y:AO} (h:tG1 x y=true):x=y:=by
 unfold tG1 at h;split at h;simp only[yS2,bH3]at h;have c:∀{a b},Nat.beq a b=true->a=b:=fun h=>zM2 h;rw[h.1.1.1.1,c h.1.1.1.2,c h.1.1.2,c h.1.2,vP (fun _ _ h=>vP (xE 12) h) h.2]
 rw[vP (fun p q h=>by
  simp only[yS2]at h;exact Prod.ext (xE 12 _ _ h.1) (xE 12 _ _ h.2)) h]
 cases h
def changed_spec {L}:∀{h} {w},changed L h=some w->
  (∀id ao,look h id=some ao->id∉w.map (·.1)->L id=some ao)/\(∀e∈w,L e.1=some e.2)
 |[],w,h=>by
  simp only[changed,yZ2]at h
  subst h
  exact⟨fun id ao h=>(by cases h),fun e he=>(by simp at he)⟩
 |.mark::r,w,h=>changed_spec (h:=r) h
 |.ob i o::r,w,h=>by
  simp only[changed]at h
  split at h
  rename_i o' l hi hl
  obtain⟨h1,h2⟩:=changed_spec hl
  split at h
  rename_i a
  cases h
  have:o=o':=by
   rcases Bool.or_eq_true_iff.1 a with e|e;exact jJ1 e;exact @of_decide_eq_true _ (Classical.propDecidable _) e
  subst this;refine⟨fun id ao hk hn=>?_,h2⟩;simp only[look]at hk;split at hk;rename_i e;subst e;cases hk;exact hi;exact h1 id ao hk hn;cases h;refine⟨fun id ao hk hn=>?_,fun e he=>?_⟩;simp only[look]at hk;split at hk;rename_i e;subst e;simp at hn;exact h1 id ao hk (by simp at hn ⊢;exact hn.2);rcases zF2.1 he with rfl|he;exact hi;exact h2 e he;cases h
def changed_mem {L}:∀{h} {w} {n},Wf h n->changed L h=some w->∀e∈w,e.1<n/\(look h e.1).isSome=true
 |[],w,n,_,h=>by
  simp only[changed,yZ2]at h
  subst h
  intro e he;simp at he
 |.mark::r,w,n,hw,h=>changed_mem (h:=r) hw h
 |.ob i o::r,w,n,hw,h=>by
  simp only[changed]at h
  split at h
  rename_i o' l hi hl
  have h2:=changed_mem hw.2 hl
  have up:∀e∈l,e.1<n/\(look (.ob i o::r) e.1).isSome=true:=fun e he=>by
   obtain⟨a,b⟩:=h2 e he
   refine⟨Nat.lt_trans a hw.1,?_⟩
   simp only[look]
   split
   rfl
   exact b
  split at h
  cases h;exact up
  cases h
  intro e he
  rcases zF2.1 he with rfl|he
  exact⟨hw.1,by simp[look]⟩
  exact up e he
  cases h
def look_updAll:∀w h id ao,look (updAll w h) id=some ao->(look h id=some ao/\id∉w.map (·.1))\/(id,ao)∈w
 |[],h,id,ao,hl=>.inl ⟨hl,by simp⟩
 |(i,o)::w,h,id,ao,hl=>by
  simp only[updAll]at hl
  rcases look_updAll w _ id ao hl with⟨h1,h2⟩|h1
  rw[look_upd]at h1
  split at h1
  rename_i hc
  cases h1
  exact .inr (by rw[hc.1];simp)
  rename_i hc
  by_cases e:id=i
  subst e
  have:(look h id).isSome=true:=by rw[h1];rfl
  exact absurd ⟨rfl,this⟩ hc
  exact .inl ⟨h1,by simp only[bQ3,zF2,bR3];exact⟨e,h2⟩⟩
  exact .inr (aC3 _ h1)
def look_updAll_ne:∀w h id,id∉w.map (·.1)->look (updAll w h) id=look h id
 |[],h,id,_=>rfl
 |(i,o)::w,h,id,hn=>by
  simp only[bQ3,zF2,bR3]at hn
  simp only[updAll]
  rw[look_updAll_ne w _ id hn.2,look_upd,zB2 (fun hc=>hn.1 hc.1)]
def Wf.updAll:∀w {h} {n},Wf h n->Wf (Sim.updAll w h) n
 |[],_,_,h=>h
 |(i,o)::w,_,_,h=>Wf.updAll w (h.upd i o)
def eK {n} {r}:∀{h} {id} {ao},look (newEnts n h++r) id=some ao->(n<=id/\look h id=some ao/\.ob id ao∈newEnts n h)\/look r id=some ao
 |[],id,ao,hl=>.inr hl
 |.mark::h,id,ao,hl=>.inr hl
 |.ob i o::h,id,ao,hl=>by
  simp only[newEnts]at hl ⊢
  split at hl
  rename_i hn
  rw[yY2 hn]
  simp only[bF3,look]at hl ⊢
  split at hl
  rename_i e
  subst e
  cases hl
  exact .inl ⟨hn,by rw[yY2 rfl],by simp⟩
  rename_i e
  rcases eK hl with⟨h1,h2,a⟩|h1
  exact .inl ⟨h1,by rw[zB2 e];exact h2,by simp[a]⟩
  exact .inr h1
  exact .inr hl
def Wf.new {n} {r} (hr:Wf r n):∀{h} {m},Wf h m->n<=m->Wf (newEnts n h++r) m
 |[],m,_,hm=>hr.mono hm
 |.mark::h,m,_,hm=>hr.mono hm
 |.ob i o::h,m,hw,hm=>by
  simp only[newEnts]
  split
  rename_i hn
  exact⟨hw.1,Wf.new hr hw.2 hn⟩
  exact hr.mono hm
def vQ:∀{h} {id j},j≠id->look (hide.rm id h) j=look h j
 |[],_,_,_=>rfl
 |.mark::r,id,j,hn=>vQ (h:=r) hn
 |.ob i o'::r,id,j,hn=>by
  simp only[hide.rm]
  split
  rename_i e
  subst e
  simp only[look]
  rw[zB2 (fun e=>hn e.symm)]
  simp only[look]
  split
  rfl
  exact vQ hn
def xF:∀a {h} {j},j∉a->look (hide a h) j=look h j
 |[],_,_,_=>rfl
 |id::a,h,j,hn=>by
  simp only[zF2,bR3]at hn
  simp only[hide]
  rw[xF a hn.2,vQ hn.1]
def nB (a:aA Nat) (n:Nat):Nat->Bool:=fun id=>Nat.blt id n&& !a.contains id
def xG (a:aA Nat) (n n':Nat):Nat->Bool:=fun id=>nB a n id||(Nat.ble n id&&Nat.blt id n')
def Ed {n} {r} {q}:∀{h} {m},Wf h m->∀{id} {ao},look (newOK q n h++r) id=some ao->(n<=id/\look h id=some ao/\eR q ao=true)\/look r id=some ao
 |[],_,_,id,ao,hl=>.inr hl
 |.mark::h,_,_,id,ao,hl=>.inr hl
 |.ob i o::h,m,hw,id,ao,hl=>by
  have ih:=fun h1=>Ed (r:=r) (q:=q) (n:=n) (h:=h) hw.2 (id:=id) (ao:=ao) h1
  have up:(n<=id/\look h id=some ao/\eR q ao=true)->(n<=id/\look (.ob i o::h) id=some ao/\eR q ao=true):=fun⟨h1,h2,a⟩=>by
   have:=hw.2.lt h2
   refine⟨h1,?_,a⟩
   simp only[look]
   rw[zB2 (by omega)]
   exact h2
  unfold newOK at hl ih
  simp only[newEnts]at hl
  split at hl
  rename_i hn
  rw[List.filter_cons]at hl
  cases hq:eR q o with
  |false=>
   simp only[hq,zG2,aL3]at hl
   exact(ih hl).imp_left up
  |true=>
   simp only[hq,zT2,bF3,look]at hl
   split at hl
   rename_i e
   subst e
   cases hl
   exact .inl ⟨hn,by simp[look],hq⟩
   exact(ih hl).imp_left up
  exact .inr hl
def look_newOK_lt {n} {r} {q}:∀{h} {id},id<n->look (newOK q n h++r) id=look r id
 |[],id,hl=>rfl
 |.mark::h,id,hl=>rfl
 |.ob i o::h,id,hl=>by
  have ih:=look_newOK_lt (r:=r) (q:=q) (h:=h) hl
  unfold newOK at ih ⊢
  simp only[newEnts]
  split
  rename_i hn
  rw[List.filter_cons]
  cases hq:eR q o with
  |false=>simp only[hq,zG2,aL3];exact ih
  |true=>
   simp only[hq,zT2,bF3,look]
   rw[zB2 (by omega)]
   exact ih
  rfl
def Wf.newOK {n} {r} {q} (hr:Wf r n):∀{h} {m},Wf h m->n<=m->Wf (Sim.newOK q n h++r) m
 |[],m,_,hm=>hr.mono hm
 |.mark::h,m,_,hm=>hr.mono hm
 |.ob i o::h,m,hw,hm=>by
  unfold Sim.newOK
  simp only[newEnts]
  split
  rename_i hn
  have ih:=Wf.newOK (q:=q) hr hw.2 hn
  unfold Sim.newOK at ih
  rw[List.filter_cons]
  cases hq:eR q o with
  |false=>simp only[hq,zG2,aL3];exact ih.mono (aN3 hw.1)
  |true=>simp only[hq,zT2,bF3];exact⟨hw.1,ih⟩
  exact hr.mono hm
def vR:aA fQ->aA Nat
 |[]=>[]
 |.mark::r=>vR r
 |.ob i _::r=>i::vR r
def Hz:∀a r,hide a (.mark::r)=.mark::hide a r
 |[],_=>rfl
 |id::a,r=>by
  show hide a (hide.rm id (.mark::r))=_
  show hide a (.mark::hide.rm id r)=_
  rw[Hz a]
  rfl
def Ee:∀a,hide a []=[]
 |[]=>rfl
 |_::a=>Ee a
def Cd {R} {id} (a:R.contains id=false):∀h:aA fQ,hide.rm id (jA R h)=jA R h
 |[]=>rfl
 |.mark::r=>by simp only[jA,hide.rm,Cd a r]
 |.ob i o::r=>by
  simp only[jA]
  cases hi:R.contains i with
  |false=>exact Cd a r
  |true=>
   simp only[zE2,hide.rm]
   rw[zB2 (fun e=>by subst e;rw[hi]at a;cases a),Cd a r]
def Ia {R}:∀a,(∀id∈a,R.contains id=false)->∀h,hide a (jA R h)=jA R h
 |[],_,_=>rfl
 |id::a,hi,h=>by
  show hide a (hide.rm id (jA R h))=_
  rw[Cd (hi id (by simp)),Ia a fun x b=>hi x (by simp[b])]
def Ve {i} {o}:∀a r,i∉a->hide a (.ob i o::r)=.ob i o::hide a r
 |[],_,_=>rfl
 |id::a,r,hi=>by
  simp only[zF2,bR3]at hi
  show hide a (hide.rm id (.ob i o::r))=_
  simp only[hide.rm,zB2 (Ne.symm hi.1),hide,zB2 hi.1]
  exact Ve a _ hi.2
def tZ {R}:∀h,hide ((vR h).filter fun i=> !R.contains i) h=jA R h
 |[]=>Ee _
 |.mark::r=>by rw[show vR (.mark::r)=vR r from rfl,Hz,tZ r];rfl
 |.ob i o::r=>by
  simp only[vR,jA]
  cases hi:R.contains i with
  |false=>
   rw[List.filter_cons_of_pos (by rw[hi];rfl)]
   show hide _ (hide.rm i (.ob i o::r))=_
   rw[show hide.rm i (.ob i o::r)=r by simp[hide.rm],tZ r];rfl
  |true=>
   rw[List.filter_cons_of_neg (by rw[hi];simp),Ve _ _ (fun a=>by have:=(List.mem_filter.1 a).2;rw[hi]at this;cases this),tZ r];rfl
def sU:∀a b h,hide (a++b) h=hide b (hide a h)
 |[],_,_=>rfl
 |x::a,b,h=>sU a b (hide.rm x h)
def rK {nb} {run} {b} {xs} {s s1} {v} {W} (h:callX nb run b xs s=some (v,s1,W)):
  ∃a s' w,(∀i,i∈b->i∈a)/\run {h:=hide a s.h,n:=s.n}=some (v,s')/\changed (look s'.h) (hide a s.h)=some w/\s1={h:=newOK (xG a s.n s'.n) s.n s'.h++updAll w s.h,n:=s'.n}/\W=w.map (·.1)/\
   entsOK (nB a s.n) (hide a s.h)=true/\xs.all (nameOK (nB a s.n) 6)=true/\nameOK (xG a s.n s'.n) 6 v=true/\
   w.all (fun e=>eR (xG a s.n s'.n) e.2)=true/\(nb=false->s'.n<=s.n+1048576):=by
 unfold callX at h;simp only at h;generalize rchX (look s.h) xs=R at h
 obtain⟨a,d,f,hp⟩:∃a,(∀i,i∈b->i∈a)/\hide b (jA R s.h)=hide a s.h/\∀id,(R.contains id&&(Nat.blt id s.n&& !b.contains id))=nB a s.n id:=by
  refine⟨((vR s.h).filter fun i=> !R.contains i)++(((List.range s.n).filter fun i=> !R.contains i)++b),fun i hi=>by simp[hi],?_,fun id=>?_⟩;rw[sU,sU,tZ,Ia ((List.range s.n).filter fun i=> !R.contains i) fun id hi=>by simpa using(List.mem_filter.1 hi).2];simp only[nB];cases hlt:Nat.blt id s.n with
  |false=>simp
  |true=>
   simp only[bB3]at hlt;cases hr:R.contains id with
   |false=>simp only[aD3,aA3]at hr;simp[hlt,hr]
   |true=>simp only[aD3,zD2]at hr;simp[hr]
 simp only[f,hp]at h;split at h;rename_i h1;split at h;rename_i v' s' c;split at h;rename_i w hw;split at h;rename_i h2;simp only[yZ2,zU2]at h;obtain⟨rfl,rfl,rfl⟩:=h;simp only[yS2,zN2]at h1 h2;exact⟨a,s',w,d,c,hw,rfl,rfl,h1.1,h1.2,h2.1.1,h2.1.2,fun hn=>zH2 (h2.2.resolve_left (by rw[hn];simp))⟩;cases h;cases h;cases h;cases h
theorem Se {nb} {run run'} (hr:∀s r,run s=some r->run' s=some r) {hid} {xs} {s} {r} (h:callX nb run hid xs s=some r):callX nb run' hid xs s=some r:=by
 unfold callX at h ⊢;simp only at h ⊢;generalize hide hid (jA (rchX (look s.h) xs) s.h)=H at h ⊢;split at h
 grind
 cases h
def pN {p}:∀{h},entsOK p h=true->∀id ao,look h id=some ao->eR p ao=true
 |[],_,id,ao,hl=>by cases hl
 |.mark::r,h,id,ao,hl=>pN (h:=r) h id ao hl
 |.ob i o::r,h,id,ao,hl=>by
  simp only[entsOK,yS2]at h
  simp only[look]at hl
  split at hl
  cases hl;exact h.1
  exact pN h.2 id ao hl
section
variable {P:Program} {g g2:Gh} {p:Nat->Bool}
def VR.names (l:g2.G=g.G) (hι:∀id,p id=true->g2.ι id=g.ι id):∀{d} {x} {X},nameOK p d x=true->VR g x X->VR g2 x X:=by
 have f:g2.still=g.still:=by simp[Gh.still,l]
 have b:∀a j,g2.cell a j=g.cell a j:=fun a j=>by simp[Gh.cell,l]
 intro d
 induction d with
 |zero=>intro x X h;simp[nameOK]at h
 |succ d ih=>
  intro x X h c;cases c with
  |v hg=>exact .v hg
  |ip hs hc hv=>exact .ip hs (fun j x c=>by rw[b];exact hc j x c) (fun j x y c hy=>by rw[f];rw[b]at hy;exact hv j x y c hy)
  |is hs hl hr hc hv=>exact .is hs hl hr (fun i row j x h1 h2=>by rw[b];exact hc i row j x h1 h2) (fun i row j x y h1 h2 hy=>by rw[f];rw[b]at hy;exact hv i row j x y h1 h2 hy)
  |is0=>exact .is0
  |es=>exact .es
  |ptr hi hver hp=>exact .ptr ((hι _ (by simpa[nameOK]using h)).trans hi) hver hp
  |sl hi hver hlen hs hp=>exact .sl ((hι _ (by simpa[nameOK]using h)).trans hi) hver hlen hs hp
  |map hi hp=>exact .map ((hι _ (by simpa[nameOK]using h)).trans hi) hp
  |im hb hl hk hv=>exact .im (by rw[l];exact hb) hl (fun i k x e h1 h2=>by rw[f];exact hk i k x e h1 h2) (fun i k x e h1 h2=>by rw[f];exact hv i k x e h1 h2)
  |fn h1 h2 v1 v2=>
   simp only[nameOK,yS2,yW2]at h;exact .fn h1 h2 (fun i x y c hy=>ih (h.1.2 x (zC2 c)) (v1 i x y c hy)) (fun i x y c hy=>ih (h.2 x (zC2 c)) (v2 i x y c hy))
  |yield hi hp=>
   simp only[nameOK,yS2]at h;exact .yield ((hι _ h.1.1).trans hi) hp
  |agg hl hc hv=>
   simp only[nameOK,yW2]at h;exact .agg hl hc (fun i x y c hy=>ih (h x (zC2 c)) (hv i x y c hy))
  |tup hl hv=>
   simp only[nameOK,yW2]at h;exact .tup hl (fun i x y c hy=>ih (h x (zC2 c)) (hv i x y c hy))
def TR.names (c:g2.G=g.G) (hι:∀id,p id=true->g2.ι id=g.ι id) {d} {l} {vs} (h:l.all (nameOK p d)=true) (a:TR g l vs):TR g2 l vs:=
 ⟨a.1,fun i x y b hy=>VR.names c hι (yW2.1 h x (zC2 b)) (a.2 i x y b hy)⟩
def OR.names (m:g2.G=g.G) (hι:∀id,p id=true->g2.ι id=g.ι id) {w} {id} {ao} (c:g2.ι id=g.ι id) (h:eR p ao=true) (s:OR P g w id ao):OR P g2 w id ao:=by
 cases ao with
 |arr bx ty esz ver els=>
  obtain⟨loc,cs,h1,h2,f,l,d,n,o,q,r⟩:=s;simp only[eR,yW2]at h;refine⟨loc,cs,c.trans h1,h2,f,l,d,n,o,q,fun i row j x a b=>?_⟩;obtain⟨y,t,u,v⟩:=r i row j x a b;exact⟨y,t,u,VR.names m hι (h row (zC2 a) x (zC2 b)) v⟩
 |map es=>
  obtain⟨loc,ents,clock,h1,h2,f,l,d⟩:=s;simp only[eR,yW2,yS2]at h;refine⟨loc,ents,clock,c.trans h1,h2,f,l,fun i k x e a b=>?_⟩;have:=h (k,x) (zC2 a);exact⟨VR.names m hι this.1 (d i k x e a b).1,VR.names m hι this.2 (d i k x e a b).2⟩
 |loop st pend tmps params assign body=>
  obtain⟨loc,L,h1,h2,f,l,d,n,o,q,r⟩:=s;simp only[eR]at h;exact⟨loc,L,c.trans h1,h2,f,l,d,TR.names m hι h n,o,q,r⟩
def OR.some {w} {id} {ao} (h:OR P g w id ao):g.ι id≠none:=by
 cases ao with
 |arr bx ty esz ver els=>obtain⟨loc,cs,h1,_⟩:=h;rw[h1];simp
 |map es=>obtain⟨loc,ents,clock,h1,_⟩:=h;rw[h1];simp
 |loop st pend tmps params assign body=>obtain⟨loc,L,h1,_⟩:=h;rw[h1];simp
def nC {q} (c:∀i,p i=true->q i=true):∀{d} {x},nameOK p d x=true->nameOK q d x=true
 |0,_,h=>by simp[nameOK]at h
 |d+1,x,h=>by
  have ih:∀{x},nameOK p d x=true->nameOK q d x=true:=fun h=>nC c h
  cases x with
  |fn f a b=>
   simp only[nameOK,yS2,yW2]at h ⊢
   refine⟨⟨?_,fun x e=>ih (h.1.2 x e)⟩,fun x e=>ih (h.2 x e)⟩
   cases f<;>simp_all
  |agg cs=>simp only[nameOK,yW2]at h ⊢;exact fun x e=>ih (h x e)
  |tup cs=>simp only[nameOK,yW2]at h ⊢;exact fun x e=>ih (h x e)
  |ptr=>exact c _ (by simpa[nameOK]using h)
  |sl=>exact c _ (by simpa[nameOK]using h)
  |map=>exact c _ (by simpa[nameOK]using h)
  |_=>simp[nameOK]
def Sf {q} (a:∀i,p i=true->q i=true) {ao} (h:eR p ao=true):eR q ao=true:=by
 cases ao with
 |arr bx ty esz ver els=>simp only[eR,yW2]at h ⊢;exact fun r hr x b=>nC a (h r hr x b)
 |map es=>simp only[eR,yW2,yS2]at h ⊢;exact fun r hr=>⟨nC a (h r hr).1,nC a (h r hr).2⟩
 |loop st pend tmps params assign body=>simp only[eR,yW2]at h ⊢;exact fun x b=>nC a (h x b)
def Gh.only (g:Gh) (p:Nat->Bool):Gh:={G:=g.G,ι:=fun id=>if p id then g.ι id else none}
def Gh.only_pos {id} (h:p id=true):(g.only p).ι id=g.ι id:=yY2 h
def WG.only {w} (h:WG g w):WG (g.only p) w:=by
 have up:∀id loc,(g.only p).ι id=some loc->g.ι id=some loc:=fun id loc h=>by
  simp only[Gh.only]at h;split at h;exact h;cases h
 exact⟨h.still,fun id loc hi=>h.lt id loc (up id loc hi),fun id loc hi=>h.out id loc (up id loc hi),fun id id' loc loc' h1 h2=>h.inj id id' loc loc' (up id loc h1) (up id' loc' h2)⟩
open Classical in
noncomputable def Gh.back (g g':Gh) (p:Nat->Bool) (n:Nat):Gh:={G:=g'.G,ι:=fun id=>if p id=false/\(id<n\/g.ι id≠none)then g.ι id else g'.ι id}
def xH {g'} {id n} (h:p id=true):(g.back g' p n).ι id=g'.ι id:=by
 simp only[Gh.back];rw[zB2 (fun hc=>by rw[h]at hc;cases hc.1)]
def Ef {g'} {id n} (h:p id=false) (hi:g.ι id≠none):(g.back g' p n).ι id=g.ι id:=yY2 ⟨h,.inr hi⟩
def jK1 {g'} {n} (h:(g.only p).le g'):g.le (g.back g' p n):=by
 refine⟨h.G,fun id loc hi=>?_⟩;cases hp:p id with
 |true=>
  rw[xH hp];exact h.ι id loc ((Gh.only_pos hp).trans hi)
 |false=>
  rw[Ef hp (by rw[hi];simp)];exact⟨loc,hi,yX2 _,fun _=>rfl⟩
theorem cG1 {lim n} {g'} {w w'} (h:sS lim (g.only p) g' w w') (d:WG g w) (c:WG g' w'):sS lim g (g.back g' p n) w w'/\WG (g.back g' p n) w':=by
 have up:∀id loc,(g.only p).ι id=some loc->g.ι id=some loc:=fun id loc h=>by
  simp only[Gh.only]at h;split at h;exact h;cases h
 have a:∀id loc,(g.back g' p n).ι id=some loc->(p id=false/\g.ι id=some loc)\/g'.ι id=some loc:=fun id loc hi=>by
  simp only[Gh.back]at hi;split at hi
  grind
  exact .inr hi
 refine⟨⟨jK1 h.le,h.size,fun b hb hn=>h.keep b hb (fun id loc hl hi=>hn id loc hl (up id loc hi)),fun id loc hi=>?_,fun id hl=>?_,h.os,h.tape,h.output,h.gfresh,h.loops⟩,⟨c.still,fun id loc hi=>?_,fun id loc hi=>?_,fun id id' loc loc' h1 h2 e=>?_⟩⟩;rcases a id loc hi with⟨_,h1⟩|h1
 grind
 rcases h.fresh id loc h1 with⟨t,h2,m⟩|h2
 grind
 exact .inr h2;cases hp:p id with
 |true=>rw[xH hp,h.old id hl,Gh.only_pos hp]
 |false=>
  by_cases hi:g.ι id=none;simp only[Gh.back];split;rfl;rw[h.old id hl,hi];simp[Gh.only,hp];exact Ef hp hi
 rcases a id loc hi with⟨_,h1⟩|h1;exact aE3 (d.lt id loc h1) h.size;exact c.lt id loc h1;show g'.G loc.b=none
 rcases a id loc hi with⟨_,h1⟩|h1;cases hG:g'.G loc.b with
 |none=>rfl
 |some o=>
  rcases h.gfresh _ _ hG with k|k;have k:g.G loc.b=some o:=k;rw[d.out id loc h1]at k;cases k;have:=d.lt id loc h1;omega
 exact c.out id loc h1
 have u:∀i j l l',p i=false->g.ι i=some l->g'.ι j=some l'->l.b=l'.b->i=j:=by
  intro i j l l' hp h1 h2 e;rcases h.fresh j l' h2 with⟨s,m,v⟩|m;exact d.inj i j l s h1 (up j s m) (by omega);have:=d.lt i l h1;omega
 rcases a id loc h1 with⟨hp,r⟩|r;rcases a id' loc' h2 with⟨q,f⟩|f;exact d.inj id id' loc loc' r f e
 grind
 rcases a id' loc' h2 with⟨q,f⟩|f
 grind
 exact c.inj id id' loc loc' r f e
end
end Go.Sim
namespace Go.Sim
section
variable {P:Program} {T:jW} {ex:Nat->Bool->IC->St->Option (Ex×St)} {lim n:Nat} {g:Gh} {w:World}
def sW {l} {s} {st} {pend} {tmps} {params} {assign bd} (a:mJ P g w s) (c:look s.h l=some (.loop st pend tmps params assign bd)):
  ∃loc R,g.ι l=some loc/\loc.ver=0/\w.heap[loc.b]? =some (.loop R)/\R.state=st/\
   Ux pend R.pending/\TR g tmps R.tmps.toList/\R.params=params.toArray/\comp P R.assign=some assign/\comp P R.body=some bd:=a.H l _ c
def Eg {l} {s} {st st'} {pend pend'} {tmps} {params} {assign bd} (c:mJ P g w s) (p:look s.h l=some (.loop st pend tmps params assign bd)) (f:lim<=l)
  {loc} {R R'} (hi:g.ι l=some loc) (hb:w.heap[loc.b]? =some (.loop R)) (h1:R'.state=st')
  (h2:Ux pend' R'.pending) (t:R'.tmps=R.tmps) (u:R'.params=R.params) (v:R'.assign=R.assign) (x:R'.body=R.body):
  mJ P g {w with heap:=w.heap.setIfInBounds loc.b (.loop R')} {h:=upd s.h l (.loop st' pend' tmps params assign bd),n:=s.n}/\sS lim g g w {w with heap:=w.heap.setIfInBounds loc.b (.loop R')}:=by
 obtain⟨loc',R0,q,z,r,E,F,A,B,C,D⟩:=sW c p;rw[hi]at q;cases q;rw[hb]at r;cases r;have i:=c.W.lt l loc hi;have a:∀b,b≠loc.b->(w.heap.setIfInBounds loc.b (.loop R'))[b]? =w.heap[b]? :=fun b hb=>by simp[Ne.symm hb]
 refine⟨⟨?_,⟨?_,?_,c.W.out,c.W.inj⟩,c.dom,c.wf.upd _ _⟩,⟨.refl g,by simp,?_,fun id loc h=>.inl ⟨loc,h,rfl⟩,fun _ _=>rfl,rfl,rfl,rfl,fun _ _ h=>.inl h,fun b R1 h=>by
  by_cases e:b=loc.b;exact⟨R',by rw[e];simp[i]⟩;exact⟨R1,(a b e).trans h⟩⟩⟩
 intro id ao j;simp only[look_upd]at j;split at j;rename_i hc;obtain⟨rfl,_⟩:=hc;cases j;exact⟨loc,R',hi,z,by simp[i],h1,h2,by rw[t];exact A,by rw[u];exact B,by rw[v];exact C,by rw[x];exact D⟩;rename_i hc;have m:id≠l:=fun e=>hc ⟨e,by rw[p];rfl⟩;exact(c.H id ao j).mono (.refl g) rfl (fun d k=>a _ (fun e=>m (c.W.inj id l d loc k hi e)));intro b o h;rw[a b (fun e=>by subst e;rw[c.W.out l loc hi]at h;cases h)];exact c.W.still b o h;intro id d h;simpa using c.W.lt id d h;intro b y hn;exact a b (fun e=>hn l loc f hi e.symm)
def nD {b} {R} (hb:w.heap[b]? =some (.loop R)):(Instr.getLoop b).run P w=.ok R w:=by
 simp[Instr.getLoop,getObj,Sem.run,hb]
def sX {b} {R} (hb:w.heap[b]? =some (.loop R)) (o:Obj):(setObj b o).run P w=.ok () {w with heap:=w.heap.setIfInBounds b o}:=by
 simp[setObj,Sem.run,hb]
def Eh {b} {R} (hb:w.heap[b]? =some (.loop R)) (hr:R.state=.ready):(Instr.beginRound b).run P w=.ok () {w with heap:=w.heap.setIfInBounds b (.loop {R with state:=.busy})}:=by
 simp[Instr.beginRound,nD hb,sX hb,hr]
def Kh {b} {R} (hb:w.heap[b]? =some (.loop R)) (jump:aB Code):
  (Instr.endRound b jump).run P w=.ok (.bool jump.isNone) {w with heap:=w.heap.setIfInBounds b (.loop {R with state:=if jump.isNone then .ready else .done,pending:=jump})}:=by
 simp[Instr.endRound,nD hb,sX hb]
def Ib:∀(ps:aA Nat) (t args:aA AV) (tmps:Array Value) (Args:aA Value),TR g t tmps.toList->TR g args Args->
  TR g (putAll t ps args) ((ps.zip Args).foldl (fun tmps (p:Nat×Value)=>tmps.setIfInBounds p.1 p.2) tmps).toList
 |[],t,args,tmps,Args,ht,ha=>by
  simpa[putAll]using ht
 |p::ps,t,[],tmps,[],ht,ha=>by simpa[putAll]using ht
 |p::ps,t,[],tmps,_::_,ht,ha=>by have:=ha.1;simp at this
 |p::ps,t,_::_,tmps,[],ht,ha=>by have:=ha.1;simp at this
 |p::ps,t,x::args,tmps,y::Args,ht,ha=>by
  simp only[putAll,List.zip_cons_cons,List.foldl_cons]
  refine Ib ps _ args _ Args ?_ ha.tail
  simpa using ht.set ha.head p
theorem pX {l} {s s'} {st} {pend} (h:endRound l s st pend=some s'):
  ∃b a tmps params assign bd,look s.h l=some (.loop b a tmps params assign bd)/\s'={h:=upd s.h l (.loop st pend tmps params assign bd),n:=s.n}:=by
 unfold Sim.endRound at h;split at h
 grind
 cases h
def cH1 (C:pW P ex) {l} {args} {Args} {s s'} {v} (h:round ex lim l args s=some (v,s')) (ht:TR g args Args.toList) (hI:mJ P g w s) (hl:lim<=s.n):
  ∃(loc:Hb) (R:Loop),g.ι l=some loc/\loc.ver=0/\w.heap[loc.b]? =some (.loop R)/\R.params.size=Args.size/\
   ∀(r:aB Nat) (n:Nat),RoundIn (FW r) n P loc.b R.fn ((R.params.zip Args).foldl (fun tmps (p:Tmp×Value)=>tmps.setIfInBounds p.1 p.2) R.tmps) R.assign R.body w (lP P lim g w s v s'):=by
 unfold Sim.round at h;split at h;rename_i b4 X tmps params assign bd hL;split at h;rename_i hc;obtain⟨o,b0⟩:=hc;obtain⟨loc,R,k1,k2,k3,k4,k5,k6,k7,k8,k9⟩:=sW hI hL;have S:R.params.size=Args.size:=by rw[k7];have:=ht.1;simp at this ⊢;omega
 refine⟨loc,R,k1,k2,k3,S,fun r n=>?_⟩;split at h;rename_i σ i;split at h;rename_i k x j f H A
 have U:TR g (putAll tmps params args) ((R.params.zip Args).foldl (fun tmps (p:Tmp×Value)=>tmps.setIfInBounds p.1 p.2) R.tmps).toList:=by
  have:=Ib params tmps args R.tmps Args.toList k6 ht;rw[k7]
  have e:(params.toArray.zip Args).foldl (fun tmps (p:Tmp×Value)=>tmps.setIfInBounds p.1 p.2) R.tmps=(params.zip Args.toList).foldl (fun tmps (p:Nat×Value)=>tmps.setIfInBounds p.1 p.2) R.tmps:=by
   rw[<-Array.foldl_toList];simp
  rw[e];exact this
 refine roundIn_of_wpIn trivial ?_;refine wpIn_mono (C lim true assign _ .normal σ i R.assign k8 (some loc.b) rfl g {tmps:=_,defers:=[]} w n w.heap.size (fun b hb=>by cases hb;exact⟨R,k3⟩) U hI hl (yX2 _) trivial) ?_;rintro e1 a1 w1 ⟨rfl,g1,m⟩;simp only[Ex.toExit,Exit.then];obtain⟨a,R1,V,m2,W,m4,m5,m6,m7,m8,m9⟩:=sW m.inv A
 have N:a=loc:=by
  obtain⟨loc',q1,q2,q3⟩:=m.ext.le.ι l loc k1;rw[V]at q1;cases q1;exact q3 (by omega)
 subst N;obtain⟨K,q⟩:=Eg (lim:=lim) (st':=.busy) (pend':=k) (R':={R1 with state:=.busy}) m.inv A o V W rfl m5 rfl rfl rfl rfl;refine⟨_,Eh W m4,?_⟩
 have d:∀(e:Ex) (τ:St),ex lim true bd {t:=σ.t,s:={h:=upd σ.s.h l (.loop .busy k x j f H),n:=σ.s.n}}=some (e,τ)->∀(st:LoopState) (pend:aB IC) (jump:aB Code) (b:Bool),
   endRound l τ.s st pend=some s'->v=.bool b->b=jump.isNone->st=(if jump.isNone then .ready else .done)->
   Ux pend jump->
   (∀(a':Act) (w':World),(∃v' G,(Instr.endRound a.b jump).run P w'=.ok v' G/\lP P lim g w s v s' (.returned v') G)->roundPost P a.b (lP P lim g w s v s') e.toExit a' w')->
   R.body.wpIn (FW (some a.b)) n P (roundPost P a.b (lP P lim g w s v s')) a1 {w1 with heap:=w1.heap.setIfInBounds a.b (.loop {R1 with state:=.busy})}:=by
  intro e τ hb st pend jump b c hv M T O u;refine wpIn_mono (C lim true bd _ e τ hb R.body k9 (some a.b) rfl g1 a1 _ n w.heap.size (fun b hb=>by cases hb;exact q.loops _ _ W) m.t K (zX2 hl m.n) (by have:=m.ext.size;simpa using this) (m.marks.ext q)) ?_;rintro e2 a2 w2 ⟨rfl,g2,z⟩;refine u a2 w2 ?_;obtain⟨b5,Y,Z,F,y,a0,B,rfl⟩:=pX c;obtain⟨E,R3,q1,q2,q3,q4,q5,q6,q7,q8,q9⟩:=sW z.inv B
  have D:E=a:=by
   obtain⟨loc',p1,p2,p3⟩:=z.ext.le.ι l a V;rw[q1]at p1;cases p1;exact p3 (by omega)
  subst D
  obtain⟨L,J⟩:=Eg (lim:=lim) (st':=st) (pend':=pend) (R':={R3 with state:=if jump.isNone then .ready else .done,pending:=jump}) z.inv B o q1 q3 T.symm
   O rfl rfl rfl rfl
  refine⟨_,_,Kh q3 jump,_,g2,rfl,?_,L,((m.ext.trans q).trans z.ext).trans J,?_⟩;rw[hv,M];exact .v rfl;have h1:s.n<=σ.s.n:=m.n;have h2:σ.s.n<=τ.s.n:=z.n;simp only at h2 ⊢;omega
 split at h;rename_i τ hb;simp only[yV2,zU2]at h;obtain⟨s2,c,rfl,rfl⟩:=h;exact d .normal τ hb .ready none none true c rfl rfl rfl rfl (fun a' w' h=>h);rename_i τ hb;simp only[yV2,zU2]at h;obtain⟨s2,c,rfl,rfl⟩:=h;exact d .ret τ hb .done (some .ret) (some .ret) false c rfl rfl rfl rfl (fun a' w' h=>h);rename_i id τ hb;simp only[yV2,zU2]at h;obtain⟨s2,c,rfl,rfl⟩:=h;exact d (.exit id) τ hb .done (some (.exit id)) (some (.exit id)) false c rfl rfl rfl rfl (fun a' w' h=>h);cases h;cases h;cases h;cases h;cases h
end
end Go.Sim
