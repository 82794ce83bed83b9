import GoSem.Step
import Derived.RangeFuncLeaves
import Derived.RangeFuncIn
import Derived.Below
import Derived.Laws.AppendOwn
import Derived.Laws.MakeOwn
import Derived.Laws.Tables
import Derived.ChangeKeysEq
import Derived.Laws.StructEq
import Derived.WideKeyRuns
import Derived.Great.BuildSlice
import Derived.OrdersIn
/- A text of the proof. -/
set_option linter.all false
namespace Go
def fC3:=@Option.bind_eq_some_iff
def fD3:=@Option.bind_some
def fE3:=@List.getElem?_eq_some_iff
def fF3:=@Bool.and_eq_true
def fG3:=@Option.map_eq_some_iff
def fH3:=@List.all_eq_true
def fI3:=@Nat.le_refl
def fJ3:=@if_pos
def fK3:=@Nat.le_of_ble_eq_true
def fL3:=@List.mem_of_getElem?
def fM3:=@if_neg
def fN3:=@Option.some.injEq
def fO3:=@decide_eq_true_eq
def fP3:=@List.getElem?_eq_getElem
def fQ3:=@List.mem_iff_getElem?
def fR3:=@Bool.false_eq_true
def fS3:=@cond_true
def fT3:=@List.mem_cons
def fU3:=@List.getElem?_set_ne
def fV3:=@List.length_nil
def fW3:=@Bool.or_eq_true
def fX3:=@Bool.not_eq_true'
def fY3:=@Nat.eq_of_beq_eq_true
def fZ3:=@cond_false
def gA3:=@List.getElem?_take
def gB3:=@Option.map_some
def gC3:=@Option.some.inj
def gD3:=@Prod.mk.injEq
def gE3:=@List.getElem?_set
def gF3:=@if_true
def gG3:=@List.getElem?_map
def gH3:=@Nat.le_trans
def gI3:=@Array.getElem?_eq_some_iff
def gJ3:=@decide_eq_false
def gK3:=@List.mem_append
def gL3:=@List.contains_eq_mem
def gM3:=@List.getElem?_drop
def gN3:=@Nat.lt_of_lt_of_le
def gO3:=@decide_eq_false_iff_not
def gP3:=@decide_eq_true
def gQ3:=@Nat.le_of_lt
def gR3:=@List.length_cons
def gS3:=@Nat.mul_le_mul_right
def gT3:=@if_false
def gU3:=@Nat.zero_le
def gV3:=@List.length_map
def gW3:=@List.take_of_length_le
def gX3:=@List.getElem_mem
def gY3:=@Nat.add_assoc
def gZ3:=@List.mem_cons_of_mem
def hA3:=@List.all_cons
def hB3:=@decide_true
def hC3:=@List.take_length
def hD3:=@Nat.zero_add
def hE3:=@List.drop_zero
def hF3:=@List.getElem?_cons_zero
def hG3:=@List.getElem?_append
def hH3:=@List.length_append
def hI3:=@Nat.min_eq_left
def hJ3:=@Array.getElem?_toList
def hK3:=@Nat.add_mul
def hM3:=@List.mem_flatMap
def hN3:=@Bool.or_eq_false_iff
def hO3:=@List.eq_nil_of_length_eq_zero
def hP3:=@Nat.add_zero
def hQ3:=@Nat.succ_mul
def hR3:=@Nat.blt_eq
def hS3:=@List.append_nil
def hT3:=@List.cons_append
def hU3:=@List.length_set
def hV3:=@Nat.add_comm
def hW3:=@List.length_take
def hX3:=@beq_iff_eq
def hY3:=@List.set_eq_of_length_le
def hZ3:=@decide_false
def iA3:=@List.map_cons
def iB3:=@List.drop_drop
def iC3:=@Nat.lt_or_ge
def iD3:=@List.getElem?_append_left
def iE3:=@Bool.and_self
def iF3:=@Int.le_refl
def iG3:=@List.getElem?_replicate
def iH3:=@not_or
def iI3:=@beq_eq_false_iff_ne
def iJ3:=@Option.isSome_some
def iK3:=@Nat.add_sub_cancel
def iL3:=@List.getElem?_append_right
def iM3:=@Classical.choose_spec
def iN3:=@List.take_append_drop
def iO3:=@Nat.ble_eq
def iP3:=@List.getElem?_range
def iQ3:=@Array.toList_map
def iR3:=@Nat.le_of_not_lt
def iS3:=@List.mem_map
def iT3:=@List.mem_singleton
def iU3:=@List.mapM_cons
def iV3:=@List.mem_of_mem_take
def iW3:=@Int.mul_le_mul
def iX3:=@Bool.not_eq_true
def iY3:=@List.not_mem_nil
def iZ3:=@Array.length_toList
def jA3:=@Bool.not_true
def jB3:=@List.nil_append
def jC3:=@List.map_append
def jD3:=@List.ext_getElem?
def jE3:=@List.flatten_cons
def jF3:=@Nat.zero_mul
def jG3:=@List.map_nil
def jH3:=@List.flatMap_cons
def jI3:=@Bool.true_or
def jJ3:=@Option.bind_assoc
def jK3:=@Array.ext'
def jL3:=@Bool.true_and
abbrev aA:=@List
abbrev aB:=@Option
end Go
namespace Go.Sim
inductive AV where
 |v (x:Value)
 |ip (cells:List AV)
 |is (esz:Nat) (els:List (List AV))
 |ptr (id ver e o:Nat)
 |sl (esz id ver off len:Nat) (cap:Option Nat)
 |es
 |map (id:Nat)
 |im (es:List (AV×AV))
 |fn (f:Fn) (first cap:List AV)
 |agg (cells:List AV)
 |tup (vs:List AV)
 deriving Inhabited
abbrev AV.undef:AV:=.tup []
abbrev AV.int (n:Int):AV:=.v (.int .i64 n)
abbrev AV.bool (b:Bool):AV:=.v (.bool b)
inductive IX where
 |t (i:Nat)
 |c (x:AV)
 deriving Inhabited
inductive CK where
 |i|b|s
 deriving DecidableEq,Inhabited
inductive iV where
 |mov
 |nilc
 |pick
 |box (ty:TypeId) (size:Nat)
 |alloc (ty:TypeId) (zero:List Value)
 |build (zero:List Value) (parts:List (Nat×Nat))
 |buildSl (ty:TypeId) (esz len:Nat) (zero:List Value) (parts:List Nat)
 |loadS
 |loadA (n:Nat)
 |store (n:Nat)
 |fad (off:Nat)
 |iad (esz:Nat)
 |iadA (len esz:Nat)
 |fldS (off:Nat)
 |fldA (off n:Nat)
 |idxStr
 |idxA (len esz:Nat) (agg:Bool)
 |bin (op:BinOp)
 |eqB (neg:Bool)
 |eqA (neg:Bool) (ks:List CK)
 |eqNil (neg:Bool) (kd:Nat)
 |un (op:UnOp)
 |convI (k:IntKind)
 |convS
 |s2b (ty:TypeId)
 |b2s
 |mkfn (f:Fn) (nfirst:Nat)
 |mkmap
 |mksl (ty:TypeId) (esz bytes:Nat) (zero:List Value)
 |slc (esz:Nat) (lo hi mx:Bool)
 |slcStr (lo hi:Bool)
 |lookup (agg:Bool) (ks:List CK) (zero:AV) (ok:Bool)
 |mapup (agg:Bool) (ks:List CK)
 |callF (f:FuncId)
 |callV
 |len (kd:Nat)
 |cap
 |append (ty:TypeId) (esz bytes:Nat) (zero:List Value) (zeros:Bool)
 |copy (esz:Nat)
 |clear (esz:Nat) (zero:List Value)
 |mn
 |mx
 |ext (i:Nat)
 |fail
 deriving Inhabited
structure Op1 where
 dst:Option Nat
 k:iV
 xs:List IX
 guard:Option (Nat×Bool):=none
 deriving Inhabited
inductive IC where
 |skip
 |reg (ops:List Sim.Op1)
 |regD (ops:List Sim.Op1) (before:List Nat)
 |seq (a b:IC)
 |cond (c:IX) (a b:IC)
 |block (id:Nat) (c:IC)
 |loop (c:IC)
 |rangeF (f:IX) (params:List Nat) (assign body:IC)
 |exit (id:Nat)
 |ret
 deriving Inhabited
inductive RV where
 |tmp (t:Nat)
 |cellS (t:Nat)
 |cellA (t n:Nat)
 deriving Inhabited
structure IFn where
 ntmps:Nat
 res:List RV
 body:IC
 pure:Bool
 frz:Bool:=false
 deriving Inhabited
inductive AO where
 |arr (bx:Bool) (ty:TypeId) (esz ver:Nat) (els:List (List AV))
 |map (es:List (AV×AV))
 |loop (st:LoopState) (pend:Option IC) (tmps:List AV) (params:List Nat) (assign body:IC)
 deriving Inhabited
inductive mQ where
 |mark
 |ob (id:Nat) (o:AO)
 deriving Inhabited
structure Hp where
 h:List mQ
 n:Nat
 deriving Inhabited
def look:aA mQ->Nat->aB AO
 |[],_=>none
 |.mark::r,id=>look r id
 |.ob i o::r,id=>if i=id then some o else look r id
def upd:aA mQ->Nat->AO->aA mQ
 |[],_,_=>[]
 |.mark::r,id,o=>.mark::upd r id o
 |.ob i o'::r,id,o=>if i=id then .ob i o::r else .ob i o'::upd r id o
def popMark:aA mQ->aA mQ
 |[]=>[]
 |.mark::r=>r
 |.ob i o::r=>match o with
  |.arr true _ _ _ _=>popMark r
  |_=>.ob i o::popMark r
def Value.ground:Value->Bool
 |.bool _|.int .. |.string _|.pointer none|.slice none 0 0|.map none|.nilFunc|.nilIface=>true
 |_=>false
def AV.ofValue:Value->aB AV
 |.agg cs=>if cs.toList.all Value.ground then some (.agg (cs.toList.map .v))else none
 |.tuple cs=>if cs.toList.isEmpty then some (.tup [])else none
 |x=>if Value.ground x then some (.v x)else none
def AV.cells:AV->aB (aA AV)
 |.agg cs=>some cs
 |.tup _=>none
 |x=>some [x]
def setL {α:Type}:aA α->Nat->aA α->aA α
 |l,_,[]=>l
 |l,o,c::cs=>setL (l.set o c) (o+1) cs
def IX.ev (t:aA AV):IX->aB AV
 |.t i=>t[i]?
 |.c x=>some x
def evs (t:aA AV):aA IX->aB (aA AV)
 |[]=>some []
 |x::xs=>match x.ev t,evs t xs with
  |some a,some as=>some (a::as)
  |_,_=>none
def binS (op:BinOp):Value->Value->aB Value
 |.int k a,.int k' b=>
  match op with
  |.shl=>if b<0 then none else some (.int k (k.wrap (a*2^min b.toNat k.bits)))
  |.shr=>if b<0 then none else some (.int k (a.fdiv (2^min b.toNat k.bits)))
  |_=>if k=k' then match op with
   |.add=>some (.int k (k.wrap (a+b)))
   |.sub=>some (.int k (k.wrap (a-b)))
   |.mul=>some (.int k (k.wrap (a*b)))
   |.quo=>if b=0 then none else some (.int k (k.wrap (a.tdiv b)))
   |.rem=>if b=0 then none else some (.int k (a.tmod b))
   |.and=>some (.int k (k.wrap (BitVec.ofInt k.bits a&&&BitVec.ofInt k.bits b).toNat))
   |.or=>some (.int k (k.wrap (BitVec.ofInt k.bits a|||BitVec.ofInt k.bits b).toNat))
   |.xor=>some (.int k (k.wrap (BitVec.ofInt k.bits a^^^BitVec.ofInt k.bits b).toNat))
   |.andNot=>some (.int k (k.wrap (BitVec.ofInt k.bits a&&& ~~~ BitVec.ofInt k.bits b).toNat))
   |.eql=>some (.bool (a==b))
   |.neq=>some (.bool (a !=b))
   |.lss=>some (.bool (a<b))
   |.leq=>some (.bool (a<=b))
   |.gtr=>some (.bool (a>b))
   |.geq=>some (.bool (a>=b))
   |_=>none
  else none
 |.string a,.string b=>
  match op with
  |.add=>if a.size+b.size<=2^62 then some (.string (a++b))else none
  |.eql=>some (.bool (a.toList==b.toList))
  |.neq=>some (.bool !(a.toList==b.toList))
  |.lss=>some (.bool (Op.bytesLess a.toList b.toList))
  |.leq=>some (.bool (Op.bytesLess a.toList b.toList||a.toList==b.toList))
  |.gtr=>some (.bool !(Op.bytesLess a.toList b.toList||a.toList==b.toList))
  |.geq=>some (.bool !(Op.bytesLess a.toList b.toList))
  |_=>none
 |_,_=>none
def unS (op:UnOp):Value->aB Value
 |.int k n=>match op with
  |.neg=>some (.int k (k.wrap (0-n)))
  |.xor=>some (.int k (k.wrap (BitVec.ofInt k.bits (if k.signed then -1 else k.max)^^^BitVec.ofInt k.bits n).toNat))
  |_=>none
 |.bool b=>match op with
  |.not=>some (.bool !b)
  |_=>none
 |_=>none
def cellEq:CK->AV->AV->aB Bool
 |.i,.v (.int k a),.v (.int k' b)=>if k=k' then some (a==b)else none
 |.b,.v (.bool a),.v (.bool b)=>some (a==b)
 |.s,.v (.string a),.v (.string b)=>some (a==b)
 |_,_,_=>none
def cellsEq:aA CK->aA AV->aA AV->aB Bool
 |[],[],[]=>some true
 |k::ks,a::as,b::bs=>match cellEq k a b with
  |some true=>cellsEq ks as bs
  |some false=>some false
  |none=>none
 |_,_,_=>none
def keyEq (agg:Bool) (ks:aA CK) (a b:AV):aB Bool:=
 if agg then match a,b with
  |.agg as,.agg bs=>if as.length=ks.length/\bs.length=ks.length then cellsEq ks as bs else none
  |_,_=>none
 else cellsEq ks [a] [b]
def keyOK (agg:Bool) (ks:aA CK):AV->Bool
 |.agg as=> !agg||as.length==ks.length
 |_=> !agg
def findKey (agg:Bool) (ks:aA CK) (k:AV):aA (AV×AV)->Nat->aB (aB (Nat×AV))
 |[],_=>some none
 |(k',x)::r,i=>match keyEq agg ks k k' with
  |some true=>some (some (i,x))
  |some false=>findKey agg ks k r (i+1)
  |none=>none
def fillParts:aA AV->aA (Nat×Nat)->aA AV->aB (aA AV)
 |cells,[],[]=>some cells
 |cells,(off,n)::ps,x::xs=>match x.cells with
  |some cs=>if cs.length=n/\off+n<=cells.length then fillParts (setL cells off cs) ps xs else none
  |none=>none
 |_,_,_=>none
def byteRows (s:ByteArray):aA (aA AV):=s.data.toList.map fun b=>[.v (.int .u8 b.toNat)]
def rowsOf (L:Nat->aB AO) (esz:Nat):AV->aB (aA (aA AV))
 |.is e els=>if e=esz then some els else none
 |.v (.slice none 0 0)=>some []
 |.es=>some []
 |.v (.string s)=>if esz=1 then some (byteRows s)else none
 |.sl _ id ver off len _=>match L id with
  |some (.arr _ _ e ver' els)=>if e=esz/\ver'=ver/\off+len<=els.length then some ((els.drop off).take len)else none
  |_=>none
 |_=>none
def intOf:AV->aB Int
 |.v (.int _ n)=>some n
 |_=>none
structure Out where
 v:AV
 up:Option (Nat×AO):=none
 new:Option AO:=none
def Bg:aA (aA AV)->aB (aA UInt8)
 |[]=>some []
 |[.v (.int .u8 n)]::r=>(Bg r).map (UInt8.ofNat n.toNat:: ·)
 |_=>none
def zeroRow (zero:aA Value):aA AV:=zero.map .v
def appendTo (L:Nat->aB AO) (lim n:Nat) (ty:TypeId) (esz:Nat) (s:AV) (new:aA (aA AV)):aB Out:=
 match s with
 |.v (.slice none 0 0)=>if new.isEmpty then some {v:=s}else some {v:=.sl esz n 0 0 new.length none,new:=some (.arr false ty esz 0 new)}
 |.es=>if new.isEmpty then some {v:=s}else some {v:=.sl esz n 0 0 new.length none,new:=some (.arr false ty esz 0 new)}
 |.is e _=>if new.isEmpty/\e=esz then some {v:=s}else none
 |.sl z id ver off len cap=>
  match L id with
  |some (.arr bx ty' e ver' els)=>
   if ver'=ver/\e=esz/\ty'=ty/\off+len<=els.length then
    if new.isEmpty then some {v:=s}else
    match cap with
    |none=>
     if off+len=els.length then
      if off=0/\lim<=id/\bx=false then some {v:=.sl z id (ver+1) 0 (len+new.length) none,up:=some (id,.arr false ty e (ver+1) (els++new))}else none
     else if off+len+new.length<=els.length/\lim<=id then
      some {v:=.sl z id ver off (len+new.length) none,up:=some (id,.arr bx ty e ver (setL els (off+len) new))}
     else none
    |some _=>none
   else none
  |_=>none
 |_=>none
def maxRoom:Nat:=2^30
def foldMn (k:IntKind):Int->aA AV->aB Int
 |a,[]=>some a
 |a,x::r=>match x with
  |.v (.int k' b)=>if k=k' then foldMn k (if b<a then b else a) r else none
  |_=>none
def foldMx (k:IntKind):Int->aA AV->aB Int
 |a,[]=>some a
 |a,x::r=>match x with
  |.v (.int k' b)=>if k=k' then foldMx k (if b>a then b else a) r else none
  |_=>none
def mapO {α β:Type} (f:α->aB β):aA α->aB (aA β)
 |[]=>some []
 |a::as=>match f a,mapO f as with
  |some b,some bs=>some (b::bs)
  |_,_=>none
def bounds (lo hi:Bool) (len:Nat) (bs:aA AV):aB (Int×Int):=
 match lo,hi,bs with
 |false,false,[]=>some (0,len)
 |true,false,[l]=>(intOf l).map fun l=>(l,(len:Int))
 |false,true,[h]=>(intOf h).map fun h=>(0,h)
 |true,true,[l,h]=>match intOf l,intOf h with
  |some l,some h=>some (l,h)
  |_,_=>none
 |_,_,_=>none
def roomOf (cap:aB Nat) (len off:Nat):Int:=
 match cap with
 |some c=>c
 |none=>(len:Int)-off
def sliceOp (L:Nat->aB AO) (esz:Nat) (lo hi mx:Bool) (xs:aA AV):aB AV:=
 match xs with
 |[]=>none
 |x::bs=>
  let(bs,m):aA AV×aB Int:=if mx then(bs.dropLast,bs.getLast?.bind intOf)else(bs,some 0)
  match m with
  |none=>none
  |some m=>
  match x with
  |.v (.slice none 0 0)=>match bounds lo hi 0 bs with
   |some (0,0)=>if m=0 then some x else none
   |_=>none
  |.es=>match bounds lo hi 0 bs with
   |some (0,0)=>if m=0 then some x else none
   |_=>none
  |.is e els=>match bounds lo hi els.length bs with
   |some (l,h)=>
    if e=esz/\0<=l/\l<=h/\h<=els.length then
     if mx then(if l=h/\m=h then some .es else none)
     else some (.is e ((els.drop l.toNat).take (h.toNat-l.toNat)))
    else none
   |none=>none
  |.sl z id ver off len cap=>match L id with
   |some (.arr _ _ e ver' els)=>match bounds lo hi len bs with
    |some (l,h)=>
     if ver'=ver/\e=esz/\0<=l/\l<=h/\h<=roomOf cap els.length off/\off+len<=els.length then
      if mx then(if h<=m/\m<=roomOf cap els.length off then some (.sl z id ver (off+l.toNat) (h.toNat-l.toNat) (some (m.toNat-l.toNat)))else none)
      else some (.sl z id ver (off+l.toNat) (h.toNat-l.toNat) (cap.map (· -l.toNat)))
     else none
    |none=>none
   |_=>none
  |_=>none
def isNilv (kd:Nat) (x:AV):aB Bool:=
 match kd,x with
 |0,.v (.slice none 0 0)|1,.v (.pointer none)|2,.v (.map none)|3,.v .nilFunc=>some true
 |0,.is .. |0,.sl .. |1,.ptr .. |1,.ip .. |2,.map .. |2,.im .. |3,.fn .. =>some false
 |_,_=>none
def appRows (L:Nat->aB AO) (esz:Nat) (zeros:Bool) (zero:aA Value) (x:AV):aB (aA (aA AV)):=
 if zeros then match intOf x with
  |some m=>if 0<=m/\m<=maxRoom then some (List.replicate m.toNat (zeroRow zero))else none
  |none=>none
 else rowsOf L esz x
def entsOf (L:Nat->aB AO):AV->aB (aA (AV×AV))
 |.v (.map none)=>some []
 |.map id=>match L id with
  |some (.map es)=>some es
  |_=>none
 |.im es=>some es
 |_=>none
def doOp (L:Nat->aB AO) (lim n:Nat) (k:iV) (xs:aA AV):aB Out:=
 match k,xs with
 |.mov,[x]=>some {v:=x}
 |.nilc,[x]=>match x with
  |.ptr .. |.ip .. |.fn (.func _) _ _|.fn (.yield _) _ _=>some {v:=x}
  |_=>none
 |.pick,[c,a,b]=>match c with
  |.v (.bool t)=>some {v:=if t then a else b}
  |_=>none
 |.box ty size,[x]=>match x.cells with
  |some cs=>if cs.length=size/\size≠0 then some {v:=.ptr n 0 0 0,new:=some (.arr true ty size 0 [cs])}else none
  |none=>none
 |.alloc ty zero,[]=>some {v:=.ptr n 0 0 0,new:=some (.arr true ty zero.length 0 [zeroRow zero])}
 |.build zero parts,xs=>(fillParts (zeroRow zero) parts xs).map fun cs=>{v:=.agg cs}
 |.buildSl ty esz len zero parts,xs=>
  (fillParts ((List.range len).flatMap fun _=>zeroRow zero) (parts.map fun i=>(i*esz,esz)) xs).map fun cs=>
   {v:=.sl esz n 0 0 len none,new:=some (.arr false ty esz 0 ((List.range len).map fun i=>(cs.drop (i*esz)).take esz))}
 |.loadS,[p]=>match p with
  |.ip (c::_)=>some {v:=c}
  |.ptr id ver e o=>match L id with
   |some (.arr _ _ _ ver' els)=>if ver'=ver then match els[e]? with
     |some row=>match row[o]? with
      |some x=>some {v:=x}
      |none=>none
     |none=>none
    else none
   |_=>none
  |_=>none
 |.loadA n,[p]=>match p with
  |.ip cells=>if n<=cells.length then some {v:=.agg (cells.take n)}else none
  |.ptr id ver e o=>match L id with
   |some (.arr _ _ _ ver' els)=>if ver'=ver then match els[e]? with
     |some row=>if o+n<=row.length then some {v:=.agg ((row.drop o).take n)}else none
     |none=>none
    else none
   |_=>none
  |_=>none
 |.store n,[p,x]=>match p,x.cells with
  |.ptr id ver e o,some cs=>match L id with
   |some (.arr bx ty esz ver' els)=>if ver'=ver/\lim<=id/\cs.length=n then match els[e]? with
     |some row=>if o+n<=row.length then some {v:=.undef,up:=some (id,.arr bx ty esz ver (els.set e (setL row o cs)))}else none
     |none=>none
    else none
   |_=>none
  |_,_=>none
 |.fad off,[p]=>match p with
  |.ip cells=>some {v:=.ip (cells.drop off)}
  |.ptr id ver e o=>some {v:=.ptr id ver e (o+off)}
  |_=>none
 |.iad esz,[x,i]=>match intOf i with
  |some i=>match x with
   |.is e els=>if e=esz/\0<=i then match els[i.toNat]? with
     |some row=>some {v:=.ip row}
     |none=>none
    else none
   |.sl z id ver off len _=>if z=esz/\0<=i/\i<len then some {v:=.ptr id ver (off+i.toNat) 0}else none
   |_=>none
  |none=>none
 |.iadA len esz,[p,i]=>match intOf i with
  |some i=>if 0<=i/\i<len then match p with
   |.ip cells=>some {v:=.ip (cells.drop (i.toNat*esz))}
   |.ptr id ver e o=>some {v:=.ptr id ver e (o+i.toNat*esz)}
   |_=>none
   else none
  |none=>none
 |.fldS off,[x]=>match x with
  |.agg cs=>match cs[off]? with
   |some c=>some {v:=c}
   |none=>none
  |_=>none
 |.fldA off n,[x]=>match x with
  |.agg cs=>some {v:=.agg ((cs.drop off).take n)}
  |_=>none
 |.idxStr,[x,i]=>match x,intOf i with
  |.v (.string s),some i=>if 0<=i then match s.data.toList[i.toNat]? with
    |some b=>some {v:=.v (.int .u8 b.toNat)}
    |none=>none
   else none
  |_,_=>none
 |.idxA len esz agg,[x,i]=>match x,intOf i with
  |.agg cs,some i=>if 0<=i/\i<len then
    if agg then some {v:=.agg ((cs.drop (i.toNat*esz)).take esz)}else match cs[i.toNat*esz]? with
    |some c=>some {v:=c}
    |none=>none
   else none
  |_,_=>none
 |.bin op,[x,y]=>match x,y with
  |.v a,.v b=>(binS op a b).map fun r=>{v:=.v r}
  |_,_=>none
 |.eqB neg,[x,y]=>match x,y with
  |.v (.bool a),.v (.bool b)=>some {v:=.v (.bool ((a==b)!=neg))}
  |_,_=>none
 |.eqA neg ks,[x,y]=>match x,y with
  |.agg as,.agg bs=>if as.length=ks.length/\bs.length=ks.length then match cellsEq ks as bs with
    |some r=>some {v:=.v (.bool (r !=neg))}
    |none=>none
   else none
  |_,_=>none
 |.eqNil neg kd,[x,y]=>match isNilv kd x,isNilv kd y with
  |some a,some true=>some {v:=.v (.bool (a !=neg))}
  |some true,some b=>some {v:=.v (.bool (b !=neg))}
  |_,_=>none
 |.un op,[x]=>match x with
  |.v a=>(unS op a).map fun r=>{v:=.v r}
  |_=>none
 |.convI k,[x]=>match x with
  |.v (.int _ n)=>some {v:=.v (.int k (k.wrap n))}
  |_=>none
 |.convS,[x]=>match x with
  |.v (.string s)=>some {v:=.v (.string s)}
  |_=>none
 |.s2b _,[x]=>match x with
  |.v (.string s)=>some {v:=.is 1 (byteRows s)}
  |_=>none
 |.b2s,[x]=>match rowsOf L 1 x with
  |some rows=>(Bg rows).map fun l=>{v:=.v (.string ⟨l.toArray⟩)}
  |none=>none
 |.mkfn f nf,xs=>some {v:=.fn f (xs.take nf) (xs.drop nf)}
 |.mkmap,[]=>some {v:=.map n,new:=some (.map [])}
 |.mksl ty esz _ zero,[l,c]=>match intOf l,intOf c with
  |some l,some c=>if 0<=l/\l<=c/\c<=maxRoom then
    some {v:=.sl esz n 0 0 l.toNat none,new:=some (.arr false ty esz 0 (List.replicate c.toNat (zeroRow zero)))}
   else none
  |_,_=>none
 |.slc esz lo hi mx,xs=>(sliceOp L esz lo hi mx xs).map fun v=>{v:=v}
 |.slcStr lo hi,x::bs=>match x with
  |.v (.string s)=>match bounds lo hi s.size bs with
   |some (l,h)=>if 0<=l/\l<=h/\h<=s.size then some {v:=.v (.string (s.extract l.toNat h.toNat))}else none
   |none=>none
  |_=>none
 |.lookup agg ks zero ok,[m,k]=>
  if keyOK agg ks k then
   match entsOf L m with
   |some es=>match findKey agg ks k es 0 with
    |some (some (_,x))=>some {v:=if ok then .tup [x,.v (.bool true)]else x}
    |some none=>some {v:=if ok then .tup [zero,.v (.bool false)]else zero}
    |none=>none
   |none=>none
  else none
 |.mapup agg ks,[m,k,x]=>match m with
  |.map id=>match L id with
   |some (.map es)=>if lim<=id/\keyOK agg ks k then match findKey agg ks k es 0 with
     |some (some (i,_))=>some {v:=.undef,up:=some (id,.map (es.set i (k,x)))}
     |some none=>some {v:=.undef,up:=some (id,.map (es++[(k,x)]))}
     |none=>none
    else none
   |_=>none
  |_=>none
 |.len kd,[x]=>match kd,x with
  |0,.is _ els=>some {v:=.int els.length}
  |0,.sl _ _ _ _ len _=>some {v:=.int len}
  |0,.v (.slice none 0 0)=>some {v:=.int 0}
  |0,.es=>some {v:=.int 0}
  |1,.v (.string s)=>some {v:=.int s.size}
  |2,.v (.map none)=>some {v:=.int 0}
  |2,.map id=>match L id with
   |some (.map es)=>some {v:=.int es.length}
   |_=>none
  |2,.im es=>some {v:=.int es.length}
  |_,_=>none
 |.cap,[x]=>match x with
  |.v (.slice none 0 0)=>some {v:=.int 0}
  |.es=>some {v:=.int 0}
  |_=>none
 |.append ty esz _ zero zeros,[s,x]=>
  match appRows L esz zeros zero x with
  |some new=>match appendTo L lim n ty esz s new with
   |some o=>(match o.v with|.sl _ _ _ _ len _=>if len<=maxRoom/\new.length<=maxRoom then some o else none|_=>some o)
   |none=>none
  |none=>none
 |.copy esz,[d,s]=>match rowsOf L esz s with
  |some rows=>match d with
   |.v (.slice none 0 0)=>some {v:=.int 0}
   |.es=>some {v:=.int 0}
   |.sl _ id ver off len _=>match L id with
    |some (.arr bx ty e ver' els)=>if ver'=ver/\e=esz/\off+len<=els.length/\lim<=id then
      some {v:=.int (min rows.length len),up:=some (id,.arr bx ty e ver (setL els off (rows.take (min rows.length len))))}
     else none
    |_=>none
   |_=>none
  |none=>none
 |.clear esz zero,[x]=>match x with
  |.v (.slice none 0 0)=>some {v:=.undef}
  |.es=>some {v:=.undef}
  |.sl _ id ver off len _=>match L id with
   |some (.arr bx ty e ver' els)=>if ver'=ver/\e=esz/\off+len<=els.length/\lim<=id then
     some {v:=.undef,up:=some (id,.arr bx ty e ver (setL els off (List.replicate len (zeroRow zero))))}
    else none
   |_=>none
  |_=>none
 |.mn,x::xs=>match x with
  |.v (.int k a)=>(foldMn k a xs).map fun r=>{v:=.v (.int k r)}
  |_=>none
 |.mx,x::xs=>match x with
  |.v (.int k a)=>(foldMx k a xs).map fun r=>{v:=.v (.int k r)}
  |_=>none
 |.ext i,[x]=>match x with
  |.tup vs=>match vs[i]? with
   |some v=>some {v:=v}
   |none=>none
  |_=>none
 |_,_=>none
def Out.apply (o:Out) (s:Hp):Hp:=
 let h:=match o.up with
  |some (id,ob)=>upd s.h id ob
  |none=>s.h
 match o.new with
 |some ob=>{h:=.ob s.n ob::h,n:=s.n+1}
 |none=>{h:=h,n:=s.n}
structure St where
 t:List AV
 s:Hp
inductive Ex where
 |normal
 |exit (id:Nat)
 |ret
 deriving DecidableEq
structure mO where
 fn:FuncId->Option IFn
 memo:FuncId->List AV->Option AV:=fun _ _=>none
instance:CoeFun mO fun _=>FuncId->Option IFn:=⟨mO.fn⟩
def oQ (L:Nat->aB AO) (n0:Nat):Nat->AV->aB AV
 |0,_=>none
 |d+1,x=>match x with
  |.v y=>some (.v y)
  |.ip cs=>some (.ip cs)
  |.is e els=>some (.is e els)
  |.es=>some .es
  |.sl _ id ver off len _=>match L id with
   |some (.arr _ _ e ver' els)=>
    if n0<=id/\ver'=ver/\off+len<=els.length then(mapO (fun row=>mapO (oQ L n0 d) row) ((els.drop off).take len)).map fun rows=>AV.is e rows else none
   |_=>none
  |.ptr id ver e o=>match L id with
   |some (.arr _ _ _ ver' els)=>
    if n0<=id/\ver'=ver then match els[e]? with
     |some row=>(mapO (oQ L n0 d) (row.drop o)).map fun cs=>AV.ip cs
     |none=>none
    else none
   |_=>none
  |_=>none
def Su (L:Nat->aB AO) (n0:Nat):AV->aB AV
 |.agg cs=>(mapO (oQ L n0 6) cs).map AV.agg
 |x=>oQ L n0 6 x
def fzC (L:Nat->aB AO) (n0:Nat) (x:AV):aB AV:=
 match x with
 |.sl _ id .. |.ptr id .. |.map id=>if id<n0 then some x else oQ L n0 6 x
 |.fn (.func f) [] cap=>(mapO (oQ L n0 6) cap).map fun c=>.fn (.func f) [] c
 |x=>oQ L n0 6 x
def fz1 (L:Nat->aB AO) (n0:Nat):AV->aB AV
 |.agg cs=>(mapO (fzC L n0) cs).map AV.agg
 |x=>fzC L n0 x
def fz (L:Nat->aB AO) (n0:Nat):AV->aB AV
 |.tup vs=>(mapO (fz1 L n0) vs).map AV.tup
 |.map id=>if id<n0 then some (.map id)else match L id with
  |some (.map es)=>(mapO (fun(k,x)=>match Su L n0 k,Su L n0 x with|some k,some x=>some (k,x)|_,_=>none) es).map AV.im
  |_=>none
 |x=>fz1 L n0 x
def readRes (L:Nat->aB AO) (t:aA AV):RV->aB AV
 |.tmp i=>t[i]?
 |.cellS i=>match t[i]? with
  |some p=>(doOp L 0 0 .loadS [p]).map (·.v)
  |none=>none
 |.cellA i n=>match t[i]? with
  |some p=>(doOp L 0 0 (.loadA n) [p]).map (·.v)
  |none=>none
def results (L:Nat->aB AO) (t:aA AV) (a:aA RV):aB AV:=
 match mapO (readRes L t) a with
 |some [v]=>some v
 |some vs=>some (.tup vs)
 |none=>none
def closed:Nat->AV->Bool
 |0,_=>false
 |d+1,x=>match x with
  |.v _|.ip _|.is _ _|.es|.im _=>true
  |.fn (.func _) first cap=>first.all (closed d)&&cap.all (closed d)
  |.agg cs=>cs.all (closed d)
  |.tup cs=>cs.all (closed d)
  |_=>false
def Cf (L:Nat->aB AO):Nat->AV->aB AV
 |0,_=>none
 |d+1,x=>match x with
  |.fn (.func f) first cap=>match mapO (Cf L d) first,mapO (Cf L d) cap with
   |some a,some b=>some (.fn (.func f) a b)
   |_,_=>none
  |.agg cs=>(mapO (Cf L d) cs).map AV.agg
  |.im es=>some (.im es)
  |.map id=>match L id with
   |some (.map es)=>(mapO (fun(k,x)=>match Su L 0 k,Su L 0 x with|some k,some x=>some (k,x)|_,_=>none) es).map AV.im
   |_=>none
  |.ptr id ver e o=>match L id with
   |some (.arr _ _ _ ver' els)=>
    if ver'=ver then match els[e]? with
     |some row=>(mapO (Cf L d) (row.drop o)).map AV.ip
     |none=>none
    else none
   |_=>none
  |x=>oQ L 0 6 x
def gnd:Nat->AV->Bool
 |0,_=>false
 |d+1,x=>match x with
  |.v _=>true
  |.agg cs=>cs.all (gnd d)
  |.tup cs=>cs.all (gnd d)
  |_=>false
section
variable (T:mO) (ex:Nat->Bool->IC->St->Option (Ex×St))
def body (lim:Nat) (fn:IFn) (args:aA AV) (s:Hp):aB (AV×Hp):=
 match ex lim false fn.body {t:=args++List.replicate (fn.ntmps-args.length) .undef,s:=s}with
 |some (.exit _,_)=>none
 |some (_,σ)=>(results (look σ.s.h) σ.t fn.res).map fun v=>(v,σ.s)
 |none=>none
def runP (f:FuncId) (fn:IFn) (args:aA AV):aB AV:=
 match T.memo f args with
 |some v=>some v
 |none=>match body ex 0 fn args {h:=[],n:=0}with
  |some (v,s')=>fz (look s'.h) 0 v
  |none=>none
def callF (lim:Nat) (f:FuncId) (args:aA AV) (s:Hp):aB (AV×Hp):=
 match T f with
 |none=>none
 |some fn=>
  if fn.pure then
   if args.all (closed 4)then(runP T ex f fn args).map fun v=>(v,s)
   else if fn.frz then
    match mapO (Cf (look s.h) 6) args with
    |some as=>match runP T ex f fn as with
     |some v=>if gnd 4 v then some (v,s)else none
     |none=>none
    |none=>none
   else
    match body ex s.n fn args s with
    |some (v,s')=>(fz (look s'.h) s.n v).map fun v=>(v,s)
    |none=>none
  else body ex lim fn args s
def putAll:aA AV->aA Nat->aA AV->aA AV
 |t,p::ps,a::as=>putAll (t.set p a) ps as
 |t,_,_=>t
def endRound (l:Nat) (s:Hp) (st:LoopState) (pend:aB IC):aB Hp:=
 match look s.h l with
 |some (.loop _ _ tmps params assign bd)=>some {h:=upd s.h l (.loop st pend tmps params assign bd),n:=s.n}
 |_=>none
def round (lim l:Nat) (args:aA AV) (s:Hp):aB (AV×Hp):=
 match look s.h l with
 |some (.loop _ _ tmps params assign bd)=>
  if lim<=l/\params.length=args.length then
   match ex lim true assign {t:=putAll tmps params args,s:=s}with
   |some (.normal,σ)=>
    match look σ.s.h l with
    |some (.loop .ready pend2 tmps2 params2 assign2 bd2)=>
     match ex lim true bd {t:=σ.t,s:={h:=upd σ.s.h l (.loop .busy pend2 tmps2 params2 assign2 bd2),n:=σ.s.n}}with
     |some (.normal,τ)=>(endRound l τ.s .ready none).map fun s=>(.bool true,s)
     |some (.ret,τ)=>(endRound l τ.s .done (some .ret)).map fun s=>(.bool false,s)
     |some (.exit id,τ)=>(endRound l τ.s .done (some (.exit id))).map fun s=>(.bool false,s)
     |none=>none
    |_=>none
   |_=>none
  else none
 |_=>none
def callV (lim:Nat) (f:AV) (args:aA AV) (s:Hp):aB (AV×Hp):=
 match f with
 |.fn (.func g) first cap=>callF T ex lim g (first++args++cap) s
 |.fn (.yield l) [] []=>round ex lim l args s
 |_=>none
def step (lim:Nat) (k:iV) (xs:aA AV) (s:Hp):aB (AV×Hp):=
 match k with
 |.callF f=>callF T ex lim f xs s
 |.callV=>match xs with
  |f::args=>callV T ex lim f args s
  |[]=>none
 |k=>match doOp (look s.h) lim s.n k xs with
  |some o=>some (o.v,o.apply s)
  |none=>none
def put (t:aA AV) (d:aB Nat) (v:AV):aA AV:=
 match d with
 |some i=>t.set i v
 |none=>t
def wanted (t:aA AV):aB (Nat×Bool)->Bool
 |none=>true
 |some (i,w)=>match t[i]? with
  |some (.v (.bool b))=>b==w
  |_=>false
def runOps (lim:Nat):aA Sim.Op1->St->aB St
 |[],σ=>some σ
 |o::os,σ=>
  if wanted σ.t o.guard then
   match evs σ.t o.xs with
   |some xs=>match step T ex lim o.k xs σ.s with
    |some (v,s)=>runOps lim os {t:=put σ.t o.dst v,s:=s}
    |none=>none
   |none=>none
  else runOps lim os {t:=put σ.t o.dst .undef,s:=σ.s}
structure Foot where
 rd:List Nat:=[]
 wr:List Nat:=[]
 al:List Nat:=[]
 all:Nat:=0
 x:Bool:=false
def idOf:AV->aA Nat
 |.ptr id .. |.sl _ id .. |.map id=>[id]
 |_=>[]
def foot (k:iV) (xs:aA AV):Foot:=
 match k,xs with
 |.loadS,[p]|.loadA _,[p]=>{rd:=idOf p}
 |.store _,p::_=>{wr:=idOf p}
 |.lookup ..,m::_=>{rd:=idOf m}
 |.mapup ..,m::_=>{wr:=idOf m}
 |.append ..,[s,x]=>{rd:=idOf x,wr:=idOf s}
 |.copy _,[d,s]=>{rd:=idOf s,wr:=idOf d}
 |.clear ..,[x]=>{wr:=idOf x}
 |.len kd,[x]=>{rd:=bif Nat.beq kd 2 then idOf x else[]}
 |.slc ..,x::_=>{rd:=idOf x}
 |.b2s,[x]=>{rd:=idOf x}
 |.callF f,xs=>{all:=match T f with|some fn=>if fn.pure then 1 else if fn.frz then 3 else 2|none=>2,x:=match T f with|some fn=>fn.pure&&(fn.frz||xs.all (closed 4))|none=>false}
 |.callV,f::args=>{all:=match f with|.fn (.func g) _ _=>(match T g with|some fn=>if fn.pure then 1 else if fn.frz then 3 else 2|none=>2)|_=>2,x:=match f with|.fn (.func g) first cap=>(match T g with|some fn=>fn.pure&&(fn.frz||(first++args++cap).all (closed 4))|none=>false)|_=>false}
 |.callV,[]=>{all:=2}
 |_,_=>{}
def Foot.isE (f:Foot):Bool:=f.rd.isEmpty&&f.wr.isEmpty&&f.al.isEmpty&&Nat.beq f.all 0
def compat0 (i j:Foot):Bool:=
 i.all+j.all<=1&&
 i.wr.all (fun x=> !j.rd.contains x&& !j.wr.contains x)&&j.wr.all (fun x=> !i.rd.contains x)&&
 i.al.all (fun x=> !j.rd.contains x&& !j.wr.contains x)&&
 (i.all==0||j.wr.isEmpty)&&(j.all==0||i.wr.isEmpty)
def compat (i j:Foot):Bool:=i.isE||j.isE||compat0 i j
def hide:aA Nat->aA mQ->aA mQ
 |[],h=>h
 |id::ids,h=>hide ids (rm id h)
 where
 rm (id:Nat):aA mQ->aA mQ
  |[]=>[]
  |.mark::r=>.mark::rm id r
  |.ob i o::r=>if i=id then r else .ob i o::rm id r
def unseen (a:Nat):Nat->aA Foot->aA Nat
 |_,[]=>[]
 |j,f::fs=>(if a.testBit (j-1)then[]else f.al)++unseen a (j-1) fs
def nameOK (p:Nat->Bool):Nat->AV->Bool
 |0,_=>false
 |d+1,x=>match x with
  |.v _|.ip _|.is _ _|.es|.im _=>true
  |.ptr id .. |.sl _ id .. |.map id=>p id
  |.fn f a b=>(match f with|.yield l=>p l|_=>true)&&a.all (nameOK p d)&&b.all (nameOK p d)
  |.agg cs=>cs.all (nameOK p d)
  |.tup cs=>cs.all (nameOK p d)
def gC (p:Nat->Bool):AO->Bool
 |.arr _ _ _ _ els=>els.all fun r=>r.all (nameOK p 6)
 |.map es=>es.all fun q=>nameOK p 6 q.1&&nameOK p 6 q.2
 |.loop _ _ tmps _ _ _=>tmps.all (nameOK p 6)
def entsOK (p:Nat->Bool):aA mQ->Bool
 |[]=>true
 |.mark::r=>entsOK p r
 |.ob _ o::r=>gC p o&&entsOK p r
def eqV:Value->Value->Bool
 |.bool a,.bool b=>a==b
 |.int k a,.int k' b=>decide (k=k')&&a==b
 |.string a,.string b=>a.data.toList==b.data.toList
 |.pointer none,.pointer none=>true
 |.slice none 0 0,.slice none 0 0=>true
 |.map none,.map none=>true
 |.nilFunc,.nilFunc=>true
 |.nilIface,.nilIface=>true
 |_,_=>false
def Ia {α:Type} (f:α->α->Bool):aA α->aA α->Bool
 |[],[]=>true
 |a::as,b::bs=>f a b&&Ia f as bs
 |_,_=>false
def wT:Nat->AV->AV->Bool
 |0,_,_=>false
 |d+1,x,y=>match x,y with
  |.v a,.v b=>eqV a b
  |.ip a,.ip b=>Ia (wT d) a b
  |.is e a,.is e' b=>Nat.beq e e'&&Ia (Ia (wT d)) a b
  |.ptr a b c e,.ptr a' b' c' e'=>Nat.beq a a'&&Nat.beq b b'&&Nat.beq c c'&&Nat.beq e e'
  |.sl a b c e f g,.sl a' b' c' e' f' g'=>Nat.beq a a'&&Nat.beq b b'&&Nat.beq c c'&&Nat.beq e e'&&Nat.beq f f'&&decide (g=g')
  |.es,.es=>true
  |.map a,.map b=>Nat.beq a b
  |.fn (.func f) a b,.fn (.func g) a' b'=>Nat.beq f g&&Ia (wT d) a a'&&Ia (wT d) b b'
  |.agg a,.agg b=>Ia (wT d) a b
  |.tup a,.tup b=>Ia (wT d) a b
  |_,_=>false
def vX1:AO->AO->Bool
 |.arr a b c e f,.arr a' b' c' e' f'=>a==a'&&Nat.beq b b'&&Nat.beq c c'&&Nat.beq e e'&&Ia (Ia (wT 12)) f f'
 |.map a,.map b=>Ia (fun p q=>wT 12 p.1 q.1&&wT 12 p.2 q.2) a b
 |_,_=>false
noncomputable def same (o o':AO):Bool:=@decide (o=o') (Classical.propDecidable _)
noncomputable def changed (L:Nat->aB AO):aA mQ->aB (aA (Nat×AO))
 |[]=>some []
 |.mark::r=>changed L r
 |.ob i o::r=>match L i,changed L r with
  |some o',some l=>if vX1 o o'||same o o' then some l else some ((i,o')::l)
  |_,_=>none
def newEnts (n:Nat):aA mQ->aA mQ
 |.ob i o::r=>if n<=i then .ob i o::newEnts n r else[]
 |_=>[]
def updAll:aA (Nat×AO)->aA mQ->aA mQ
 |[],h=>h
 |(i,o)::r,h=>updAll r (upd h i o)
def newOK (q:Nat->Bool) (n:Nat) (h:aA mQ):aA mQ:=(newEnts n h).filter fun e=>match e with|.ob _ o=>gC q o|.mark=>false
def mks:aA mQ->aA mQ
 |[]=>[]
 |.mark::r=>.mark::mks r
 |.ob _ _::r=>mks r
def nmsV:Nat->AV->aA Nat
 |0,_=>[]
 |d+1,x=>match x with
  |.ptr id .. |.sl _ id .. |.map id=>[id]
  |.fn f a b=>(match f with|.yield l=>[l]|_=>[])++(a.flatMap (nmsV d)++b.flatMap (nmsV d))
  |.agg cs=>cs.flatMap (nmsV d)
  |.tup cs=>cs.flatMap (nmsV d)
  |_=>[]
def nmsO:AO->aA Nat
 |.arr _ _ _ _ els=>els.flatMap fun r=>r.flatMap (nmsV 6)
 |_=>[]
def rchX (L:Nat->aB AO) (xs:aA AV):aA Nat:=
 let R:=xs.flatMap (nmsV 6)
 R++R.flatMap fun id=>match L id with|some o=>nmsO o|none=>[]
def jR (R:aA Nat):aA mQ->aA mQ
 |[]=>[]
 |.mark::r=>.mark::jR R r
 |.ob i o::r=>bif R.contains i then .ob i o::jR R r else jR R r
def nbF (fs:aA Foot):Bool:=fs.all fun f=>Nat.beq f.all 0||f.x
noncomputable def callX (b:Bool) (run:Hp->aB (AV×Hp)) (a:aA Nat) (xs:aA AV) (s:Hp):aB (AV×Hp×aA Nat):=
 let R:=rchX (look s.h) xs
 let p:=fun id=>R.contains id&&(Nat.blt id s.n&& !a.contains id)
 let H:=hide a (jR R s.h)
 if entsOK p H&&xs.all (nameOK p 6)then
  match run {h:=H,n:=s.n}with
  |some (v,s')=>match changed (look s'.h) H with
   |some w=>
    let q:=fun id=>p id||(Nat.ble s.n id&&Nat.blt id s'.n)
    let N:=newOK q s.n s'.h
    if nameOK q 6 v&&w.all (fun e=>gC q e.2)&&(b||Nat.ble s'.n (s.n+1048576))then some (v,{h:=N++updAll w s.h,n:=s'.n},w.map (·.1))else none
   |none=>none
  |none=>none
 else none
def rsv (k:Nat):Nat:=k*1048576
noncomputable def fO (lim:Nat) (before:aA Nat):aA Sim.Op1->Nat->aA Foot->St->aB (St×aA Foot)
 |[],_,fs,σ=>some (σ,fs)
 |o::os,j,fs,σ=>
  if wanted σ.t o.guard then
   match evs σ.t o.xs with
   |some xs=>
    let ft:=foot T o.k xs
    if ft.all=1 then
     match step T ex lim o.k xs {h:=hide (unseen (before.getD j 0) j fs) σ.s.h,n:=σ.s.n+rsv (os.length+1)}with
     |some (v,_)=>fO lim before os (j+1) (ft::fs) {t:=put σ.t o.dst v,s:=σ.s}
     |none=>none
    else if ft.all=3 then
     match callX (nbF fs) (step T ex lim o.k xs) (unseen (before.getD j 0) j fs) xs σ.s with
     |some (v,s,w)=>fO lim before os (j+1) ({wr:=w,al:=List.range' σ.s.n (s.n-σ.s.n),all:=1,x:=true}::fs) {t:=put σ.t o.dst v,s:=s}
     |none=>none
    else
     match step T ex lim o.k xs σ.s with
     |some (v,s)=>fO lim before os (j+1) ({ft with al:=List.range' σ.s.n (s.n-σ.s.n)}::fs) {t:=put σ.t o.dst v,s:=s}
     |none=>none
   |none=>none
  else fO lim before os (j+1) ({}::fs) {t:=put σ.t o.dst .undef,s:=σ.s}
def drawOK (before:aA Nat):aA Foot->Nat->Bool
 |[],_=>true
 |f::fs,j=>okAgainst (before.getD (j-1) 0) f fs (j-1)&&drawOK before fs (j-1)
 where
 okAgainst (a:Nat) (f:Foot):aA Foot->Nat->Bool
  |[],_=>true
  |g::gs,i=>(a.testBit (i-1)||compat g f)&&okAgainst a f gs (i-1)
end
noncomputable def exec (T:mO):Nat->Nat->Bool->IC->St->aB (Ex×St)
 |0,_,_,_,_=>none
 |d+1,lim,rd,c,σ=>
  match c with
  |.skip=>some (.normal,σ)
  |.reg ops=>(runOps T (exec T d) lim ops σ).map fun σ=>(.normal,σ)
  |.regD ops before=>match fO T (exec T d) lim before ops 0 [] σ with
   |some (τ,fs)=>if drawOK before fs fs.length then some (.normal,τ)else none
   |none=>none
  |.seq a b=>match exec T d lim rd a σ with
   |some (.normal,σ)=>exec T d lim rd b σ
   |r=>r
  |.cond c a b=>match c.ev σ.t with
   |some (.v (.bool t))=>exec T d lim rd (if t then a else b) σ
   |_=>none
  |.block id c=>match exec T d lim rd c σ with
   |some (.exit i,σ)=>if i=id then some (.normal,σ)else some (.exit i,σ)
   |r=>r
  |.loop c=>match exec T d lim rd c {t:=σ.t,s:={h:=.mark::σ.s.h,n:=σ.s.n}}with
   |some (.normal,σ)=>exec T d lim rd (.loop c) {t:=σ.t,s:={h:=popMark σ.s.h,n:=σ.s.n}}
   |some (e,σ)=>some (e,{t:=σ.t,s:={h:=popMark σ.s.h,n:=σ.s.n}})
   |none=>none
  |.rangeF f params assign bd=>
   match f.ev σ.t with
   |some (.fn (.func g) first cap)=>
    match callF T (exec T d) lim g (first++[.fn (.yield σ.s.n) [] []]++cap) {h:=.ob σ.s.n (.loop .ready none σ.t params assign bd)::σ.s.h,n:=σ.s.n+1}with
    |some (_,s)=>match look s.h σ.s.n with
     |some (.loop st pend _ _ _ _)=>if st=.busy then none else
      match endRound σ.s.n s .exhausted pend with
      |none=>none
      |some s=>match pend with
       |none=>some (.normal,{t:=σ.t,s:=s})
       |some .ret=>some (.ret,{t:=σ.t,s:=s})
       |some (.exit id)=>some (.exit id,{t:=σ.t,s:=s})
       |_=>none
     |_=>none
    |none=>none
   |_=>none
  |.exit id=>some (.exit id,σ)
  |.ret=>some (.ret,σ)
end Go.Sim
namespace Go.Sim
def Hm:Operand->aB IX
 |.tmp t=>some (.t t)
 |.const v=>(AV.ofValue v).map .c
 |.global _=>none
 |.func f=>some (.c (.fn (.func f) [] []))
def Nu (xs:aA Operand):aB (aA IX):=mapO Hm xs
def eN (P:Program) (t:TypeId):Bool:=
 match P.underlying t with
 |some (.struct _)|some (.array _ _)=>true
 |_=>false
def dK1 (P:Program) (t:TypeId):Bool:=
 match P.underlying t with
 |some (.struct fs)=>fs.toList.all fun f=>(P.info? f.type).isSome
 |some (.array _ e)=>(P.info? e).isSome
 |_=>false
def oU (P:Program) (t:TypeId):aB (aA Value):=
 match P.info? t with
 |some i=>match i.zero with
  |some z=>let cs:=z.cells.toList;if cs.all Value.ground&&cs.length==i.size&&i.size !=0 then some cs else none
  |none=>none
 |none=>none
def Ki (P:Program) (t:TypeId):aB AV:=
 match P.info? t with
 |some i=>match i.zero with
  |some z=>AV.ofValue z
  |none=>none
 |none=>none
def pX (f:TypeId->aB (aA CK)) (P:Program):aA Field->Nat->aB (aA CK)
 |[],_=>some []
 |x::xs,off=>
  if x.offset=off/\x.name≠ "_" then
   match f x.type,P.info? x.type with
   |some ks,some i=>if i.size=ks.length/\ks.length≠0 then match pX f P xs (off+ks.length)with
     |some r=>some (ks++r)
     |none=>none
    else none
   |_,_=>none
  else none
def gF (P:Program):Nat->TypeId->aB (aA CK)
 |0,_=>none
 |d+1,t=>
  match P.underlying t with
  |some .bool=>some [.b]
  |some (.int _)=>some [.i]
  |some .string=>some [.s]
  |some (.struct fs)=>if P.stoodInHeld t then none else pX (gF P d) P fs.toList 0
  |some (.array n e)=>match gF P d e,P.info? e with
   |some ks,some i=>if i.size=ks.length/\ks.length≠0 then some ((List.replicate n ks).flatten)else none
   |_,_=>none
  |_=>none
def kX (P:Program) (t:TypeId):aB (Bool×aA CK):=
 match P.underlying t with
 |some .bool|some (.int _)|some .string=>(gF P 1 t).map fun ks=>(false,ks)
 |some (.struct fs)=>if(fs.toList.all fun f=>match P.underlying f.type with|some .bool|some (.int _)|some .string=>true|_=>false)then(gF P 2 t).map fun ks=>(true,ks)else none
 |_=>none
def kY (P:Program) (b:Builtin) (a:aA TypeId) (type:TypeId):aB iV:=
  match b,a with
  |.len,[t]=>match P.underlying t with
    |some (.slice _)=>some (.len 0)
    |some .string=>some (.len 1)
    |some (.map _ _)=>some (.len 2)
    |_=>none
  |.append,[s,x]=>match P.underlying s with
    |some (.slice e)=>match P.info? e,oU P e with
      |some i,some z=>if i.bytes<=2^16 then
          (match P.underlying x with
           |some (.int .i64)=>some (.append e i.size i.bytes z true)
           |some (.slice _)|some .string=>some (.append e i.size i.bytes z false)
           |_=>none)else none
      |_,_=>none
    |_=>none
  |.clear,[t]=>match P.underlying t with
    |some (.slice e)=>match oU P e with
      |some z=>some (.clear z.length z)
      |none=>none
    |_=>none
  |.min,_=>some .mn
  |.max,_=>some .mx
  |_,_=>let _:=type;none
def fieldsOf (P:Program) (t:TypeId):aB (aA Field):=
 match P.underlying t with
 |some (.struct fs)=>some fs.toList
 |_=>none
def oR (P:Program) (t:TypeId):aA Nat->aB (aA (Nat×Nat))
 |[]=>some []
 |i::is=>match oR P t is with
  |none=>none
  |some r=>match P.underlying t with
   |some (.struct fs)=>match fs[i]? with
    |some f=>match P.info? f.type with
     |some fi=>some ((f.offset,fi.size)::r)
     |none=>none
    |none=>none
   |some (.array _ e)=>match P.info? e with
    |some ei=>some ((i*ei.size,ei.size)::r)
    |none=>none
   |_=>none
def kR (P:Program) (o:Op) (type:TypeId):aB (iV×aA Operand):=
  match o with
  |.move x|.assign x=>some (.mov,[x])
  |.nilCheck x=>some (.nilc,[x])
  |.pick c a b=>some (.pick,[c,a,b])
  |.box ty x=>match P.info? ty with
    |some i=>some (.box ty i.size,[x])
    |none=>none
  |.alloc ty=>(oU P ty).map fun z=>(.alloc ty z,[])
  |.build t parts=>match P.info? t with
    |some i=>match i.zero with
      |some z=>if z.cells.toList.all Value.ground&&dK1 P t then
          match oR P t (parts.toList.map (·.1))with
          |some ps=>some (.build z.cells.toList ps,parts.toList.map (·.2))
          |none=>none
        else none
      |none=>none
    |none=>none
  |.buildSlice t len parts=>match P.underlying t with
    |some (.slice e)=>match oU P e with
      |some z=>if len*z.length<=2^24 then some (.buildSl e z.length len z (parts.toList.map (·.1)),parts.toList.map (·.2))else none
      |none=>none
    |_=>none
  |.load t a=>match P.underlying t,P.info? t with
    |some _,some i=>some (if eN P t then .loadA i.size else .loadS,[a])
    |_,_=>none
  |.store t a v=>match P.info? t with
    |some i=>some (.store i.size,[a,v])
    |none=>none
  |.fieldAddr s x f=>match P.underlying s with
    |some (.struct fs)=>match fs[f]? with
      |some fd=>match P.info? fd.type with
        |some i=>if i.size≠0 then some (.fad fd.offset,[x])else none
        |none=>none
      |none=>none
    |_=>none
  |.indexAddr t x i=>match P.underlying t with
    |some (.slice e)=>match P.info? e with
      |some ei=>if ei.size≠0 then some (.iad ei.size,[x,i])else none
      |none=>none
    |some (.array n e)=>match P.info? e with
      |some ei=>some (.iadA n ei.size,[x,i])
      |none=>none
    |_=>none
  |.index t x i=>match P.underlying t with
    |some .string=>some (.idxStr,[x,i])
    |some (.array n e)=>match P.underlying e,P.info? e with
      |some _,some ei=>some (.idxA n ei.size (eN P e),[x,i])
      |_,_=>none
    |_=>none
  |.binOp op t x y _=>match P.underlying t with
    |some (.int _)|some .string=>some (.bin op,[x,y])
    |some .bool=>match op with
      |.eql=>some (.eqB false,[x,y])
      |.neq=>some (.eqB true,[x,y])
      |_=>none
    |some (.struct _)|some (.array _ _)=>match gF P 20 t with
      |some ks=>if P.eqGuardType P.depth t then none else
        (match op with
         |.eql=>some (.eqA false ks,[x,y])
         |.neq=>some (.eqA true ks,[x,y])
         |_=>none)
      |none=>none
    |some d=>match(match d with|.slice _=>some 0|.pointer _=>some 1|.map _ _=>some 2|.func _ _ _=>some 3|_=>none:aB Nat)with
      |some kd=>(match op with
         |.eql=>some (.eqNil false kd,[x,y])
         |.neq=>some (.eqNil true kd,[x,y])
         |_=>none)
      |none=>none
    |_=>none
  |.unOp op _ x=>some (.un op,[x])
  |.convert src dst x=>match P.underlying src,P.underlying dst with
    |some (.int _),some (.int k)=>some (.convI k,[x])
    |some .string,some (.slice e)=>match P.underlying e with
      |some (.int .u8)=>if P.cellsOf e=1 then some (.s2b e,[x])else none
      |_=>none
    |_,_=>none
  |.makeFunc fn first captured=>match fn with
    |.func _=>some (.mkfn fn first.size,first.toList++captured.toList)
    |_=>none
  |.makeMap t none=>match P.underlying t with
    |some (.map _ _)=>some (.mkmap,[])
    |_=>none
  |.makeSlice t l c=>match P.underlying t with
    |some (.slice e)=>match P.info? e,oU P e with
      |some i,some z=>if i.bytes<=2^16 then some (.mksl e i.size i.bytes z,[l,c])else none
      |_,_=>none
    |_=>none
  |.slice t x l h m=>match P.underlying t with
    |some (.slice e)=>match P.info? e with
      |some i=>if i.size≠0/\(m.isSome->h.isSome)then some (.slc i.size l.isSome h.isSome m.isSome,x::(l.toList++h.toList++m.toList))else none
      |none=>none
    |_=>none
  |.lookup t x i ok=>match P.underlying t with
    |some (.map k e)=>match Ki P e,kX P k with
      |some z,some (agg,ks)=>some (.lookup agg ks z ok,[x,i])
      |_,_=>none
    |_=>none
  |.mapUpdate t m k x=>match P.underlying t with
    |some (.map kt _)=>match kX P kt with
      |some (agg,ks)=>some (.mapup agg ks,[m,k,x])
      |none=>none
    |_=>none
  |.extract x i=>some (.ext i,[x])
  |.call c=>match c.callee with
    |.value (.func f)=>some (.callF f,c.args.toList)
    |.value f=>some (.callV,f::c.args.toList)
    |.builtin b=>(kY P b c.argTypes.toList type).map fun k=>(k,c.args.toList)
    |.invoke .. =>none
  |_=>none
def mR (P:Program) (ops:aA Oper) (o:Oper):aB Sim.Op1:=
 match(kR P o.op o.type).getD (.fail,[])with
 |(k,xs)=>match Nu xs with
  |none=>none
  |some ixs=>match o.guard with
   |none=>some {dst:=o.dst,k,xs:=ixs,guard:=none}
   |some (j,w)=>match ops[j]? with
    |some oj=>match oj.dst with
     |some d=>some {dst:=o.dst,k,xs:=ixs,guard:=some (d,w)}
     |none=>none
    |none=>none
def qF (a:aA Nat):aA Edge->Nat
 |[]=>0
 |e::es=>if Region.binds .any e then(2^e.on|||a.getD e.on 0)|||qF a es else qF a es
def dU (a:aA Nat):aA Oper->aA Nat
 |[]=>a
 |o::os=>dU (a++[qF a o.after.toList]) os
def Op1.reads (o:Sim.Op1):aA Nat:=
 (o.xs.filterMap fun|.t i=>some i|.c _=>none)++(match o.guard with|some (i,_)=>[i]|none=>[])
def Kj (j:Nat) (o:Sim.Op1) (a:Nat):aA Sim.Op1->Nat->Bool
 |[],_=>true
 |p::ps,i=>(i>=j||a.testBit i||(match p.dst with
   |some d=>o.dst !=some d&& !o.reads.contains d
   |none=>true)&&(match o.dst with
   |some d=> !p.reads.contains d
   |none=>true))&&Kj j o a ps (i+1)
def dL1 (ops:aA Oper) (ios:aA Sim.Op1) (a:aA Nat):Bool:=
 (ops.zipIdx.all fun(o,i)=>o.after.toList.all fun e=> !Region.binds .any e||decide (e.on<i))&&
 (ios.zipIdx.all fun(o,j)=>Kj j o (a.getD j 0) ios 0)
def comp (P:Program):Code->aB IC
 |.skip=>some .skip
 |.region _ ops d=>
  match mapO (mR P ops.toList) ops.toList with
  |none=>none
  |some os=>if d then
    (if dL1 ops.toList os (dU [] ops.toList)then some (.regD os (dU [] ops.toList))else none)
   else some (.reg os)
 |.seq a b=>match comp P a,comp P b with
  |some x,some y=>some (.seq x y)
  |_,_=>none
 |.cond c a b=>match Hm c,comp P a,comp P b with
  |some o,some x,some y=>some (.cond o x y)
  |_,_,_=>none
 |.block id c=>(comp P c).map (.block id)
 |.loop c=>(comp P c).map .loop
 |.rangeFunc f ps a b=>match Hm f,comp P a,comp P b with
  |some o,some x,some y=>some (.rangeF o ps.toList x y)
  |_,_,_=>none
 |.exit id=>some (.exit id)
 |.ret=>some .ret
 |.scope c=>(comp P c).map fun x=>.seq x .skip
 |.label _=>some .skip
 |_=>none
def compRes (P:Program):ResultVar->aB RV
 |.tmp t=>some (.tmp t)
 |.cell a t=>match P.underlying t,P.info? t with
  |some _,some i=>some (if eN P t then .cellA a i.size else .cellS a)
  |_,_=>none
def nY (P:Program) (fn:Func) (pure frz:Bool):aB IFn:=
 match fn.body with
 |none=>none
 |some c=>match comp P c,mapO (compRes P) fn.results.toList with
  |some ic,some rs=>if fn.name != "runtime.NumGoroutine" then some {ntmps:=fn.ntmps,res:=rs,body:=ic,pure,frz}else none
  |_,_=>none
end Go.Sim
namespace Go.Sim
structure Zk where
 b:Nat
 esz:Nat
 ct:Nat
 ver:Nat
structure Gh where
 G:Nat->Option Obj
 ι:Nat->Option Zk
def Gh.still (g:Gh):Gh:={G:=g.G,ι:=fun _=>none}
def Gh.cell (g:Gh) (a:Addr) (j:Nat):aB Value:=
 match g.G a.block with
 |some (.cells c _ _)=>c[a.off+j]?
 |_=>none
def isCell:Value->Bool
 |.agg _|.tuple _=>false
 |_=>true
inductive VR:Gh->AV->Value->Prop
 |v {g:Gh} {x:Value} (h:Value.ground x=true):VR g (.v x) x
 |ip {g:Gh} {cells:List AV} {a:Addr} (hs:a.spot=none)
   (hc:∀(j:Nat) (x:AV),cells[j]? =some x->∃y,g.cell a j=some y/\isCell y=true)
   (hv:∀(j:Nat) (x:AV) (y:Value),cells[j]? =some x->g.cell a j=some y->VR g.still x y):VR g (.ip cells) (.pointer (some a))
 |is {g:Gh} {esz:Nat} {els:List (List AV)} {a:Addr} {cap:Nat} (hs:a.spot=none) (hl:els.length<=cap)
   (hr:∀(i:Nat) (row:List AV),els[i]? =some row->row.length=esz)
   (hc:∀(i:Nat) (row:List AV) (j:Nat) (x:AV),els[i]? =some row->row[j]? =some x->∃y,g.cell a (i*esz+j)=some y/\isCell y=true)
   (hv:∀(i:Nat) (row:List AV) (j:Nat) (x:AV) (y:Value),els[i]? =some row->row[j]? =some x->g.cell a (i*esz+j)=some y->VR g.still x y):
   VR g (.is esz els) (.slice (some a) els.length cap)
 |is0 {g:Gh} {esz cap:Nat} {p:Addr}:VR g (.is esz []) (.slice (some p) 0 cap)
 |es {g:Gh} {a:Option Addr}:VR g .es (.slice a 0 0)
 |ptr {g:Gh} {id ver e o:Nat} {loc:Zk} {p:Addr} (hi:g.ι id=some loc) (hver:ver<=loc.ver)
   (hp:loc.ver=ver->p=⟨loc.b,e*loc.esz+o,none⟩):VR g (.ptr id ver e o) (.pointer (some p))
 |sl {g:Gh} {esz id ver off len:Nat} {cap:Option Nat} {loc:Zk} {p:Addr} {c:Nat} (hi:g.ι id=some loc) (hver:ver<=loc.ver) (hlen:len<=c) (hs:p.spot=none)
   (hp:loc.ver=ver->loc.esz=esz/\(c=0\/p=⟨loc.b,off*loc.esz,none⟩)/\off+c<=loc.ct/\(cap=none->off+c=loc.ct)/\(∀k,cap=some k->c=k)):
   VR g (.sl esz id ver off len cap) (.slice (some p) len c)
 |map {g:Gh} {id b:Nat} {loc:Zk} (hi:g.ι id=some loc) (hp:loc.ver=0->b=loc.b):VR g (.map id) (.map (some b))
 |im {g:Gh} {es:List (AV×AV)} {b clock:Nat} {ents:Array MapEntry} (hb:g.G b=some (.map ents clock)) (hl:ents.size=es.length)
   (hk:∀(i:Nat) (k x:AV) (e:MapEntry),es[i]? =some (k,x)->ents[i]? =some e->VR g.still k e.key)
   (hv:∀(i:Nat) (k x:AV) (e:MapEntry),es[i]? =some (k,x)->ents[i]? =some e->VR g.still x e.val):VR g (.im es) (.map (some b))
 |fn {g:Gh} {f:FuncId} {first cap:List AV} {first' cap':Array Value} (h1:first.length=first'.size) (h2:cap.length=cap'.size)
   (v1:∀(i:Nat) (x:AV) (y:Value),first[i]? =some x->first'[i]? =some y->VR g x y) (v2:∀(i:Nat) (x:AV) (y:Value),cap[i]? =some x->cap'[i]? =some y->VR g x y):
   VR g (.fn (.func f) first cap) (.func (.func f) first' cap')
 |yield {g:Gh} {l b:Nat} {loc:Zk} (hi:g.ι l=some loc) (hp:loc.ver=0->b=loc.b):VR g (.fn (.yield l) [] []) (.func (.yield b) #[] #[])
 |agg {g:Gh} {cs:List AV} {Cs:Array Value} (hl:cs.length=Cs.size) (hc:∀(i:Nat) (y:Value),Cs[i]? =some y->isCell y=true)
   (hv:∀(i:Nat) (x:AV) (y:Value),cs[i]? =some x->Cs[i]? =some y->VR g x y):VR g (.agg cs) (.agg Cs)
 |tup {g:Gh} {cs:List AV} {Cs:Array Value} (hl:cs.length=Cs.size)
   (hv:∀(i:Nat) (x:AV) (y:Value),cs[i]? =some x->Cs[i]? =some y->VR g x y):VR g (.tup cs) (.tuple Cs)
structure Gh.le (g g':Gh):Prop where
 G:∀b o,g.G b=some o->g'.G b=some o
 ι:∀id loc,g.ι id=some loc->∃loc',g'.ι id=some loc'/\loc.ver<=loc'.ver/\(loc.ver=loc'.ver->loc'=loc)
def Gh.le.refl (g:Gh):g.le g:=⟨fun _ _ h=>h,fun _ loc h=>⟨loc,h,fI3 _,fun _=>rfl⟩⟩
def Gh.le.trans {a b c:Gh} (h:a.le b) (k:b.le c):a.le c where
 G:=fun x o j=>k.G x o (h.G x o j)
 ι:=fun id loc hi=>by
  obtain⟨d,h1,v1,f⟩:=h.ι id loc hi
  obtain⟨l,h2,v2,e2⟩:=k.ι id d h1
  refine⟨l,h2,gH3 v1 v2,fun e=>?_⟩
  have:d.ver=loc.ver:=by omega
  have g:=f this.symm
  have i:=e2 (by omega)
  rw[i,g]
def Gh.le.still {g g':Gh} (h:g.le g'):g.still.le g'.still:=⟨h.G,fun _ _ h=>by simp[Gh.still]at h⟩
def Gh.le.cell {g g':Gh} (h:g.le g') {a:Addr} {j:Nat} {y:Value} (hy:g.cell a j=some y):g'.cell a j=some y:=by
 unfold Gh.cell at hy ⊢;split at hy;rename_i c ty fr he;rw[h.G _ _ he];exact hy;cases hy
def VR.mono {g:Gh} {x:AV} {V:Value} (h:VR g x V):∀{g'},g.le g'->VR g' x V:=by
 induction h with
 |v h=>intro g' _;exact .v h
 |ip hs hc hv ih=>
  intro g' hg;refine .ip hs (fun j x f=>?_) (fun j x y f hy=>?_);obtain⟨y,h1,h2⟩:=hc j x f;exact⟨y,hg.cell h1,h2⟩;obtain⟨l,h1,_⟩:=hc j x f;have h2:=hg.cell h1;rw[h2]at hy;cases hy;exact ih j x _ f h1 hg.still
 |is hs hl hr hc hv ih=>
  intro g' hg;refine .is hs hl hr (fun i row j x h1 h2=>?_) (fun i row j x y h1 h2 hy=>?_);obtain⟨y,c,d⟩:=hc i row j x h1 h2;exact⟨y,hg.cell c,d⟩;obtain⟨l,c,_⟩:=hc i row j x h1 h2;have d:=hg.cell c;rw[d]at hy;cases hy;exact ih i row j x _ h1 h2 c hg.still
 |is0=>intro g' _;exact .is0
 |es=>intro g' _;exact .es
 |ptr hi hver hp=>
  intro g' hg;obtain⟨l',h1,h2,c⟩:=hg.ι _ _ hi;refine .ptr h1 (gH3 hver h2) (fun e=>?_);have d:=c (by omega);subst d;exact hp e
 |sl hi hver hlen hs hp=>
  intro g' hg;obtain⟨l',h1,h2,c⟩:=hg.ι _ _ hi;refine .sl h1 (gH3 hver h2) hlen hs (fun e=>?_);have d:=c (by omega);subst d;exact hp e
 |map hi hp=>
  intro g' hg;obtain⟨l',h1,h2,c⟩:=hg.ι _ _ hi;refine .map h1 (fun e=>?_);have d:=c (by omega);subst d;exact hp e
 |im hb hl hk hv ihk ihv=>
  intro g' hg;exact .im (hg.G _ _ hb) hl (fun i k x e h1 h2=>ihk i k x e h1 h2 hg.still) (fun i k x e h1 h2=>ihv i k x e h1 h2 hg.still)
 |fn h1 h2 v1 v2 ih1 ih2=>
  intro g' hg;exact .fn h1 h2 (fun i x y a b=>ih1 i x y a b hg) (fun i x y a b=>ih2 i x y a b hg)
 |yield hi hp=>
  intro g' hg;obtain⟨l',h1,h2,c⟩:=hg.ι _ _ hi;refine .yield h1 (fun e=>?_);have d:=c (by omega);subst d;exact hp e
 |agg hl hc hv ih=>
  intro g' hg;exact .agg hl hc (fun i x y a b=>ih i x y a b hg)
 |tup hl hv ih=>
  intro g' hg;exact .tup hl (fun i x y a b=>ih i x y a b hg)
def TR (g:Gh) (t:aA AV) (v:aA Value):Prop:=
 t.length=v.length/\∀(i:Nat) (x:AV) (y:Value),t[i]? =some x->v[i]? =some y->VR g x y
def TR.nil (g:Gh):TR g [] []:=⟨rfl,fun i x y h=>by simp at h⟩
def TR.cons {g} {x} {y} {t} {v} (h:VR g x y) (d:TR g t v):TR g (x::t) (y::v):=
 ⟨by simp[d.1],fun i a b c hb=>by
  cases i with
  |zero=>simp at c hb;subst c hb;exact h
  |succ i=>simp at c hb;exact d.2 i a b c hb⟩
def TR.head {g} {x} {y} {t} {v} (h:TR g (x::t) (y::v)):VR g x y:=h.2 0 x y rfl rfl
def TR.tail {g} {x} {y} {t} {v} (h:TR g (x::t) (y::v)):TR g t v:=
 ⟨by simpa using h.1,fun i a b c hb=>h.2 (i+1) a b (by simpa using c) (by simpa using hb)⟩
def TR.mono {g g'} {t} {v} (h:TR g t v) (hg:g.le g'):TR g' t v:=
 ⟨h.1,fun i x y a b=>(h.2 i x y a b).mono hg⟩
def TR.append {g} {t t'} {v v'} (h:TR g t v) (h':TR g t' v'):TR g (t++t') (v++v'):=by
 induction t generalizing v with
 |nil=>
  have:v=[]:=by have:=h.1;simpa using this.symm
  subst this;exact h'
 |cons a t ih=>
  cases v with
  |nil=>have:=h.1;simp at this
  |cons b v=>exact .cons h.head (ih h.tail)
def TR.set {g} {t} {v} (h:TR g t v) {x} {y} (f:VR g x y) (d:Nat):TR g (t.set d x) (v.set d y):=by
 refine⟨by simp[h.1],fun i a b c hb=>?_⟩;rw[gE3]at c hb;split at c
 grind
 rename_i e;rw[fM3 e]at hb;exact h.2 i a b c hb
def VR.undef (g:Gh):VR g .undef undef:=.tup (by simp) (fun i x y h=>by simp at h)
def TR.replicate {g} {x} {y} (h:VR g x y):∀n,TR g (List.replicate n x) (List.replicate n y)
 |0=>.nil g
 |n+1=>.cons h (TR.replicate h n)
def VR.isCell {g} {x} {V} (h:VR g x V) (h1:∀cs,x≠.agg cs) (h2:∀cs,x≠.tup cs):Sim.isCell V=true:=by
 cases h with
 |v h=>cases V<;>simp_all[Value.ground,Sim.isCell]
 |agg=>exact absurd rfl (h1 _)
 |tup=>exact absurd rfl (h2 _)
 |_=>rfl
def VR.cells {g} {x} {V} (h:VR g x V) {cs} (hc:x.cells=some cs):
  TR g cs V.cells.toList/\∀y∈V.cells.toList,Sim.isCell y=true:=by
 cases x with
 |agg l=>
  simp only[AV.cells,fN3]at hc;subst hc;cases h with
  |agg hl hc hv=>
   refine⟨⟨by simpa[Value.cells]using hl,fun i x y a b=>hv i x y a (by simpa[Value.cells]using b)⟩,fun y hy=>?_⟩;simp only[Value.cells]at hy;obtain⟨i,hi⟩:=fQ3.1 hy;exact hc i y (by simpa using hi)
 |tup l=>simp[AV.cells]at hc
 |_=>
  have c:=h.isCell (by intro cs e;cases e) (by intro cs e;cases e);simp only[AV.cells,fN3]at hc;subst hc;have d:V.cells=#[V]:=by cases V<;>simp_all[Value.cells,Sim.isCell]
  rw[d];exact⟨.cons h (.nil g),fun y hy=>by simp at hy;subst hy;exact c⟩
def VR.bool {g} {b} {V} (h:VR g (.v (.bool b)) V):V=.bool b:=by cases h;rfl
def VR.ground {g} {x V} (h:VR g (.v x) V):V=x:=by cases h;rfl
def Wa:aB IC->aB Code->Prop
 |none,p=>p=none
 |some .ret,p=>p=some .ret
 |some (.exit i),p=>p=some (.exit i)
 |_,_=>False
def OR (P:Program) (g:Gh) (w:World) (id:Nat):AO->Prop
 |.arr _ ty esz ver els=>∃loc cs,g.ι id=some loc/\loc.esz=esz/\loc.ver=ver/\esz≠0/\w.heap[loc.b]? =some (.cells cs ty (0,0))/\cs.size=loc.ct*esz/\
   els.length<=loc.ct/\(∀(i:Nat) (row:aA AV),els[i]? =some row->row.length=esz)/\
   ∀(i:Nat) (row:aA AV) (j:Nat) (x:AV),els[i]? =some row->row[j]? =some x->∃y,cs[i*esz+j]? =some y/\isCell y=true/\VR g x y
 |.map es=>∃loc ents clock,g.ι id=some loc/\loc.ver=0/\w.heap[loc.b]? =some (.map ents clock)/\ents.size=es.length/\
   ∀(i:Nat) (k x:AV) (e:MapEntry),es[i]? =some (k,x)->ents[i]? =some e->VR g k e.key/\VR g x e.val
 |.loop st pend tmps params assign body=>∃(loc:Zk) (L:Loop),g.ι id=some loc/\loc.ver=0/\w.heap[loc.b]? =some (.loop L)/\L.state=st/\
   Wa pend L.pending/\
   TR g tmps L.tmps.toList/\L.params=params.toArray/\comp P L.assign=some assign/\comp P L.body=some body
def HR (P:Program) (g:Gh) (L:Nat->aB AO) (w:World):Prop:=∀id ao,L id=some ao->OR P g w id ao
structure WG (g:Gh) (w:World):Prop where
 still:∀b o,g.G b=some o->w.heap[b]? =some o
 lt:∀id loc,g.ι id=some loc->loc.b<w.heap.size
 out:∀id loc,g.ι id=some loc->g.G loc.b=none
 inj:∀id id' loc loc',g.ι id=some loc->g.ι id'=some loc'->loc.b=loc'.b->id=id'
structure sU (lim:Nat) (g g':Gh) (w w':World):Prop where
 le:g.le g'
 size:w.heap.size<=w'.heap.size
 keep:∀b,b<w.heap.size->(∀id loc,lim<=id->g.ι id=some loc->loc.b≠b)->w'.heap[b]? =w.heap[b]?
 fresh:∀id loc',g'.ι id=some loc'->(∃loc,g.ι id=some loc/\loc.b=loc'.b)\/w.heap.size<=loc'.b
 old:∀id,id<lim->g'.ι id=g.ι id
 os:w'.os=w.os
 tape:w'.tape=w.tape
 output:w'.output=w.output
 gfresh:∀b o,g'.G b=some o->g.G b=some o\/w.heap.size<=b
 loops:∀(b:Nat) (R:Loop),w.heap[b]? =some (Obj.loop R)->∃R',w'.heap[b]? =some (Obj.loop R')
def sU.refl (lim:Nat) (g:Gh) (w:World):sU lim g g w w:=
 ⟨.refl g,fI3 _,fun _ _ _=>rfl,fun id loc h=>.inl ⟨loc,h,rfl⟩,fun _ _=>rfl,rfl,rfl,rfl,fun _ _ h=>.inl h,fun _ R h=>⟨R,h⟩⟩
def sU.trans {lim:Nat} {g g' c:Gh} {w w' f:World} (h:sU lim g g' w w') (k:sU lim g' c w' f):sU lim g c w f where
 le:=h.le.trans k.le
 size:=gH3 h.size k.size
 keep:=fun b hb hn=>by
  rw[k.keep b (gN3 hb h.size) (fun id loc hl hi e=>?_),h.keep b hb hn]
  rcases h.fresh id loc hi with⟨a,h0,i⟩|h0
  exact hn id a hl h0 (i.trans e)
  omega
 fresh:=fun id loc' hi=>by
  rcases k.fresh id loc' hi with⟨a,h0,i⟩|h0
  rcases h.fresh id a h0 with⟨d,h1,j⟩|h1
  exact .inl ⟨d,h1,j.trans i⟩
  exact .inr (by omega)
  exact .inr (gH3 h.size h0)
 old:=fun id hl=>(k.old id hl).trans (h.old id hl)
 os:=k.os.trans h.os
 tape:=k.tape.trans h.tape
 output:=k.output.trans h.output
 gfresh:=fun b o hb=>by
  rcases k.gfresh b o hb with h1|h1
  exact h.gfresh b o h1
  exact .inr (gH3 h.size h1)
 loops:=fun b R hb=>by
  obtain⟨R',h1⟩:=h.loops b R hb
  exact k.loops b R' h1
def sU.mono {lim lim'} {g g'} {w w'} (hl:lim<=lim') (h:sU lim' g g' w w'):sU lim g g' w w':=
 ⟨h.le,h.size,fun b hb hn=>h.keep b hb (fun id loc hi=>hn id loc (by omega)),h.fresh,fun id hi=>h.old id (by omega),h.os,h.tape,h.output,h.gfresh,h.loops⟩
def OR.mono {P} {g g'} {w w'} {id} {ao} (h:OR P g w id ao) (hg:g.le g') (hi:g'.ι id=g.ι id)
  (hb:∀loc,g.ι id=some loc->w'.heap[loc.b]? =w.heap[loc.b]?):OR P g' w' id ao:=by
 cases ao with
 |arr bx ty esz ver els=>
  obtain⟨loc,cs,h1,h2,d,f,c,l,m,n,o⟩:=h;refine⟨loc,cs,hi.trans h1,h2,d,f,(hb loc h1).trans c,l,m,n,fun i row j x a b=>?_⟩;obtain⟨y,p,q,r⟩:=o i row j x a b;exact⟨y,p,q,r.mono hg⟩
 |map es=>
  obtain⟨loc,ents,clock,h1,h2,d,f,c⟩:=h;exact⟨loc,ents,clock,hi.trans h1,h2,(hb loc h1).trans d,f,fun i k x e a b=>⟨(c i k x e a b).1.mono hg,(c i k x e a b).2.mono hg⟩⟩
 |loop st pend tmps params assign body=>
  obtain⟨loc,L,h1,h2,d,f,c,l,m,n,o⟩:=h;exact⟨loc,L,hi.trans h1,h2,(hb loc h1).trans d,f,c,l.mono hg,m,n,o⟩
def eK (w:World) (o:Obj) {b} (h:b<w.heap.size):(w.alloc o).heap[b]? =w.heap[b]? :=Go.RowKit.Below.heap_alloc w o b h
def Wb {lim} {g} {w} (hw:WG g w) (o:Obj) (n:Nat) (loc:Zk) (hb:loc.b=w.heap.size) (hn:g.ι n=none) (hl:lim<=n):
  sU lim g {G:=g.G,ι:=fun id=>if id=n then some loc else g.ι id} w (w.alloc o)/\
  WG {G:=g.G,ι:=fun id=>if id=n then some loc else g.ι id} (w.alloc o):=by
 have a:∀b o',g.G b=some o'->b<w.heap.size:=fun b o' h=>by
  have:=hw.still b o' h;exact(gI3.1 this).1
 refine⟨⟨⟨fun b o' h=>h,fun id l h=>?_⟩,by simp,fun b hb _=>eK w o hb,fun id l h=>?_,fun id h=>?_,rfl,rfl,rfl,fun b o' h=>.inl h,fun b R hb=>⟨R,(eK w o (gI3.1 hb).1).trans hb⟩⟩,
  ⟨fun b o' h=>?_,fun id l h=>?_,fun id l h=>?_,fun id id' l l' h h' e=>?_⟩⟩
 grind
 grind
 grind
 rw[eK w o (a b o' h)];exact hw.still b o' h;simp only at h;split at h;cases h;simp;omega;have:=hw.lt id l h;simp;omega;simp only at h;split at h;cases h;simp only;cases hG':g.G loc.b with
 |none=>rfl
 |some o'=>have:=a _ _ hG';omega
 exact hw.out id l h;simp only at h h';split at h<;>split at h';omega;cases h;have:=hw.lt id' l' h';omega;cases h';have:=hw.lt id l h;omega;exact hw.inj id id' l l' h h' e
end Go.Sim
namespace Go.Sim
def Out.base (o:Out) (L:Nat->aB AO) (id:Nat):aB AO:=
 match o.up with
 |some (i,ob)=>if id=i then some ob else L id
 |none=>L id
def Out.after (o:Out) (L:Nat->aB AO) (n id:Nat):aB AO:=
 match o.new with
 |some ob=>if id=n then some ob else o.base L id
 |none=>o.base L id
def iL (P:Program) (g:Gh) (lim:Nat) (w:World) (L:Nat->aB AO) (n:Nat) (out:Out) (s:Sem Next):Prop:=
 ∃V nx g' w',s.run P w=.ok nx w'/\(nx=.value V\/(nx=.skip/\V=undef))/\VR g' out.v V/\HR P g' (out.after L n) w'/\WG g' w'/\sU lim g g' w w'/\
  (∀id,g'.ι id≠none->g.ι id≠none\/(id=n/\out.new.isSome))
section
variable {P:Program} {g:Gh} {lim:Nat} {w:World} {L:Nat->Option AO} {n:Nat}
def Nv (v:AV):Out.after {v:=v} L n=L:=rfl
def bX {s} {v} {V} (hr:s.run P w=.ok (.value V) w) (hv:VR g v V) (a:HR P g L w) (b:WG g w):
  iL P g lim w L n {v:=v} s:=
 ⟨V,_,g,w,hr,.inl rfl,hv,a,b,.refl lim g w,fun _ h=>.inl h⟩
def qT {s} {v} {V} {ao} {o} {loc} {w₁} (d:w₁=w\/w₁=w.drew) (hr:s.run P w=.ok (.value V) (w₁.alloc o))
  (hb:loc.b=w.heap.size) (hn:g.ι n=none) (hl:lim<=n)
  (hv:∀g',g.le g'->g'.ι n=some loc->VR g' v V)
  (t:∀g',g.le g'->g'.ι n=some loc->OR P g' (w.alloc o) n ao) (r:HR P g L w) (q:WG g w):
  iL P g lim w L n {v:=v,new:=some ao} s:=by
 obtain⟨f,c⟩:=Wb (lim:=lim) q o n loc hb hn hl;have j:=f.le;have hi:(if n=n then some loc else g.ι n)=some loc:=fJ3 rfl;have hd:∀k:World,k=w\/k=w.drew->(k.alloc o).heap=(w.alloc o).heap:=by rintro k (rfl|rfl)<;>rfl
 have i:=hd w₁ d
 have p:∀{id} {a} {g'},OR P g' (w.alloc o) id a->OR P g' (w₁.alloc o) id a:=fun{id a g'} h=>
  h.mono (Gh.le.refl g') rfl (fun loc _=>by rw[i])
 refine⟨V,_,_,_,hr,.inl rfl,hv _ j hi,?_,?_,?_,?_⟩;intro id a m;simp only[Out.after,Out.base]at m;split at m
 grind
 rename_i e;refine p ((r id a m).mono j ?_ (fun l hl=>eK w o (q.lt id l hl)));simp only;rw[fM3 e];exact⟨fun b o' h=>by rw[i];exact c.still b o' h,fun id l h=>by rw[i];exact c.lt id l h,c.out,c.inj⟩;exact⟨f.le,by rw[i];exact f.size,fun b hb hn=>by rw[i];exact f.keep b hb hn,f.fresh,f.old,by rcases d with rfl|rfl<;>rfl,by rcases d with rfl|rfl<;>rfl,by rcases d with rfl|rfl<;>rfl,f.gfresh,by rw[i];exact f.loops⟩
 grind
def wU {s} {v} {V} {nx} {ao'} {id} {o} {loc} {ver} {w'} (hr:s.run P w=.ok nx w')
  (x:nx=.value V\/(nx=.skip/\V=undef))
  (hi:g.ι id=some loc) (hl:lim<=id) (hver:loc.ver<=ver) (hnl:∀R,w.heap[loc.b]? ≠some (Obj.loop R))
  (hb:w'.heap[loc.b]? =some o) (f:∀b,b≠loc.b->w'.heap[b]? =w.heap[b]?) (B:w'.heap.size=w.heap.size)
  (y:w'.os=w.os) (p:w'.tape=w.tape) (t:w'.output=w.output)
  (hv:∀g',g.le g'->g'.ι id=some {loc with ver:=ver}->VR g' v V)
  (A:∀g',g.le g'->g'.ι id=some {loc with ver:=ver}->OR P g' w' id ao') (z:HR P g L w) (k:WG g w):
  iL P g lim w L n {v:=v,up:=some (id,ao')} s:=by
 let g':Gh:={G:=g.G,ι:=fun i=>if i=id then some {loc with ver:=ver}else g.ι i}
 have d:g.le g':=⟨fun b o h=>h,fun i l h=>by
  by_cases e:i=id;subst e;rw[hi]at h;cases h
  exact⟨{loc with ver:=ver},fJ3 rfl,hver,fun e=>by
   have e:loc.ver=ver:=e;subst e;rfl⟩
  exact⟨l,(fM3 e).trans h,fI3 _,fun _=>rfl⟩⟩
 have c:g'.ι id=some {loc with ver:=ver}:=fJ3 rfl;have m:∀i l,g.ι i=some l->i≠id->l.b≠loc.b:=fun i l h1 h2 r=>h2 (k.inj i id l loc h1 hi r);refine⟨V,nx,g',w',hr,x,hv g' d c,?_,⟨?_,?_,?_,?_⟩,⟨d,by omega,?_,?_,?_,y,p,t,fun b o h=>.inl h,fun b R h=>⟨R,(f b (fun e=>hnl R (by rw[<-e];exact h))).trans h⟩⟩,?_⟩;intro i a u;simp only[Out.after,Out.base]at u;split at u;rename_i e;subst e;cases u;exact A g' d c;rename_i e;exact(z i a u).mono d (fM3 e) (fun l hl=>f _ (m i l hl e));intro b o' h;have h:g.G b=some o':=h;rw[f b (fun e=>by subst e;rw[k.out id loc hi]at h;cases h)];exact k.still b o' h;intro i l h;by_cases e:i=id;subst e;rw[c]at h;cases h;have:=k.lt i loc hi;simp only;omega;have:=k.lt i l ((fM3 e).symm.trans h);omega;intro i l h;by_cases e:i=id;subst e;rw[c]at h;cases h;exact k.out i loc hi;exact k.out i l ((fM3 e).symm.trans h);intro i j l l' h1 h2 r;by_cases q:i=id<;>by_cases e2:j=id;rw[q,e2];subst q;rw[c]at h1;cases h1;exact absurd r.symm (m j l' ((fM3 e2).symm.trans h2) e2);subst e2;rw[c]at h2;cases h2;exact absurd r (m i l ((fM3 q).symm.trans h1) q);exact k.inj i j l l' ((fM3 q).symm.trans h1) ((fM3 e2).symm.trans h2) r;intro b hb hn;exact f b (fun e=>hn id loc hl hi e.symm);intro i l h;by_cases e:i=id;subst e;rw[c]at h;cases h;exact .inl ⟨loc,hi,rfl⟩;exact .inl ⟨l,(fM3 e).symm.trans h,rfl⟩;intro i h;exact fM3 (by omega);intro i h;by_cases e:i=id;subst e;exact .inl (by rw[hi];simp);exact .inl (fun e'=>h ((fM3 e).trans e'))
def Zl {s} {v} {V} {ao'} {id} {o} {loc loc'} {w₁} (f:w₁=w\/w₁=w.drew) (hr:s.run P w=.ok (.value V) (w₁.alloc o))
  (hi:g.ι id=some loc) (hl:lim<=id) (hver:loc.ver<loc'.ver) (hb:loc'.b=w.heap.size)
  (hv:∀g',g.le g'->g'.ι id=some loc'->VR g' v V)
  (x:∀g',g.le g'->g'.ι id=some loc'->OR P g' (w.alloc o) id ao') (u:HR P g L w) (k:WG g w):
  iL P g lim w L n {v:=v,up:=some (id,ao')} s:=by
 let g':Gh:={G:=g.G,ι:=fun i=>if i=id then some loc' else g.ι i}
 have d:g.le g':=⟨fun b o h=>h,fun i l h=>by
  by_cases e:i=id;subst e;rw[hi]at h;cases h;exact⟨loc',fJ3 rfl,by omega,fun e=>by omega⟩;exact⟨l,(fM3 e).trans h,fI3 _,fun _=>rfl⟩⟩
 have c:g'.ι id=some loc':=fJ3 rfl;have hd:(w₁.alloc o).heap=(w.alloc o).heap:=by rcases f with rfl|rfl<;>rfl
 have m:∀{i} {a} {g'},OR P g' (w.alloc o) i a->OR P g' (w₁.alloc o) i a:=fun{i a g'} h=>
  h.mono (Gh.le.refl g') rfl (fun loc _=>by rw[hd])
 have r:∀b o',g.G b=some o'->b<w.heap.size:=fun b o' h=>(gI3.1 (k.still b o' h)).1;refine⟨V,_,g',_,hr,.inl rfl,hv g' d c,?_,⟨?_,?_,?_,?_⟩,⟨d,by rw[hd];simp,?_,?_,?_,by rcases f with rfl|rfl<;>rfl,by rcases f with rfl|rfl<;>rfl,by rcases f with rfl|rfl<;>rfl,fun b o h=>.inl h,fun b R h=>⟨R,by rw[hd];exact(eK w o (gI3.1 h).1).trans h⟩⟩,?_⟩;intro i a q;simp only[Out.after,Out.base]at q;split at q;rename_i e;subst e;cases q;exact m (x g' d c);rename_i e;exact m ((u i a q).mono d (fM3 e) (fun l hl=>eK w o (k.lt i l hl)));intro b o' h;have h:g.G b=some o':=h;rw[hd,eK w o (r b o' h)];exact k.still b o' h;intro i l h;rw[hd];by_cases e:i=id;subst e;rw[c]at h;cases h;simp;omega;have:=k.lt i l ((fM3 e).symm.trans h);simp;omega;intro i l h;by_cases e:i=id;subst e;rw[c]at h;cases h;show g.G loc'.b=none
 cases hG':g.G loc'.b with
 |none=>rfl
 |some o'=>have:=r _ _ hG';omega
 exact k.out i l ((fM3 e).symm.trans h);intro i j l l' h1 h2 t;by_cases p:i=id<;>by_cases e2:j=id;rw[p,e2];subst p;rw[c]at h1;cases h1;have:=k.lt j l' ((fM3 e2).symm.trans h2);omega;subst e2;rw[c]at h2;cases h2;have:=k.lt i l ((fM3 p).symm.trans h1);omega;exact k.inj i j l l' ((fM3 p).symm.trans h1) ((fM3 e2).symm.trans h2) t;intro b hb hn;rw[hd];exact eK w o hb;intro i l h;by_cases e:i=id;subst e;rw[c]at h;cases h;exact .inr (by omega);exact .inl ⟨l,(fM3 e).symm.trans h,rfl⟩;intro i h;exact fM3 (by omega);intro i h;by_cases e:i=id;subst e;exact .inl (by rw[hi];simp);exact .inl (fun e'=>h ((fM3 e).trans e'))
end
end Go.Sim
namespace Go.Sim
section
variable {P:Program} {g:Gh} {lim:Nat} {w:World} {L:Nat->Option AO} {n:Nat}
def tr1 {x} {vs} (h:TR g [x] vs):∃V,vs=[V]/\VR g x V:=by
 match vs,h with
 |[],h=>have:=h.1;simp at this
 |[V],h=>exact⟨V,rfl,h.head⟩
 |_::_::_,h=>have:=h.1;simp at this
def oV {t} (h:P.underlying t≠none) (w:World):(isAgg t).run P w=.ok (eN P t) w:=by
 unfold isAgg eN;cases hu:P.underlying t with
 |none=>exact absurd hu h
 |some d=>simp only[Sem.run_bind,run_underlying hu,Result.andThen_ok];cases d<;>rfl
def gT {t} {i} (h:P.info? t=some i) (w:World):(sizeOf t).run P w=.ok i.size w:=by
 simp[sizeOf,typeInfo,h]
def nK {t} {i} {z} (h:P.info? t=some i) (a:i.zero=some z) (w:World):(zeroValue t).run P w=.ok z w:=by
 simp[zeroValue,typeInfo,h,a]
def nQ {t} {cs} (h:oU P t=some cs):
  ∃i z,P.info? t=some i/\i.zero=some z/\z.cells.toList=cs/\cs.all Value.ground=true/\cs.length=i.size/\i.size≠0:=by
 unfold oU at h;cases hi:P.info? t with
 |none=>simp[hi]at h
 |some i=>
  simp only[hi]at h;cases hz:i.zero with
  |none=>simp[hz]at h
  |some z=>
   simp only[hz]at h;split at h
   grind
   cases h
def nL {x} (h:Value.ground x=true):isCell x=true:=by
 cases x<;>simp_all[Value.ground,isCell]
def wV {zs} (h:zs.all Value.ground=true):TR g (zeroRow zs) zs:=by
 induction zs with
 |nil=>exact .nil g
 |cons a zs ih=>
  simp only[hA3,fF3]at h;exact .cons (.v h.1) (ih h.2)
def oG {zs:aA Value} (h:zs.all Value.ground=true):∀y∈zs,isCell y=true:=fun y hy=>
 nL (fH3.1 h y hy)
def vY1 {ty} {esz ct} {bx} {els} {cs} {id} {loc} (g':Gh) (hi:g'.ι id=some loc) (he:loc.esz=esz) (hv:loc.ver=0)
  (hb:loc.b=w.heap.size) (a:loc.ct=ct) (h0:esz≠0) (hs:cs.size=ct*esz) (hl:els.length<=ct) (hr:∀(i:Nat) (row:aA AV),els[i]? =some row->row.length=esz)
  (hc:∀(i:Nat) (row:aA AV) (j:Nat) (x:AV),els[i]? =some row->row[j]? =some x->∃y,cs[i*esz+j]? =some y/\isCell y=true/\VR g' x y):
  OR P g' (w.alloc (.cells cs ty)) id (.arr bx ty esz 0 els):=
 ⟨loc,cs,hi,he,hv,h0,by rw[hb];exact heap_alloc_new w _,by rw[a];exact hs,by rw[a];exact hl,hr,hc⟩
def dM1 {ty} {bx} {row} {cs} {id} {loc} (g':Gh) (hi:g'.ι id=some loc) (he:loc.esz=row.length) (hv:loc.ver=0)
  (hb:loc.b=w.heap.size) (c:loc.ct=1) (h0:row.length≠0) (d:TR g' row cs) (hc:∀y∈cs,isCell y=true):
  OR P g' (w.alloc (.cells cs.toArray ty)) id (.arr bx ty row.length 0 [row]):=by
 refine vY1 g' hi he hv hb c h0 (by simp[d.1]) (by simp) (fun i r h=>?_) (fun i r j x h e=>?_)
 grind
 cases i with
 |zero=>
  simp at h;subst h;have f:j<row.length:=(fE3.1 e).1;have a:j<cs.length:=by have:=d.1;omega
  refine⟨cs[j],by simp[a],hc _ (gX3 a),d.2 j x _ e (by simp[a])⟩
 |succ i=>simp at h
variable (ρ:Operand->Value) (o:Oper) {k:iV} {os:List Operand} {xs:List AV} {out:Out}
def dN1 {x} (c:o.op=.move x\/o.op=.assign x) (b:TR g xs [ρ x]) (hd:doOp L lim n .mov xs=some out) (d:HR P g L w) (e:WG g w):
  iL P g lim w L n out (execOp ρ o):=by
 match xs,b with
 |[],b=>have:=b.1;simp at this
 |[a],b=>
  simp only[doOp,fN3]at hd;subst hd;refine bX (V:=ρ x) ?_ b.head d e;rcases c with c|c<;>simp[execOp,c]
 |_::_::_,b=>have:=b.1;simp at this
def lP1 {c a b} (h:o.op=.pick c a b) (d:TR g xs [ρ c,ρ a,ρ b]) (hd:doOp L lim n .pick xs=some out) (e:HR P g L w) (f:WG g w):
  iL P g lim w L n out (execOp ρ o):=by
 match xs,d with
 |[],d=>have:=d.1;simp at this
 |[_],d=>have:=d.1;simp at this
 |[_,_],d=>have:=d.1;simp at this
 |[x,y,z],d=>
  simp only[doOp]at hd;split at hd;rename_i t;cases hd;have hc:=d.head.bool;refine bX (V:=if t then ρ a else ρ b) ?_ ?_ e f;simp[execOp,h,hc,asBool];cases t;exact d.tail.tail.head;exact d.tail.head;cases hd
 |_::_::_::_::_,d=>have:=d.1;simp at this
def lQ1 {x} (l:o.op=.nilCheck x) (e:TR g xs [ρ x]) (hd:doOp L lim n .nilc xs=some out) (i:HR P g L w) (j:WG g w):
  iL P g lim w L n out (execOp ρ o):=by
 match xs,e with
 |[],e=>have:=e.1;simp at this
 |[a],e=>
  have b:=e.head;simp only[doOp]at hd
  have key:∀V,ρ x=V->(∃p,V=.pointer (some p))\/(∃f c d,V=.func (.func f) c d)\/(∃f c d,V=.func (.yield f) c d)->(execOp ρ o).run P w=.ok (.value V) w:=by
   intro V k h;rcases h with⟨p,rfl⟩|⟨f,c,d,rfl⟩|⟨f,c,d,rfl⟩<;>simp[execOp,l,k]
  split at hd;cases hd;refine bX (key _ rfl ?_) b i j;generalize ρ x=V at b;cases b;exact .inl ⟨_,rfl⟩;cases hd;refine bX (key _ rfl ?_) b i j;generalize ρ x=V at b;cases b;exact .inl ⟨_,rfl⟩;cases hd;refine bX (key _ rfl ?_) b i j;generalize ρ x=V at b;cases b;exact .inr (.inl ⟨_,_,_,rfl⟩);cases hd;refine bX (key _ rfl ?_) b i j;generalize ρ x=V at b;cases b;exact .inr (.inr ⟨_,_,_,rfl⟩);cases hd
 |_::_::_,e=>have:=e.1;simp at this
def vZ1 {ty} {x} {i} (m:o.op=.box ty x) (hi:P.info? ty=some i) (d:TR g xs [ρ x]) (hd:doOp L lim n (.box ty i.size) xs=some out) (j:HR P g L w) (k:WG g w)
  (hn:g.ι n=none) (hl:lim<=n):iL P g lim w L n out (execOp ρ o):=by
 match xs,d with
 |[],d=>have:=d.1;simp at this
 |[a],d=>
  have l:=d.head;simp only[doOp]at hd;split at hd;rename_i cs f;split at hd;rename_i hc;obtain⟨hlen,h⟩:=hc;cases hd;obtain⟨p,b⟩:=l.cells f;refine qT (w₁:=w) (o:=.cells (ρ x).cells ty) (V:=.pointer (some ⟨w.heap.size,0,none⟩)) (loc:=⟨w.heap.size,cs.length,1,0⟩) (.inl rfl) ?_ rfl hn hl ?_ ?_ j k;simp[execOp,m,Instr.box,newVar,newRow];intro g' e c;exact .ptr c (fI3 _) (fun _=>by simp);intro g' e c;rw[<-hlen];have:=dM1 (P:=P) (w:=w) (ty:=ty) (bx:=true) g' c rfl rfl rfl rfl (by omega) (p.mono e) b;simpa using this;cases hd;cases hd
 |_::_::_,d=>have:=d.1;simp at this
def dO1 {ty:TypeId} {z:aA Value} (l:o.op=.alloc ty) (m:oU P ty=some z) (c:TR g xs []) (hd:doOp L lim n (.alloc ty z) xs=some out) (h:HR P g L w) (j:WG g w)
  (hn:g.ι n=none) (hl:lim<=n):iL P g lim w L n out (execOp ρ o):=by
 match xs,c with
 |[],c=>
  simp only[doOp,fN3]at hd;subst hd;obtain⟨i,p,hi,f,d,hg,hlen,k⟩:=nQ m;refine qT (w₁:=w) (o:=.cells p.cells ty) (V:=.pointer (some ⟨w.heap.size,0,none⟩)) (loc:=⟨w.heap.size,z.length,1,0⟩) (.inl rfl) ?_ rfl hn hl ?_ ?_ h j;simp[execOp,l,Instr.alloc,nK hi f,newVar,newRow];intro g' e a;exact .ptr a (fI3 _) (fun _=>by simp);intro g' e a;have b:(zeroRow z).length=z.length:=by simp[zeroRow]
  have:=dM1 (P:=P) (w:=w) (ty:=ty) (bx:=true) (row:=zeroRow z) (cs:=z) g' a b.symm rfl rfl rfl (by omega) (wV hg) (oG hg);rw[b]at this;rw[<-d]at this ⊢;simpa using this
 |_::_,c=>have:=c.1;simp at this
end
end Go.Sim
namespace Go.Sim
variable {esz j m n:Nat}
section
variable {P:Program} {g:Gh} {lim:Nat} {w:World} {L:Nat->Option AO}
def Dq (d:WG g w) {a} (hs:a.spot=none) {j} {y} (h:g.cell a j=some y):w.cell? (a.add j)=some y:=by
 unfold Gh.cell at h;split at h;rename_i c ty fr he;have hb:=d.still _ _ he;unfold World.cell?;have h1:(a.add j).block=a.block:=by unfold Addr.add;split<;>rfl
 have h2:(a.add j).off=a.off+j:=by unfold Addr.add;split<;>simp_all
 have b:(a.add j).spot=none:=by unfold Addr.add;split<;>simp_all
 rw[h1,hb];simp[h2,b,h];cases h
def Hn (a:Addr):a.add 0=a:=by simp[Addr.add]
def kZ (b off j:Nat):(⟨b,off,none⟩:Addr).add j=⟨b,off+j,none⟩:=by
 unfold Addr.add;split
 subst_vars;rfl
 rfl
def vH {t} (c:P.underlying t≠none) (b:eN P t=false) {a} {y} (hc:w.cell? a=some y):(loadVar t a).run P w=.ok y w:=by
 simp[loadVar,oV c,b,hc]
def vI {t:TypeId} {i:TypeInfo} (c:P.underlying t≠none) (b:eN P t=true) (hi:P.info? t=some i) {a:Addr} {ys:aA Value} (hl:ys.length=i.size)
  (hc:∀j y,ys[j]? =some y->w.cell? (a.add j)=some y):(loadVar t a).run P w=.ok (.agg ys.toArray) w:=by
 have h:=run_loadCells_list (P:=P) w a ys hc;rw[hl]at h;simp[loadVar,oV c,b,gT hi,h]
def Nw (e:WG g w) {cells} {V} (h:VR g (.ip cells) V):
  ∃a ys,V=.pointer (some a)/\TR g cells ys/\(∀y∈ys,isCell y=true)/\∀j y,ys[j]? =some y->w.cell? (a.add j)=some y:=by
 cases h with
 |@ip _ _ a hs hc hv=>
  refine⟨a,(List.range cells.length).map fun j=>(g.cell a j).getD undef,rfl,⟨by simp,fun i x y c hy=>?_⟩,fun y hy=>?_,fun j y hy=>?_⟩;obtain⟨d,h1,h2⟩:=hc i x c;have hi:i<cells.length:=(fE3.1 c).1;simp[hi,h1]at hy;subst hy;exact(hv i x d c h1).mono ⟨fun _ _ h=>h,fun _ _ h=>by simp[Gh.still]at h⟩;simp at hy;obtain⟨j,b,rfl⟩:=hy;obtain⟨d,h1,h2⟩:=hc j cells[j] (by simp[b]);simp[h1,h2];simp only[gG3]at hy;by_cases b:j<cells.length;obtain⟨d,h1,h2⟩:=hc j cells[j] (by simp[b]);simp[b,h1]at hy;subst hy;exact Dq e hs h1;simp[b]at hy
def dP1 (g:Gh):g.still.le g:=⟨fun _ _ h=>h,fun _ _ h=>by simp[Gh.still]at h⟩
def Kk (n:HR P g L w) {id ver e o'} {V} (h:VR g (.ptr id ver e o') V) {bx} {ty} {esz} {els} (o:L id=some (.arr bx ty esz ver els)):
  ∃loc cs,g.ι id=some loc/\loc.esz=esz/\loc.ver=ver/\esz≠0/\V=.pointer (some ⟨loc.b,e*esz+o',none⟩)/\w.heap[loc.b]? =some (.cells cs ty (0,0))/\cs.size=loc.ct*esz/\
   els.length<=loc.ct/\(∀(i:Nat) (row:aA AV),els[i]? =some row->row.length=esz)/\
   ∀(i:Nat) (row:aA AV) (j:Nat) (x:AV),els[i]? =some row->row[j]? =some x->∃y,cs[i*esz+j]? =some y/\isCell y=true/\VR g x y:=by
 obtain⟨loc,cs,h1,h2,a,c,d,f,k,l,m⟩:=n id _ o;cases h with
 |@ptr _ _ _ _ _ loc' p hi hver hp=>
  rw[h1]at hi;cases hi;rw[hp a,h2];exact⟨loc,cs,h1,h2,a,c,rfl,d,f,k,l,m⟩
def zJ {b off} {cs} {ty} {fr} (h:w.heap[b]? =some (.cells cs ty fr)):w.cell? ⟨b,off,none⟩=cs[off]? :=by
 simp[World.cell?,h]
def dQ1 {cs:Array Value} {e o':Nat} {els:aA (aA AV)} {row:aA AV} (a:els[e]? =some row)
  (c:∀i row j x,els[i]? =some row->row[j]? =some x->∃y,cs[i*esz+j]? =some y/\isCell y=true/\VR g x y) (h:o'+m<=row.length):
  ∃ys:aA Value,ys.length=m/\TR g ((row.drop o').take m) ys/\(∀y∈ys,isCell y=true)/\∀j y,ys[j]? =some y->cs[e*esz+o'+j]? =some y:=by
 refine⟨(List.range m).map fun j=>(cs[e*esz+o'+j]?).getD undef,by simp,⟨by simp;omega,fun i x y k hy=>?_⟩,fun y hy=>?_,fun j y hy=>?_⟩
 grind
 simp at hy;obtain⟨j,b,rfl⟩:=hy;obtain⟨f,h1,h2,d⟩:=c e row (o'+j) row[o'+j] a (by simp);rw[<-gY3]at h1;simp[h1,h2];by_cases b:j<m;obtain⟨f,h1,h2,d⟩:=c e row (o'+j) row[o'+j] a (by simp);rw[<-gY3]at h1;simp[b,h1]at hy;subst hy;exact h1;simp[b]at hy
variable (ρ:Operand->Value) (o:Oper) {k:iV} {os:List Operand} {xs:List AV} {out:Out}
def dR1 {p} {V} (hp:VR g p V) (hd:doOp L lim n .loadS [p]=some out) (k:HR P g L w) (m:WG g w):
  ∃v a y,out={v:=v}/\V=.pointer (some a)/\w.cell? a=some y/\VR g v y:=by
 simp only[doOp]at hd;split at hd;rename_i c r;cases hd;obtain⟨a,ys,rfl,f,hc,b⟩:=Nw m hp
 match ys,f with
 |[],f=>have:=f.1;simp at this
 |y::ys,f=>
  have:=b 0 y rfl;rw[Hn]at this;exact⟨c,a,y,rfl,rfl,this,f.head⟩
 rename_i id ver e o';split at hd;rename_i bx ty esz h els l;split at hd;rename_i hv;subst hv;split at hd;rename_i row d;split at hd;rename_i x o;cases hd;obtain⟨loc,cs,h1,h2,t,u,rfl,i,z,A,B,j⟩:=Kk k hp l;obtain⟨y,q,C,s⟩:=j e row o' x d o;exact⟨x,_,y,rfl,rfl,(zJ i).trans q,s⟩;cases hd;cases hd;cases hd;cases hd;cases hd
def dS1 {m} {p} {V} (hp:VR g p V) (hd:doOp L lim n (.loadA m) [p]=some out) (q:HR P g L w) (s:WG g w):
  ∃(vs:aA AV) (a:Addr) (ys:aA Value),out={v:=.agg vs}/\V=.pointer (some a)/\ys.length=m/\(∀j y,ys[j]? =some y->w.cell? (a.add j)=some y)/\VR g (.agg vs) (.agg ys.toArray):=by
 simp only[doOp]at hd;split at hd;rename_i cells;split at hd;rename_i h;cases hd;obtain⟨a,ys,rfl,f,hc,b⟩:=Nw s hp;have hlen:=f.1;refine⟨_,a,ys.take m,rfl,rfl,by simp;omega,fun j y hy=>?_,.agg (by simp;omega) (fun i y hy=>?_) (fun i x y d hy=>?_)⟩
 grind
 grind
 rw[gA3]at d;simp[gA3]at hy;split at d;exact f.2 i x y d hy.2;cases d;cases hd;rename_i id ver e o';split at hd;rename_i bx ty esz k els r;split at hd;rename_i hv;subst hv;split at hd;rename_i row c;split at hd;rename_i h;cases hd;obtain⟨loc,cs,h1,h2,t,u,rfl,l,z,A,B,o⟩:=Kk q hp r;obtain⟨ys,hl,f,hc,b⟩:=dQ1 c o h;refine⟨_,_,ys,rfl,rfl,hl,fun j y hy=>?_,.agg (by simpa using f.1) (fun i y hy=>?_) (fun i x y d hy=>?_)⟩;rw[kZ,zJ l];exact b j y hy
 grind
 grind
 cases hd;cases hd;cases hd;cases hd;cases hd
def dT1 {t} {x} (h:o.op=.load t x) (i:P.underlying t≠none) (f:eN P t=false) (b:TR g xs [ρ x]) (hd:doOp L lim n .loadS xs=some out)
  (c:HR P g L w) (d:WG g w):iL P g lim w L n out (execOp ρ o):=by
 match xs,b with
 |[],b=>have:=b.1;simp at this
 |[p],b=>
  obtain⟨v,a,y,rfl,e,hc,hv⟩:=dR1 b.head hd c d;refine bX (V:=y) ?_ hv c d;simp[execOp,h,Instr.loadAt,e,Instr.sureAddr,vH i f hc]
 |_::_::_,b=>have:=b.1;simp at this
def dU1 {t} {x} {i} (h:o.op=.load t x) (j:P.underlying t≠none) (f:eN P t=true) (hi:P.info? t=some i) (b:TR g xs [ρ x])
  (hd:doOp L lim n (.loadA i.size) xs=some out) (c:HR P g L w) (d:WG g w):iL P g lim w L n out (execOp ρ o):=by
 match xs,b with
 |[],b=>have:=b.1;simp at this
 |[p],b=>
  obtain⟨vs,a,ys,rfl,e,hl,hc,hv⟩:=dS1 b.head hd c d;refine bX (V:=.agg ys.toArray) ?_ hv c d;simp[execOp,h,Instr.loadAt,e,Instr.sureAddr,vI j f hi hl hc]
 |_::_::_,b=>have:=b.1;simp at this
def nR {α}:∀(row:aA α) (o:Nat) (cs:aA α),(setL row o cs).length=row.length
 |row,o,[]=>rfl
 |row,o,c::cs=>by rw[setL,nR];simp
def Dr {α}:∀(row:aA α) (o:Nat) (cs:aA α) (j:Nat),o+cs.length<=row.length->
  (setL row o cs)[j]? =if o<=j/\j<o+cs.length then cs[j-o]? else row[j]?
 |row,o,[],j,h=>by
  rw[setL,fM3 (by simp only[fV3];omega)]
 |row,o,c::cs,j,h=>by
  simp only[gR3]at h
  rw[setL,Dr (row.set o c) (o+1) cs j (by simp;omega),gE3]
  by_cases h1:o=j
  grind
  grind
def qG (w:World) (g:Nat) (arr:Array Value):(w.setRow g arr).os=w.os/\(w.setRow g arr).tape=w.tape/\(w.setRow g arr).output=w.output/\(w.setRow g arr).heap.size=w.heap.size:=
 ⟨rfl,rfl,rfl,by simp[World.setRow]⟩
def Wc (a vs:aA Value) (k j:Nat) (h:k+vs.length<=a.length):
  (a.take k++vs++a.drop (k+vs.length))[j]? =if k<=j/\j<k+vs.length then vs[j-k]? else a[j]? :=by
 have hk:(a.take k).length=k:=by simp;omega
 rw[hG3,hG3,hH3,hk,gA3,gM3];by_cases h1:j<k
 grind
 grind
def lR1 (a vs:aA Value) (k:Nat) (h:k+vs.length<=a.length):(a.take k++vs++a.drop (k+vs.length)).length=a.length:=by grind
def Wd {α:Type} {l:aA α} {i:Nat} {a r:α} (h:(l.set i a)[j]? =some r):(i=j/\i<l.length/\r=a)\/(i≠j/\l[j]? =some r):=by grind
def dV1 {t} {x y} {i} (ho:o.op=.store t x y) (hi:P.info? t=some i) (h:TR g xs [ρ x,ρ y]) (hd:doOp L lim n (.store i.size) xs=some out)
  (S:HR P g L w) (hW:WG g w):iL P g lim w L n out (execOp ρ o):=by
 match xs,h with
 |[],h=>have:=h.1;simp at this
 |[_],h=>have:=h.1;simp at this
 |[p,a],h=>
  simp only[doOp]at hd;split at hd;rename_i id ver e o' cs A;split at hd;rename_i bx ty esz U els hL;split at hd;rename_i hv;obtain⟨rfl,hl,b0⟩:=hv;split at hd;rename_i row f;split at hd;rename_i hm;cases hd;obtain⟨loc,arr,h1,h2,W,X,hV,N,Y,Z,z,O⟩:=Kk S h.head hL;obtain⟨u,d⟩:=h.tail.head.cells A;have E:=z e row f;have he:e<els.length:=(fE3.1 f).1
  have m:e*esz+o'+(ρ y).cells.toList.length<=arr.size:=by
   rw[<-u.1,Y];have:(e+1)*esz<=loc.ct*esz:=gS3 _ (by omega);rw[hQ3]at this;omega
  have s:=run_storeCells_at P loc.b (e*esz+o') ty (ρ y).cells.toList 0 arr w N (by simpa using m) (fun v hv=>by have:=d v hv;cases v<;>simp_all[isCell,Value.oneCell']);simp only[hP3]at s;obtain⟨p1,p2,p3,p4⟩:=qG w loc.b (arr.toList.take (e*esz+o')++(ρ y).cells.toList++arr.toList.drop (e*esz+o'+(ρ y).cells.toList.length)).toArray;have l:=setRow_heap w loc.b arr (arr.toList.take (e*esz+o')++(ρ y).cells.toList++arr.toList.drop (e*esz+o'+(ρ y).cells.toList.length)).toArray ty (0,0) N
  refine wU (hnl:=fun R hR=>by simp_all) (nx:=.skip) (V:=undef) (o:=.cells (arr.toList.take (e*esz+o')++(ρ y).cells.toList++arr.toList.drop (e*esz+o'+(ρ y).cells.toList.length)).toArray ty (0,0))
   (loc:=loc) (ver:=loc.ver) ?_ (.inr ⟨rfl,rfl⟩) h1 hl (fI3 _) l (fun b hb=>setRow_other w loc.b b _ hb) p4 p1 p2 p3 (fun g' _ _=>.undef g') (fun g' q B=>?_) S hW
  have F:(ρ y).cells.size=i.size:=by have:=u.1;simp at this;omega
  simp[execOp,ho,Instr.storeAt,hV,Instr.sureAddr,storeVar,gT hi,F,s];refine⟨_,_,B,h2,W,X,l,?_,by simpa using Z,fun i r hr=>?_,fun i r j x hr c=>?_⟩
  grind
  rcases Wd hr with⟨rfl,_,rfl⟩|⟨_,hr⟩
  rw[nR];exact E;exact z i r hr;have aK:=Wc arr.toList (ρ y).cells.toList (e*esz+o') (i*esz+j) (by simpa using m);simp only[List.getElem?_toArray,aK];rcases Wd hr with⟨rfl,_,rfl⟩|⟨hie,hr⟩
  rw[Dr row o' cs j (by omega)]at c;have G:=u.1;split at c;rename_i T;rw[fJ3 (by omega)];have C:e*esz+j-(e*esz+o')=j-o':=by omega
  rw[C];have k:j-o'<(ρ y).cells.toList.length:=by omega
  refine⟨(ρ y).cells.toList[j-o'],by rw[fP3 k],d _ (gX3 k),?_⟩;exact(u.2 (j-o') x _ c (fP3 k)).mono q;rename_i T;rw[fM3 (by omega)];obtain⟨M,H,J,K⟩:=O e row j x f c;exact⟨M,by simpa using H,J,K.mono q⟩;have T:j<esz:=by have:=z i r hr;have:=(fE3.1 c).1;omega
  have D:¬(e*esz+o'<=i*esz+j/\i*esz+j<e*esz+o'+(ρ y).cells.toList.length):=by
   have G:=u.1;intro hc;rcases Nat.lt_trichotomy e i with k|heq|hgt;have:(e+1)*esz<=i*esz:=gS3 _ (by omega);rw[hQ3]at this;omega;exact hie heq;have:(i+1)*esz<=e*esz:=gS3 _ (by omega);rw[hQ3]at this;omega
  rw[fM3 D];obtain⟨M,H,J,K⟩:=O i r j x hr c;exact⟨M,by simpa using H,J,K.mono q⟩;cases hd;cases hd;cases hd;cases hd;cases hd
 |_::_::_::_,h=>have:=h.1;simp at this
end
end Go.Sim
namespace Go.Sim
variable {e t:TypeId}
section
variable {P:Program} {g:Gh} {lim:Nat} {w:World} {L:Nat->Option AO} {n:Nat}
def oS (a:Addr) (hs:a.spot=none) (m j:Nat):g.cell (a.add m) j=g.cell a (m+j):=by
 unfold Gh.cell;have h1:(a.add m).block=a.block:=by unfold Addr.add;split<;>rfl
 have h2:(a.add m).off=a.off+m:=by unfold Addr.add;split<;>simp_all
 rw[h1,h2,gY3]
def Dt {a:Addr} (hs:a.spot=none) (m:Nat):(a.add m).spot=none:=by unfold Addr.add;split<;>simp_all
def We {cells:aA AV} {a:Addr} (h:VR g (.ip cells) (.pointer (some a))) (m:Nat):VR g (.ip (cells.drop m)) (.pointer (some (a.add m))):=by
 cases h with
 |ip hs hc hv=>
  refine .ip (Dt hs m) (fun j x b=>?_) (fun j x y b hy=>?_);rw[gM3]at b;rw[oS a hs];exact hc (m+j) x b;rw[gM3]at b;rw[oS a hs]at hy;exact hv (m+j) x y b hy
variable (ρ:Operand->Value) (o:Oper) {k:iV} {os:List Operand} {xs:List AV} {out:Out}
def wA1 {s} {x} {f} {fs} {fd} {i} (j:o.op=.fieldAddr s x f) (k:P.underlying s=some (.struct fs)) (hf:fs[f]? =some fd)
  (hi:P.info? fd.type=some i) (h0:i.size≠0) (b:TR g xs [ρ x]) (hd:doOp L lim n (.fad fd.offset) xs=some out) (c:HR P g L w) (d:WG g w):iL P g lim w L n out (execOp ρ o):=by
 match xs,b with
 |[],b=>have:=b.1;simp at this
 |[p],b=>
  have hp:=b.head
  have key:∀a:Addr,ρ x=.pointer (some a)->(execOp ρ o).run P w=.ok (.value (.pointer (some (a.add fd.offset)))) w:=by
   intro a h;simp[execOp,j,Instr.fieldAt,run_underlying k,hf,h,Instr.sureAddr,fieldPlace,gT hi,h0]
  simp only[doOp]at hd;split at hd;cases hd;generalize hV:ρ x=V at hp;cases hp with
  |ip hs hc hv=>exact bX (key _ hV) (We (.ip hs hc hv) _) c d
  cases hd;generalize hV:ρ x=V at hp;cases hp with
  |ptr hi' hver hp=>
   refine bX (key _ hV) (.ptr hi' hver (fun e=>?_)) c d;rw[hp e,kZ,gY3]
  cases hd
 |_::_::_,b=>have:=b.1;simp at this
def jS {x} {i} (h:intOf x=some i) {V} (hv:VR g x V):∃k,V=.int k i:=by
 cases x with
 |v y=>
  cases y with
  |int k n=>simp[intOf]at h;subst h;exact⟨k,hv.ground⟩
  |_=>simp[intOf]at h
 |_=>simp[intOf]at h
def wB1 {x u:Operand} {k:TypeInfo} (A:o.op=.indexAddr t x u) (C:P.underlying t=some (.slice e)) (hi:P.info? e=some k) (h0:k.size≠0)
  (d:TR g xs [ρ x,ρ u]) (hd:doOp L lim n (.iad k.size) xs=some out) (r:HR P g L w) (s:WG g w):iL P g lim w L n out (execOp ρ o):=by
 match xs,d with
 |[],d=>have:=d.1;simp at this
 |[_],d=>have:=d.1;simp at this
 |[a,j],d=>
  have l:=d.head;simp only[doOp]at hd;split at hd;rename_i i m;obtain⟨D,v⟩:=jS m d.tail.head
  have key:∀p len cap,ρ x=.slice (some p) len cap->0<=i->i<len->(execOp ρ o).run P w=.ok (.value (.pointer (some (p.add (i.toNat*k.size))))) w:=by
   intro p len cap hp h1 h2;simp[execOp,A,Instr.indexAt,v,asIntOf,run_underlying C,hp,h1,h2,gT hi]
  split at hd;rename_i esz els;split at hd;rename_i hc;obtain⟨rfl,h⟩:=hc;split at hd;rename_i row b;cases hd;generalize hV:ρ x=V at l;cases l with
  |is0=>simp at b
  |@is _ _ _ p cap hs hl hr hc hv=>
   have z:i.toNat<els.length:=(fE3.1 b).1;refine bX (key p _ cap hV h (by omega)) ?_ r s;refine .ip (Dt hs _) (fun j x d=>?_) (fun j x y d hy=>?_);rw[oS p hs];exact hc _ row j x b d;rw[oS p hs]at hy;exact hv _ row j x y b d hy
  cases hd;cases hd;rename_i esz id ver off len cap;split at hd;rename_i hc;obtain⟨rfl,h1,h2⟩:=hc;cases hd;generalize hV:ρ x=V at l;cases l with
  |@sl _ _ _ _ _ _ _ loc p c hi2 hver hlen hs hp=>
   refine bX (key p _ c hV h1 h2) (.ptr hi2 hver (fun e=>?_)) r s;obtain⟨q,f,B,_,_⟩:=hp e;rcases f with f|f;omega;subst f;rw[kZ,q,hK3];simp
  cases hd;cases hd;cases hd
 |_::_::_::_,d=>have:=d.1;simp at this
end
end Go.Sim
namespace Go.Sim
section
variable {P:Program} {g:Gh}
def Wg (P:Program) (t:TypeId) (Cs:aA Value):Value:=if eN P t then .agg Cs.toArray else Cs.headD undef
def wW {t} {i} (a:P.underlying t≠none) (hi:P.info? t=some i) (Cs:aA Value) (off:Nat) (h:off<Cs.length) (w:World):
  (part t Cs.toArray off).run P w=.ok (Wg P t ((Cs.drop off).take i.size)) w\/i.size=0:=by
 by_cases h0:i.size=0;exact .inr h0;left;unfold part Wg;simp only[Sem.run_bind,oV a,Result.andThen_ok,Sem.run_ite];cases ha:eN P t with
 |true=>
  simp only[gF3,Sem.run_bind,gT hi,Result.andThen_ok,Sem.run_pure];congr 2;apply jK3;simp[List.extract_eq_take_drop]
 |false=>
  simp only[fR3,gT3];have:(Cs.toArray)[off]? =some Cs[off]:=by simp[h]
  rw[this];simp only[Sem.run_pure];congr 1;simp[List.head?_take,h0,h]
def oW:∀e f as bs c d,as.length=e.length->bs.length=e.length->
  cellsEq (e++f) (as++c) (bs++d)=match cellsEq e as bs with|some true=>cellsEq f c d|r=>r
 |[],f,as,bs,c,d,h1,h2=>by
  have:as=[]:=by simpa using h1
  have g:bs=[]:=by simpa using h2
  subst this g
  simp[cellsEq]
 |k::e,f,[],_,_,_,h1,h2=>by simp at h1
 |k::e,f,_::_,[],_,_,h1,h2=>by simp at h2
 |k::e,f,a::as,b::bs,c,d,h1,h2=>by
  simp only[hT3,cellsEq]
  cases cellEq k a b with
  |none=>rfl
  |some r=>
   cases r
   rfl
   exact oW e f as bs c d (by simpa using h1) (by simpa using h2)
def TR.take {t} {v} (h:TR g t v) (m:Nat):TR g (t.take m) (v.take m):=by
 refine⟨by simp[h.1],fun i x y a b=>?_⟩;rw[gA3]at a b;split at a;rename_i hc;rw[fJ3 hc]at b;exact h.2 i x y a b;cases a
def TR.drop {t} {v} (h:TR g t v) (m:Nat):TR g (t.drop m) (v.drop m):=by
 refine⟨by simp[h.1],fun i x y a b=>?_⟩;rw[gM3]at a b;exact h.2 _ x y a b
def oX {d} {t} {ks} (h:gF P d t=some ks):P.underlying t≠none:=by
 cases d with
 |zero=>simp[gF]at h
 |succ d=>intro e;simp[gF,e]at h
def EqK (P:Program) (g:Gh) (D:Nat) (t:TypeId) (ks:aA CK):Prop:=
 ∀(as bs:aA AV) (Cs Ds:aA Value) (r:Bool) (w:World),TR g as Cs->TR g bs Ds->as.length=ks.length->bs.length=ks.length->cellsEq ks as bs=some r->
  (Op.equalIn D t (Wg P t Cs) (Wg P t Ds)).run P w=.ok r w
def iR {α} (l:aA α) (off m:Nat) (h:off+m<=l.length):((l.drop off).take m).length=m:=by simp;omega
def Nx {d D} (IH:∀t ks,gF P d t=some ks->EqK P g D t ks):∀(fs:aA Field) (off:Nat) (ks:aA CK),pX (gF P d) P fs off=some ks->
  ∀(as bs:aA AV) (Cs Ds:aA Value) (r:Bool) (w:World),TR g as Cs->TR g bs Ds->off+ks.length<=as.length->off+ks.length<=bs.length->
   cellsEq ks ((as.drop off).take ks.length) ((bs.drop off).take ks.length)=some r->(Op.eqFields D Cs.toArray Ds.toArray fs).run P w=.ok r w:=by
 intro fs
 induction fs with
 |nil=>
  intro off ks h as bs Cs Ds r w o hb h1 h2 hr;simp only[pX,fN3]at h;subst h;simp[cellsEq]at hr;subst hr;simp[Op.eqFields]
 |cons f fs ih=>
  intro off ks h as bs Cs Ds r w o hb h1 h2 hr;simp only[pX]at h;split at h;rename_i hc;obtain⟨rfl,e⟩:=hc;split at h;rename_i c i hk hi;split at h;rename_i m;obtain⟨j,h0⟩:=m;split at h;rename_i n u;cases h;simp only[hH3]at h1 h2
  have p:∀(l:aA AV),f.offset+(c.length+n.length)<=l.length->(l.drop f.offset).take (c.length+n.length)=(l.drop f.offset).take c.length++(l.drop (f.offset+c.length)).take n.length:=by
   intro l hl;rw[List.take_add,iB3]
  rw[hH3,p as h1,p bs h2,oW c n _ _ _ _ (iR _ _ _ (by omega)) (iR _ _ _ (by omega))]at hr;simp only[Op.eqFields,ne_eq,e,not_false_eq_true,gF3,Sem.run_bind];have s:=oX hk
  have key:∀q:Bool,cellsEq c ((as.drop f.offset).take c.length) ((bs.drop f.offset).take c.length)=some q->
    ((part f.type Cs.toArray f.offset).run P w).andThen (fun a w'=>((part f.type Ds.toArray f.offset).run P w').andThen fun b w'=>((Op.equalIn D f.type a b).run P w').andThen fun r w'=>
     (if(!r)=true then(pure false:Sem Bool)else Op.eqFields D Cs.toArray Ds.toArray fs).run P w')=
    (if(!q)=true then(pure false:Sem Bool)else Op.eqFields D Cs.toArray Ds.toArray fs).run P w:=by
   intro q k;have p1:=wW s hi Cs f.offset (by rw[<-o.1];omega) w;have p2:=wW s hi Ds f.offset (by rw[<-hb.1];omega) w;rcases p1 with p1|p1;rcases p2 with p2|p2;rw[p1,Result.andThen_ok,p2,Result.andThen_ok];have:=IH f.type c hk _ _ _ _ q w ((o.drop f.offset).take i.size) ((hb.drop f.offset).take i.size) (by rw[j];exact iR _ _ _ (by omega)) (by rw[j];exact iR _ _ _ (by omega)) (by rw[j];exact k);rw[this,Result.andThen_ok];omega;omega
  cases k:cellsEq c ((as.drop f.offset).take c.length) ((bs.drop f.offset).take c.length)with
  |none=>rw[k]at hr;cases hr
  |some q=>
   rw[k]at hr;rw[key q k];cases q;cases hr;simp
   grind
  cases h;cases h;cases h;cases h
def Zm {D} {e} {k1} {i} (h:P.underlying e≠none) (hi:P.info? e=some i) (a:i.size=k1.length) (h0:k1.length≠0) (IH:EqK P g D e k1):
  ∀(m:Nat) (js:aA Nat) (base:Nat),js=List.range' base m->∀(as bs:aA AV) (Cs Ds:aA Value) (r:Bool) (w:World),TR g as Cs->TR g bs Ds->
   (base+m)*k1.length<=as.length->(base+m)*k1.length<=bs.length->
   cellsEq ((List.replicate m k1).flatten) ((as.drop (base*k1.length)).take (m*k1.length)) ((bs.drop (base*k1.length)).take (m*k1.length))=some r->
   (Op.eqItems D e i.size Cs.toArray Ds.toArray js).run P w=.ok r w:=by
 intro m
 induction m with
 |zero=>
  intro js base d as bs Cs Ds r w b hb h1 h2 hr;subst d;simp[cellsEq]at hr;subst hr;simp[Op.eqItems]
 |succ m ih=>
  intro js base d as bs Cs Ds r w b hb h1 h2 hr;subst d;have j:(base+(m+1))*k1.length=base*k1.length+(k1.length+m*k1.length):=by rw[hK3,hQ3];omega
  rw[j]at h1 h2;have c:(base+1)*k1.length=base*k1.length+k1.length:=hQ3 _ _
  have f:∀(l:aA AV),(l.drop (base*k1.length)).take ((m+1)*k1.length)=(l.drop (base*k1.length)).take k1.length++(l.drop ((base+1)*k1.length)).take (m*k1.length):=by
   intro l;rw[hQ3,hV3,List.take_add,iB3,c]
  rw[List.replicate_succ,jE3,f as,f bs,oW k1 _ _ _ _ _ (iR _ _ _ (by omega)) (iR _ _ _ (by omega))]at hr;simp only[List.range'_succ,Op.eqItems,Sem.run_bind];rw[a];have p1:=wW h hi Cs (base*k1.length) (by rw[<-b.1];omega) w;have p2:=wW h hi Ds (base*k1.length) (by rw[<-hb.1];omega) w;rcases p1 with p1|p1;rcases p2 with p2|p2;rw[p1,Result.andThen_ok,p2,Result.andThen_ok];cases hq:cellsEq k1 ((as.drop (base*k1.length)).take k1.length) ((bs.drop (base*k1.length)).take k1.length)with
  |none=>rw[hq]at hr;cases hr
  |some q=>
   rw[hq]at hr;have:=IH _ _ _ _ q w ((b.drop (base*k1.length)).take i.size) ((hb.drop (base*k1.length)).take i.size) (by rw[a];exact iR _ _ _ (by omega)) (by rw[a];exact iR _ _ _ (by omega)) (by rw[a];exact hq);rw[this,Result.andThen_ok];cases q;cases hr;simp
   grind
  omega;omega
def sW {k} {as bs} {r} (h1:as.length=1) (h2:bs.length=1) (h:cellsEq [k] as bs=some r):∃a b,as=[a]/\bs=[b]/\cellEq k a b=some r:=by
 match as,bs,h1,h2 with
 |[a],[b],_,_=>
  refine⟨a,b,rfl,rfl,?_⟩;simp only[cellsEq]at h;cases hc:cellEq k a b with
  |none=>rw[hc]at h;cases h
  |some q=>
   rw[hc]at h;cases q;simpa using h;omega
def Zn (a b:ByteArray):(a==b)=(a.toList==b.toList):=beq_toListBytes a b
def oY:∀d t ks,gF P d t=some ks->∀D,d<=D->EqK P g D t ks
 |0,t,ks,h,D,hD=>by simp[gF]at h
 |d+1,t,ks,h,D,hD=>by
  obtain⟨D,rfl⟩:∃D',D=D'+1:=⟨D-1,by omega⟩
  have c:=oX h
  intro as bs Cs Ds r w k hb h1 h2 hr
  unfold gF at h
  split at h
  rename_i c
  cases h
  obtain⟨a,b,rfl,rfl,hc⟩:=sW h1 h2 hr
  obtain⟨A,rfl,f⟩:=tr1 k
  obtain⟨B,rfl,j⟩:=tr1 hb
  unfold cellEq at hc
  split at hc<;>simp_all[Wg,eN]
  obtain rfl:=f.ground
  obtain rfl:=j.ground
  subst hc
  exact run_equalIn_bool w D t _ _ c
  rename_i p c
  cases h
  obtain⟨a,b,rfl,rfl,hc⟩:=sW h1 h2 hr
  obtain⟨A,rfl,f⟩:=tr1 k
  obtain⟨B,rfl,j⟩:=tr1 hb
  unfold cellEq at hc
  split at hc
  split at hc
  rename_i e
  subst e
  simp only[fN3]at hc
  simp only[Wg,eN,c,fR3,gT3,List.headD_cons]
  obtain rfl:=f.ground
  obtain rfl:=j.ground
  subst hc
  exact run_equalIn_int w D t _ _ _ _ c
  cases hc
  simp_all
  simp_all
  cases hc
  rename_i c
  cases h
  obtain⟨a,b,rfl,rfl,hc⟩:=sW h1 h2 hr
  obtain⟨A,rfl,f⟩:=tr1 k
  obtain⟨B,rfl,j⟩:=tr1 hb
  unfold cellEq at hc
  split at hc<;>simp_all[Wg,eN]
  obtain rfl:=f.ground
  obtain rfl:=j.ground
  subst hc
  rw[run_equalIn_string w D t _ _ c,Zn]
  rename_i fs c
  split at h
  cases h
  rename_i l
  have hf:P.fieldsOf t=fs:=by simp[Program.fieldsOf,c]
  have:=Nx (P:=P) (g:=g) (D:=D) (fun t ks hk=>oY d t ks hk D (by omega)) fs.toList 0 ks h as bs Cs Ds r w k hb (by omega) (by omega)
   (by rw[hE3,hE3,gW3 (by omega),gW3 (by omega)];exact hr)
  simp only[Wg,eN,c,gF3]
  rw[run_equalIn_struct w D t _ _ (by rw[hf];exact c) (by simpa using l),hf]
  exact this
  rename_i n e c
  split at h
  rename_i o i hk hi
  split at h
  rename_i hc
  obtain⟨m,h0⟩:=hc
  cases h
  have hl:((List.replicate n o).flatten).length=n*o.length:=by simp
  have:=Zm (P:=P) (g:=g) (D:=D) (oX hk) hi m h0 (oY d e o hk D (by omega)) n _ 0 rfl as bs Cs Ds r w k hb (by rw[hD3];omega) (by rw[hD3];omega)
   (by rw[jF3,hE3,hE3,gW3 (by omega),gW3 (by omega)];exact hr)
  simp only[Wg,eN,c,gF3]
  rw[run_equalIn_array w D _ _ c hi,List.range_eq_range',show P.cellsOf e=i.size by simp[Program.cellsOf,hi]]
  exact this
  cases h
  cases h
  cases h
end
end Go.Sim
namespace Go.Sim
variable {e t:TypeId} {len n:Nat}
section
variable {P:Program} {g:Gh} {lim:Nat} {w:World} {L:Nat->Option AO}
variable (ρ:Operand->Value) (o:Oper) {k:iV} {os:List Operand} {xs:List AV} {out:Out}
def lS1 {t e} {x ix} {ei} {len} (l:o.op=.indexAddr t x ix) (m:P.underlying t=some (.array len e)) (hi:P.info? e=some ei)
  (b:TR g xs [ρ x,ρ ix]) (hd:doOp L lim n (.iadA len ei.size) xs=some out) (f:HR P g L w) (h:WG g w):iL P g lim w L n out (execOp ρ o):=by
 match xs,b with
 |[],b=>have:=b.1;simp at this
 |[_],b=>have:=b.1;simp at this
 |[a,j],b=>
  have c:=b.head;simp only[doOp]at hd;split at hd;rename_i i d;obtain⟨q,k⟩:=jS d b.tail.head;split at hd;rename_i hc;obtain⟨h1,h2⟩:=hc
  have key:∀p,ρ x=.pointer (some p)->(execOp ρ o).run P w=.ok (.value (.pointer (some (p.add (i.toNat*ei.size))))) w:=by
   intro p hp;simp[execOp,l,Instr.indexAt,k,asIntOf,run_underlying m,hp,h1,h2,gT hi,Instr.sureAddr]
  split at hd;cases hd;generalize hV:ρ x=V at c;cases c with
  |ip hs hc hv=>exact bX (key _ hV) (We (.ip hs hc hv) _) f h
  cases hd;generalize hV:ρ x=V at c;cases c with
  |ptr hi2 hver hp=>
   refine bX (key _ hV) (.ptr hi2 hver (fun e=>?_)) f h;rw[hp e,kZ,gY3]
  cases hd;cases hd;cases hd
 |_::_::_::_,b=>have:=b.1;simp at this
def Ta {cs:aA AV} {Cs:Array Value} (h:VR g (.agg cs) (.agg Cs)) {i:Nat} {c:AV} (hc:cs[i]? =some c):∃y,Cs[i]? =some y/\VR g c y:=by
 cases h with
 |agg hl hcell hv=>
  have hi:i<Cs.size:=by rw[<-hl];exact(fE3.1 hc).1
  exact⟨Cs[i],by simp[hi],hv i c _ hc (by simp[hi])⟩
def Ny {cs} {Cs} (h:VR g (.agg cs) (.agg Cs)) (off m:Nat):VR g (.agg ((cs.drop off).take m)) (.agg (Cs.extract off (off+m))):=by
 cases h with
 |agg hl hcell hv=>
  refine .agg (by simp;omega) (fun i y hy=>?_) (fun i x y a hy=>?_);rw[Array.getElem?_extract]at hy;split at hy;exact hcell _ y hy;cases hy
  grind
def dW1 {t} (b:P.underlying t≠none) (a:eN P t=false) {Cs} {off} {y} (h:Cs[off]? =some y):(part t Cs off).run P w=.ok y w:=by
 simp[part,oV b,a,h]
def wC1 {t} {i} (b:P.underlying t≠none) (a:eN P t=true) (hi:P.info? t=some i) (Cs:Array Value) (off:Nat):
  (part t Cs off).run P w=.ok (.agg (Cs.extract off (off+i.size))) w:=by
 simp[part,oV b,a,gT hi]
def Zo {t} {x ix} (q:o.op=.index t x ix) (r:P.underlying t=some .string) (c:TR g xs [ρ x,ρ ix]) (hd:doOp L lim n .idxStr xs=some out)
  (h:HR P g L w) (l:WG g w):iL P g lim w L n out (execOp ρ o):=by
 match xs,c with
 |[],c=>have:=c.1;simp at this
 |[_],c=>have:=c.1;simp at this
 |[a,j],c=>
  have m:=c.head;simp only[doOp]at hd;split at hd;rename_i s i e;obtain⟨u,p⟩:=jS e c.tail.head;split at hd;rename_i h1;split at hd;rename_i b hb;cases hd;have k:=m.ground;refine bX (V:=.int .u8 b.toNat) ?_ (.v rfl) h l
  have d:s[i.toNat]? =some b:=by
   have f:i.toNat<s.size:=by
    have:=(fE3.1 hb).1;simpa using this
   have h2:s.data.toList[i.toNat]? =some s.data[i.toNat]:=by simp
   rw[h2]at hb;cases hb;rw[getElem?_pos s i.toNat f];rfl
  simp[execOp,q,Instr.index,p,asIntOf,run_underlying r,k,h1,d];cases hd;cases hd;cases hd
 |_::_::_::_,c=>have:=c.1;simp at this
def lT1 {x v:Operand} {f:TypeInfo} (s:o.op=.index t x v) (u:P.underlying t=some (.array len e)) (h:P.underlying e≠none) (hi:P.info? e=some f)
  (d:TR g xs [ρ x,ρ v]) (hd:doOp L lim n (.idxA len f.size (eN P e)) xs=some out) (m:HR P g L w) (p:WG g w):iL P g lim w L n out (execOp ρ o):=by
 match xs,d with
 |[],d=>have:=d.1;simp at this
 |[_],d=>have:=d.1;simp at this
 |[a,j],d=>
  have q:=d.head;simp only[doOp]at hd;split at hd;rename_i cs i k;obtain⟨z,r⟩:=jS k d.tail.head;split at hd;rename_i hc;obtain⟨h1,h2⟩:=hc;generalize hV:ρ x=V at q;cases q with
  |@agg _ cs Cs hl hcell hvv=>
   split at hd;rename_i b;cases hd;refine bX (V:=.agg (Cs.extract (i.toNat*f.size) (i.toNat*f.size+f.size))) ?_ (Ny (.agg hl hcell hvv) _ _) m p;simp[execOp,s,Instr.index,r,asIntOf,run_underlying u,hV,h1,h2,gT hi,wC1 h b hi];rename_i b;split at hd;rename_i c hc;cases hd;obtain⟨y,hy,l⟩:=Ta (.agg hl hcell hvv) hc;refine bX (V:=y) ?_ l m p;simp[execOp,s,Instr.index,r,asIntOf,run_underlying u,hV,h1,h2,gT hi,dW1 h (by simpa using b) hy];cases hd
  cases hd;cases hd
 |_::_::_::_,d=>have:=d.1;simp at this
def Nz {op} {a b r} (h:binS op a b=some r):Value.ground r=true:=by
 unfold binS at h;split at h;split at h;split at h<;>simp_all<;>(subst h;rfl);split at h<;>simp_all<;>(subst h;rfl);split at h;split at h<;>(try split at h)<;>simp_all<;>(first|(subst h;rfl)|(obtain⟨_,rfl⟩:=h;rfl));cases h;split at h<;>(try split at h)<;>simp_all<;>(first|(subst h;rfl)|(obtain⟨_,rfl⟩:=h;rfl));cases h
def dX1 {op} {a b r} (h:binS op a b=some r) (t:TypeId) (x y:Operand):(eqGuard op t x y a b).run P w=.ok () w/\(binOp op t a b).run P w=.ok r w:=by
 unfold binS at h;split at h;rename_i k n k' m;refine⟨by rw[eqGuard_at_int];rfl,?_⟩;split at h;split at h;cases h;rename_i hb;cases h;simp[binOp,Op.shift,hb];split at h;cases h;rename_i hb;cases h;simp[binOp,Op.shift,hb];rename_i h1 h2;split at h;rename_i e;subst e;split at h;cases h;simp[binOp,Op.intArith];cases h;simp[binOp,Op.intArith];cases h;simp[binOp,Op.intArith];split at h;cases h;rename_i h0;cases h;simp[binOp,Op.intDiv,h0];split at h;cases h;rename_i h0;cases h;simp[binOp,Op.intDiv,h0];cases h;simp[binOp,Op.intBits];cases h;simp[binOp,Op.intBits];cases h;simp[binOp,Op.intBits];cases h;simp[binOp,Op.intBits];cases h;simp[binOp,Op.intCmp];cases h;simp[binOp,Op.intCmp];cases h;simp[binOp,Op.intCmp];cases h;simp[binOp,Op.intCmp];cases h;simp[binOp,Op.intCmp];cases h;simp[binOp,Op.intCmp];cases h;cases h;rename_i s u;refine⟨by cases op<;>rfl,?_⟩;split at h;split at h;rename_i hs;cases h;have:¬(9223372036854775807:Int)<((s.size:Int)+(u.size:Int)):=by omega
 simp[binOp,Op.stringOp,this];cases h;cases h;simp[binOp,Op.stringOp];cases h;simp[binOp,Op.stringOp];cases h;simp[binOp,Op.stringOp];cases h;simp[binOp,Op.stringOp];cases h;simp[binOp,Op.stringOp];cases h;simp[binOp,Op.stringOp];cases h;cases h
def dY1 {op} {t u} {x y} (h:o.op=.binOp op t x y u) (c:TR g xs [ρ x,ρ y]) (hd:doOp L lim n (.bin op) xs=some out) (d:HR P g L w) (e:WG g w):
  iL P g lim w L n out (execOp ρ o):=by
 match xs,c with
 |[],c=>have:=c.1;simp at this
 |[_],c=>have:=c.1;simp at this
 |[a,b],c=>
  have f:=c.head;have hb:=c.tail.head;simp only[doOp]at hd;split at hd;rename_i i j;simp only[fG3]at hd;obtain⟨r,hr,rfl⟩:=hd;obtain⟨h1,h2⟩:=dX1 (P:=P) (w:=w) hr t x y;refine bX (V:=r) ?_ (.v (Nz hr)) d e;simp[execOp,h,f.ground,hb.ground,h1,h2];cases hd
 |_::_::_::_,c=>have:=c.1;simp at this
def dZ1 {op} {neg} {t u} {x y} (e:o.op=.binOp op t x y u) (hop:op=if neg then .neq else .eql) (k:P.underlying t=some .bool)
  (c:TR g xs [ρ x,ρ y]) (hd:doOp L lim n (.eqB neg) xs=some out) (i:HR P g L w) (j:WG g w):iL P g lim w L n out (execOp ρ o):=by
 match xs,c with
 |[],c=>have:=c.1;simp at this
 |[_],c=>have:=c.1;simp at this
 |[a,b],c=>
  have d:=c.head;have hb:=c.tail.head;simp only[doOp]at hd;split at hd;rename_i f h;cases hd;refine bX (V:=.bool ((f==h)!=neg)) ?_ (.v rfl) i j;have he:=run_equal_bool (P:=P) w t f h k;subst hop;cases neg;simp[execOp,e,d.ground,hb.ground,eqGuard_at_bool,binOp,he];simp[execOp,e,d.ground,hb.ground,eqGuard_at_bool,binOp,he];cases hd
 |_::_::_::_,c=>have:=c.1;simp at this
def Kl {op} {neg} {t u} {x y} {ks} (f:o.op=.binOp op t x y u) (hop:op=if neg then .neq else .eql) (hk:gF P 20 t=some ks) (e:eN P t=true)
  (hg:P.eqGuardType P.depth t=false) (c:TR g xs [ρ x,ρ y]) (hd:doOp L lim n (.eqA neg ks) xs=some out) (j:HR P g L w) (k:WG g w):iL P g lim w L n out (execOp ρ o):=by
 match xs,c with
 |[],c=>have:=c.1;simp at this
 |[_],c=>have:=c.1;simp at this
 |[a,b],c=>
  have h:=c.head;have hb:=c.tail.head;simp only[doOp]at hd;split at hd;rename_i as bs;split at hd;rename_i hc;obtain⟨h1,h2⟩:=hc;split at hd;rename_i r hr;cases hd;generalize hV:ρ x=V at h;generalize hV2:ρ y=V2 at hb;cases h with
  |@agg _ _ Cs hl hcell hv=>
   cases hb with
   |@agg _ _ Ds hl2 hcell2 hv2=>
    have he:=oY (P:=P) (g:=g) 20 t ks hk 10000 (by omega) as bs Cs.toList Ds.toList r w ⟨by simpa using hl,fun i x y a b=>hv i x y a (by simpa using b)⟩
     ⟨by simpa using hl2,fun i x y a b=>hv2 i x y a (by simpa using b)⟩ h1 h2 hr
    simp only[Wg,e,gF3,Array.toArray_toList]at he;refine bX (V:=.bool (r !=neg)) ?_ (.v rfl) j k;have d:=run_eqGuard_agg (P:=P) w op t x y Cs Ds hg;subst hop;cases neg;simp only[fR3,gT3]at d f;simp[execOp,f,hV,hV2,d,run_eql_struct,he];simp only[gF3]at d f;simp[execOp,f,hV,hV2,d,run_neq_struct,he]
  cases hd;cases hd;cases hd
 |_::_::_::_,c=>have:=c.1;simp at this
def Tb {op} {a r} (h:unS op a=some r):Value.ground r=true:=by
 unfold unS at h;split at h;split at h<;>simp_all<;>(subst h;rfl);split at h<;>simp_all<;>(subst h;rfl);cases h
def bW2 {op} {t} {x} (d:o.op=.unOp op t x) (b:TR g xs [ρ x]) (hd:doOp L lim n (.un op) xs=some out) (e:HR P g L w) (f:WG g w):
  iL P g lim w L n out (execOp ρ o):=by
 match xs,b with
 |[],b=>have:=b.1;simp at this
 |[a],b=>
  have c:=b.head;simp only[doOp]at hd;split at hd;rename_i h;simp only[fG3]at hd;obtain⟨r,hr,rfl⟩:=hd;refine bX (V:=r) ?_ (.v (Tb hr)) e f;unfold unS at hr;split at hr;split at hr;cases hr;simp[execOp,d,c.ground,Op.unary,Op.intArith];cases hr;simp[execOp,d,c.ground,Op.unary,Op.intBits];cases hr;split at hr;cases hr;simp[execOp,d,c.ground,Op.unary];cases hr;cases hr;cases hd
 |_::_::_,b=>have:=b.1;simp at this
def wD1 {i} {x} (f:o.op=.extract x i) (b:TR g xs [ρ x]) (hd:doOp L lim n (.ext i) xs=some out) (d:HR P g L w) (e:WG g w):
  iL P g lim w L n out (execOp ρ o):=by
 match xs,b with
 |[],b=>have:=b.1;simp at this
 |[a],b=>
  have c:=b.head;simp only[doOp]at hd;split at hd;rename_i vs;split at hd;rename_i v hv;cases hd;generalize hV:ρ x=V at c;cases c with
  |@tup _ _ Cs hl hvv=>
   have hi:i<Cs.size:=by rw[<-hl];exact(fE3.1 hv).1
   refine bX (V:=Cs[i]) ?_ (hvv i v _ hv (by simp[hi])) d e;simp[execOp,f,hV,Instr.extract,hi]
  cases hd;cases hd
 |_::_::_,b=>have:=b.1;simp at this
def eA1 {src dst} {ks k} {x} (f:o.op=.convert src dst x) (h1:P.underlying src=some (.int ks)) (h2:P.underlying dst=some (.int k)) (b:TR g xs [ρ x])
  (hd:doOp L lim n (.convI k) xs=some out) (c:HR P g L w) (d:WG g w):iL P g lim w L n out (execOp ρ o):=by
 match xs,b with
 |[],b=>have:=b.1;simp at this
 |[a],b=>
  have e:=b.head;simp only[doOp]at hd;split at hd;cases hd;refine bX ?_ (.v rfl) c d;simp[execOp,f,e.ground,convert,run_underlying h1,run_underlying h2,Conv.intToInt];cases hd
 |_::_::_,b=>have:=b.1;simp at this
end
end Go.Sim
namespace Go.Sim
section
variable {P:Program} {g:Gh} {lim:Nat} {w:World} {L:Nat->Option AO} {n:Nat}
variable (ρ:Operand->Value) (o:Oper) {k:iV} {os:List Operand} {xs:List AV} {out:Out}
def eB1 {f} {a c} {A C} (h1:TR g a A) (h2:TR g c C):VR g (.fn (.func f) a c) (.func (.func f) A.toArray C.toArray):=
 .fn (by simpa using h1.1) (by simpa using h2.1) (fun i x y a b=>h1.2 i x y a (by simpa using b)) (fun i x y a b=>h2.2 i x y a (by simpa using b))
def lU1 {f} {first captured} (d:o.op=.makeFunc (.func f) first captured) (a:TR g xs ((first.toList++captured.toList).map ρ))
  (hd:doOp L lim n (.mkfn (.func f) first.size) xs=some out) (b:HR P g L w) (c:WG g w):iL P g lim w L n out (execOp ρ o):=by
 simp only[doOp,fN3]at hd;subst hd;refine bX (V:=.func (.func f) (first.map ρ) (captured.map ρ)) ?_ ?_ b c;simp[execOp,d,Instr.makeFunc];have h1:=a.take first.size
 have h2:=a.drop first.size
 rw[jC3,List.take_left' (by simp)]at h1;rw[jC3,List.drop_left' (by simp)]at h2;have:=eB1 (f:=f) h1 h2;rw[show(first.toList.map ρ).toArray=first.map ρ from jK3 (by simp),show(captured.toList.map ρ).toArray=captured.map ρ from jK3 (by simp)]at this;exact this
def eC1 {t} (j:o.op=.makeMap t none) (b:TR g xs []) (hd:doOp L lim n .mkmap xs=some out) (d:HR P g L w) (f:WG g w)
  (hn:g.ι n=none) (hl:lim<=n):iL P g lim w L n out (execOp ρ o):=by
 match xs,b with
 |[],b=>
  simp only[doOp,fN3]at hd;subst hd;refine qT (w₁:=w) (o:=.map #[] 0) (V:=.map (some w.heap.size)) (loc:=⟨w.heap.size,0,0,0⟩) (.inl rfl) ?_ rfl hn hl ?_ ?_ d f;simp[execOp,j,Instr.makeMap];intro g' c a;exact .map a (fun _=>rfl);intro g' c a;exact⟨_,#[],0,a,rfl,heap_alloc_new w _,rfl,fun i k x e h=>by simp at h⟩
 |_::_,b=>have:=b.1;simp at this
def Oa (w:World) (a:Addr) (m b:Nat) (h:b≠a.block):(w.freeze a m).heap[b]? =w.heap[b]? :=by
 unfold World.freeze;split;rfl
 grind
def Ho (w:World) (a:Addr) (m:Nat):(w.freeze a m).os=w.os/\(w.freeze a m).tape=w.tape/\(w.freeze a m).output=w.output/\(w.freeze a m).heap.size=w.heap.size:=by
 unfold World.freeze;split
 grind
 grind
def wE1 {src dst e} {x} (K:o.op=.convert src dst x) (h1:P.underlying src=some .string) (h2:P.underlying dst=some (.slice e)) (E:P.underlying e=some (.int .u8))
  (k:TR g xs [ρ x]) (hd:doOp L lim n (.s2b e) xs=some out) (F:HR P g L w) (p:WG g w):iL P g lim w L n out (execOp ρ o):=by
 match xs,k with
 |[],k=>have:=k.1;simp at this
 |[a],k=>
  have H:=k.head;simp only[doOp]at hd;split at hd;rename_i s;cases hd;let cap:=(Question.appendCap s.size 0 e).cut (w.tape w.drawn (.appendCap s.size 0 e))
  let arr:Array Value:=(s.data.map fun b=>Value.int .u8 b.toNat)++Array.replicate (cap-s.size) (.int .u8 0)
  let w1:=w.drew.alloc (.cells arr e)
  have t:s.size<=cap:=by simp[cap,Question.cut]
  let w2:=w1.freeze ⟨w.heap.size,arr.size,none⟩ 1
  have A:(execOp ρ o).run P w=.ok (.value (.slice (some ⟨w.heap.size,0,none⟩) s.size cap)) w2:=by
   have B:w1.shape? w.heap.size=some (e,arr.size):=by
    unfold World.shape?;have:w1.heap[w.heap.size]? =some (.cells arr e):=heap_alloc_new w.drew _;rw[this]
   simp[execOp,K,H.ground,convert,run_underlying h1,run_underlying h2,run_underlying E,Conv.stringToBytes,Question.forced,newRow,markStringish,cap,w2];simp[arr,w1,cap]at B;simp[B,arr,w1,cap]
  obtain⟨fr,r⟩:∃fr,w2.heap[w.heap.size]? =some (.cells arr e fr):=by
   have hb:w1.heap[w.heap.size]? =some (.cells arr e):=heap_alloc_new w.drew _;simp only[w2,World.freeze];rw[fM3 (by omega)];simp only[Array.getElem?_modify];rw[hb];simp
  have f:∀b,b<w.heap.size->w2.heap[b]? =w.heap[b]? :=fun b hb=>by
   simp only[w2];rw[Oa _ _ _ _ (by simp only;omega)];exact eK w.drew _ hb
  obtain⟨p1,p2,p3,p4⟩:=Ho w1 ⟨w.heap.size,arr.size,none⟩ 1
  have M:w2.heap.size=w.heap.size+1:=by
   show(w1.freeze _ _).heap.size=_
   rw[p4];simp[w1]
  let g':Gh:={G:=fun b=>if b=w.heap.size then some (.cells arr e fr)else g.G b,ι:=g.ι}
  have m:∀b o',g.G b=some o'->b<w.heap.size:=fun b o' h=>(gI3.1 (p.still b o' h)).1
  have z:g.le g':=⟨fun b o' h=>by
   have:=m b o' h;show(if b=w.heap.size then some (Obj.cells arr e fr)else g.G b)=some o'
   rw[fM3 (by omega)];exact h,fun id loc h=>⟨loc,h,fI3 _,fun _=>rfl⟩⟩
  have l:∀j,j<s.size->∃b,s.data.toList[j]? =some b/\g'.cell ⟨w.heap.size,0,none⟩ j=some (.int .u8 b.toNat):=by
   intro j J;have u:j<s.data.size:=J;refine⟨s.data[j],by simp[u],?_⟩;show(match(if w.heap.size=w.heap.size then some (Obj.cells arr e fr)else g.G w.heap.size)with|some (.cells c _ _)=>c[0+j]? |_=>none)=_
   rw[fJ3 rfl];simp only[hD3,arr];rw[Array.getElem?_append_left (by simpa using u)];simp;exact⟨s.data[j],by simp,rfl⟩
  have d:(byteRows s).length=s.size:=by simp[byteRows]
  refine⟨_,_,g',w2,A,.inl rfl,?_,?_,⟨?_,?_,?_,p.inj⟩,⟨z,by omega,fun b hb _=>f b hb,fun id loc h=>.inl ⟨loc,h,rfl⟩,fun _ _=>rfl,?_,?_,?_,?_,fun b R h=>⟨R,(f b (gI3.1 h).1).trans h⟩⟩,fun id h=>.inl h⟩
  have aK:∀i row,(byteRows s)[i]? =some row->i<s.size/\∃b,s.data.toList[i]? =some b/\row=[.v (.int .u8 b.toNat)]:=by
   intro i row h;have hi:i<s.size:=by rw[<-d];exact(fE3.1 h).1
   simp only[byteRows,gG3,fG3]at h;obtain⟨b,hb,rfl⟩:=h;exact⟨hi,b,hb,rfl⟩
  rw[<-d];refine VR.is rfl (by rw[d];exact t) (fun i row h=>?_) (fun i row j x h k=>?_) (fun i row j x y h k hy=>?_);obtain⟨_,b,_,rfl⟩:=aK i row h;rfl;obtain⟨hi,b,hb,rfl⟩:=aK i row h;cases j with
  |zero=>
   obtain⟨b',_,hc⟩:=l i hi;exact⟨_,by rw[Nat.mul_one,hP3];exact hc,rfl⟩
  |succ j=>simp at k
  obtain⟨hi,b,hb,rfl⟩:=aK i row h;cases j with
  |zero=>
   obtain⟨b',q,hc⟩:=l i hi;rw[hb]at q;cases q;simp at k;subst k;rw[Nat.mul_one,hP3,hc]at hy;cases hy;exact .v rfl
  |succ j=>simp at k
  rw[Nv];intro id a D;exact(F id a D).mono z rfl (fun loc hl=>f _ (p.lt id loc hl));intro b o' h;by_cases C:b=w.heap.size;subst C;have:(if w.heap.size=w.heap.size then some (Obj.cells arr e fr)else g.G w.heap.size)=some o':=h;rw[fJ3 rfl]at this;cases this;exact r;have:(if b=w.heap.size then some (Obj.cells arr e fr)else g.G b)=some o':=h;rw[fM3 C]at this;rw[f b (m b o' this)];exact p.still b o' this;intro id loc h;have:=p.lt id loc h;omega;intro id loc h;have:=p.lt id loc h;show(if loc.b=w.heap.size then some (Obj.cells arr e fr)else g.G loc.b)=none
  rw[fM3 (by omega)];exact p.out id loc h;exact p1;exact p2;exact p3;intro b o' h;by_cases C:b=w.heap.size;exact .inr (by omega);have:(if b=w.heap.size then some (Obj.cells arr e fr)else g.G b)=some o':=h;rw[fM3 C]at this;exact .inl this;cases hd
 |_::_::_,k=>have:=k.1;simp at this
def Du (R:HR P g L w) (T:WG g w) {esz} (h0:esz≠0) {x} {V} (B:VR g x V) {rows} (hr:rowsOf L esz x=some rows) (hs:∀s,x≠.v (.string s)):
  ∃a cap,V=.slice a rows.length cap/\(∀(i:Nat) (row:aA AV),rows[i]? =some row->row.length=esz)/\(a=none->rows=[]/\cap=0)/\
   ∀p,a=some p->∃ys:aA Value,ys.length=rows.length*esz/\(∀j y,ys[j]? =some y->w.cell? (p.add j)=some y)/\(∀y∈ys,isCell y=true)/\
    ∀i row j x,rows[i]? =some row->row[j]? =some x->∃y,ys[i*esz+j]? =some y/\VR g x y:=by
 unfold rowsOf at hr;split at hr;rename_i e els;split at hr;rename_i N;subst N;cases hr;cases B with
 |@is0 _ _ cap a=>exact⟨some a,cap,rfl,fun i row h=>(by simp at h),fun h=>(by cases h),fun p hp=>⟨[],by simp,fun j y h=>(by simp at h),fun y h=>(by simp at h),fun i row j x h=>(by simp at h)⟩⟩
 |@is _ _ _ a cap hs' hl d hc hv=>
  refine⟨some a,cap,rfl,d,fun h=>(by cases h),fun p hp=>?_⟩;cases hp
  have r:∀k,k<rows.length*e->∃row,rows[k/e]? =some row/\k%e<row.length:=fun k hk=>by
   have h1:k/e<rows.length:=Nat.div_lt_of_lt_mul (by rw[Nat.mul_comm];exact hk);refine⟨rows[k/e],by simp[h1],?_⟩;rw[d (k/e) _ (by simp[h1])];exact Nat.mod_lt _ (by omega)
  have f:∀k,k<rows.length*e->∃y,g.cell a k=some y/\isCell y=true:=fun k hk=>by
   obtain⟨row,h1,h2⟩:=r k hk;obtain⟨y,l,A⟩:=hc (k/e) row (k%e) row[k%e] h1 (by simp[h2]);rw[Nat.div_add_mod']at l;exact⟨y,l,A⟩
  refine⟨(List.range (rows.length*e)).map fun k=>(g.cell a k).getD undef,by simp,fun j y hy=>?_,fun y hy=>?_,fun i row j x h1 h2=>?_⟩;by_cases m:j<rows.length*e;obtain⟨y',l,A⟩:=f j m;simp[m,l]at hy;subst hy;exact Dq T hs' l;simp[m]at hy
  grind
  obtain⟨y,l,A⟩:=hc i row j x h1 h2;have hi:i<rows.length:=(fE3.1 h1).1;have m:j<e:=by rw[<-d i row h1];exact(fE3.1 h2).1
  have o:i*e+j<rows.length*e:=by
   have:(i+1)*e<=rows.length*e:=gS3 _ hi;rw[hQ3]at this;omega
  exact⟨y,by simp[o,l],(hv i row j x y h1 h2 l).mono (dP1 g)⟩
 cases hr;cases hr;have:=B.ground;subst this;exact⟨none,0,rfl,fun i row h=>(by simp at h),fun _=>⟨rfl,rfl⟩,fun p hp=>(by cases hp)⟩;cases hr;cases B with
 |@es _ a=>exact⟨a,0,rfl,fun i row h=>(by simp at h),fun h=>⟨rfl,rfl⟩,fun p hp=>⟨[],by simp,fun j y h=>(by simp at h),fun y h=>(by simp at h),fun i row j x h=>(by simp at h)⟩⟩
 grind
 rename_i z id ver off len cap;split at hr;rename_i bx ty e M els S;split at hr;rename_i hc;obtain⟨rfl,rfl,hlen⟩:=hc;cases hr;obtain⟨loc,cs,h1,h2,l,A,O,h6,h7,C,J⟩:=R id _ S;cases B with
 |@sl _ _ _ _ _ _ _ loc' p c hi hver hlc hs hp=>
  rw[h1]at hi;cases hi;obtain⟨hz,F,X,Y,Z⟩:=hp l;have u:((els.drop off).take len).length=len:=by simp;omega
  have d:∀(i:Nat) (row:aA AV),((els.drop off).take len)[i]? =some row->i<len/\els[off+i]? =some row:=by grind
  refine⟨some p,c,by rw[u],fun i row h=>C _ row (d i row h).2,fun h=>(by cases h),fun q hq=>?_⟩;cases hq;by_cases W:len=0;simp_all;have G:p=⟨loc.b,off*loc.esz,none⟩:=F.resolve_left (by omega);subst G
  have f:∀k,k<len*e->∃y,cs[off*e+k]? =some y/\isCell y=true:=fun k hk=>by
   have U:k/e<len:=Nat.div_lt_of_lt_mul (by rw[Nat.mul_comm];exact hk);have t:off+k/e<els.length:=by omega
   have D:=C (off+k/e) els[off+k/e] (by simp[t]);have E:k%e<els[off+k/e].length:=by rw[D];exact Nat.mod_lt _ (by omega)
   obtain⟨y,n,H,K⟩:=J (off+k/e) els[off+k/e] (k%e) els[off+k/e][k%e] (by simp[t]) (by simp[E]);rw[hK3,gY3,Nat.div_add_mod']at n;exact⟨y,n,H⟩
  rw[u];refine⟨(List.range (len*e)).map fun k=>(cs[off*e+k]?).getD undef,by simp,fun j y hy=>?_,fun y hy=>?_,fun i row j x a b=>?_⟩;by_cases m:j<len*e;obtain⟨y',n,H⟩:=f j m;simp[m,n]at hy;subst hy;rw[kZ,zJ O,h2];exact n;simp[m]at hy
  grind
  obtain⟨a1,a2⟩:=d i row a;obtain⟨y,n,H,K⟩:=J _ row j x a2 b;have m:j<e:=by rw[<-C _ row a2];exact(fE3.1 b).1
  have o:i*e+j<len*e:=by
   have:(i+1)*e<=len*e:=gS3 _ a1;rw[hQ3]at this;omega
  rw[hK3,gY3]at n;exact⟨y,by simp[o,n],K⟩
 cases hr;cases hr;cases hr
end
end Go.Sim
namespace Go.Sim
variable {e t ty u:TypeId} {m n:Nat}
section
variable {P:Program} {g:Gh} {lim:Nat} {w:World} {L:Nat->Option AO}
structure zK (P:Program) (w:World) (u:TypeId) (i:TypeInfo) (z x:Value) (zeros:Bool) (m:Nat) (news:List Value):Prop where
 type:(zeros=false->(∃e',P.underlying u=some (.slice e'))\/P.underlying u=some .string)/\(zeros=true->P.underlying u=some (.int .i64))
 len:news.length=m*i.size
 slice:zeros=false->(∀w':World,(Builtin.lenOf x).run P w'=.ok m w')/\∀w':World,w'.heap=w.heap->(Builtin.firstCells i.size m x).run P w'=.ok news.toArray w'
 num:zeros=true->(∃k,x=.int k m)/\m<=maxRoom/\news.toArray=if m*i.size=0 then #[]else Builtin.zeroCells z.cells m
def lJ {t u ty e} {i} {z x} {zeros} {m} {news} (h:zK P w u i z x zeros m news) (g:P.underlying t=some (.slice e)) (hi:P.info? e=some i)
  (n:i.zero=some z) (hb:i.bytes<=2^16) {base} {sLen sCap} (b:sLen+m<=sCap) {w'}
  (c:match base with|some a=>(storeCells (a.add (sLen*i.size)) news).run P w=.ok () w'|none=>w'=w):
  (Builtin.append_ #[t,u] ty #[.slice base sLen sCap,x]).run P w=.ok (.slice base (sLen+m) sCap) w':=by
 cases zeros with
 |false=>
  obtain⟨h1,h2⟩:=h.slice rfl;have j:=h2 w rfl;rcases h.type.1 rfl with⟨e',hd⟩|hd
  all_goals
   cases base with
   |none=>
    subst c;simp[Builtin.append_,run_underlying g,sizeOf,typeInfo,hi,run_underlying hd,h1,b,j]
   |some a=>
    have d:(storeCells (a.add (sLen*i.size)) news).run P w=.ok () w':=c;simp[Builtin.append_,run_underlying g,sizeOf,typeInfo,hi,run_underlying hd,h1,b,j,d]
 |true=>
  have hd:=h.type.2 rfl;obtain⟨⟨k,rfl⟩,h2,o⟩:=h.num rfl;simp only[maxRoom]at h2;have hw:IntKind.i64.wrap (m:Int)=m:=by rw[IntKind.wrap_i64];omega
  have p:¬(281474976710656<(m:Int)*(i.bytes:Int)):=by
   have:m*i.bytes<=2^30*2^16:=Nat.mul_le_mul h2 hb;have s:((m*i.bytes:Nat):Int)<=((2^30*2^16:Nat):Int):=Int.ofNat_le.2 this;rw[Int.natCast_mul]at s;omega
  have q:¬((m:Int)<0):=by omega
  by_cases h0:m*i.size=0
  .rw [fJ3 h0]at o
   have f:news=[]:=by simpa using o
   subst f;have r:m=0\/i.size=0:=Nat.mul_eq_zero.1 h0;cases base with
   |none=>
    subst c;simp[Builtin.append_,run_underlying g,sizeOf,typeInfo,hi,run_underlying hd,asInt,asIntOf,hw,p,q,b,h0]
   |some a=>
    have l:(storeCells (a.add (sLen*i.size)) []).run P w=.ok () w':=c;simp[Builtin.append_,run_underlying g,sizeOf,typeInfo,hi,run_underlying hd,asInt,asIntOf,hw,p,q,b,h0,l]
  .rw [fM3 h0]at o
   have r:¬(m=0\/i.size=0):=fun e=>h0 (Nat.mul_eq_zero.2 e);have f:(Builtin.zeroCells z.cells m).toList=news:=by rw[<-o]
   cases base with
   |none=>
    subst c;simp[Builtin.append_,run_underlying g,sizeOf,typeInfo,hi,run_underlying hd,asInt,asIntOf,hw,p,q,b,h0,zeroValue,n]
   |some a=>
    have d:(storeCells (a.add (sLen*i.size)) news).run P w=.ok () w':=c;simp[Builtin.append_,run_underlying g,sizeOf,typeInfo,hi,run_underlying hd,asInt,asIntOf,hw,p,q,b,h0,zeroValue,n,f,d]
def wX {i:TypeInfo} {z x:Value} {zeros:Bool} {news olds:aA Value} (h:zK P w u i z x zeros m news) (p:P.underlying t=some (.slice e)) (hi:P.info? e=some i)
  (f:i.zero=some z) (hb:i.bytes<=2^16) {base:aB Addr} {sLen sCap:Nat} (d:sCap<sLen+m) (a:sLen+m<=maxRoom)
  (g:∀w':World,w'.heap=w.heap->(Builtin.firstCells i.size sLen (.slice base sLen sCap)).run P w'=.ok olds.toArray w'):
  (Builtin.append_ #[t,u] ty #[.slice base sLen sCap,x]).run P w=.ok (.slice (some ⟨w.heap.size,0,none⟩) (sLen+m) (grownCap w (sLen+m) sCap e))
   (w.drew.alloc (.cells (olds.toArray++news.toArray++Builtin.zeroCells z.cells (grownCap w (sLen+m) sCap e-(sLen+m))) e)):=by
 simp only[maxRoom]at a;have hn:¬(sLen+m<=sCap):=by omega
 have c:¬(9223372036854775807<((sLen:Int)+(m:Int))):=by omega
 have b:¬(281474976710656<Builtin.nextslicecap (sLen+m) sCap*i.bytes):=by
  have:(sLen+m)*i.bytes<=2^30*2^16:=Nat.mul_le_mul (by omega) hb;have:=growslice_fits (bytes:=i.bytes) d (by omega);omega
 have o:=g w.drew rfl;cases zeros with
 |false=>
  obtain⟨h1,h2⟩:=h.slice rfl;have n:=h2 w.drew rfl;rcases h.type.1 rfl with⟨e',hd⟩|hd
  all_goals
   simp[Builtin.append_,run_underlying p,sizeOf,typeInfo,hi,run_underlying hd,h1,hn,c,b,n,o,Question.forced,zeroValue,f,newRow,grownCap];congr 2;apply jK3;simp[List.append_assoc]
 |true=>
  have hd:=h.type.2 rfl;obtain⟨⟨k,rfl⟩,h2,j⟩:=h.num rfl;simp only[maxRoom]at h2;have hw:IntKind.i64.wrap (m:Int)=m:=by rw[IntKind.wrap_i64];omega
  have q:¬(281474976710656<(m:Int)*(i.bytes:Int)):=by
   have:m*i.bytes<=2^30*2^16:=Nat.mul_le_mul h2 hb;have s:((m*i.bytes:Nat):Int)<=((2^30*2^16:Nat):Int):=Int.ofNat_le.2 this;rw[Int.natCast_mul]at s;omega
  have r:¬((m:Int)<0):=by omega
  by_cases h0:m*i.size=0
  .rw [fJ3 h0]at j
   have l:m=0\/i.size=0:=Nat.mul_eq_zero.1 h0;rw[j];simp[Builtin.append_,run_underlying p,sizeOf,typeInfo,hi,run_underlying hd,asInt,asIntOf,hw,q,r,hn,c,b,o,Question.forced,h0,zeroValue,f,newRow,grownCap]
  .rw [fM3 h0]at j
   have l:¬(m=0\/i.size=0):=fun e=>h0 (Nat.mul_eq_zero.2 e);rw[j];simp[Builtin.append_,run_underlying p,sizeOf,typeInfo,hi,run_underlying hd,asInt,asIntOf,hw,q,r,hn,c,b,o,Question.forced,h0,zeroValue,f,newRow,grownCap]
end
end Go.Sim
namespace Go.Sim
variable {cs news:aA Value} {e t u:TypeId} {els new:aA (aA AV)} {esz j m n:Nat} {g g':Gh}
section
variable {P:Program} {lim:Nat} {w:World} {L:Nat->Option AO}
structure lW (g:Gh) (esz:Nat) (rows:List (List AV)) (ys:List Value):Prop where
 len:ys.length=rows.length*esz
 row:∀(i:Nat) (row:List AV),rows[i]? =some row->row.length=esz
 cell:∀y∈ys,isCell y=true
 val:∀(i:Nat) (row:List AV) (j:Nat) (x:AV),rows[i]? =some row->row[j]? =some x->∃y,ys[i*esz+j]? =some y/\VR g x y
def zL {i e:Nat} (hi:i<m) (a:j<e):i*e+j<m*e:=by
 have:(i+1)*e<=m*e:=gS3 _ hi;rw[hQ3]at this;omega
def Dv {y} (h:isCell y=true):y.oneCell'=true:=by cases y<;>simp_all[isCell,Value.oneCell']
def Oc (hg:g.le g') {k ct:Nat} {a:aA (aA AV)} (m:cs.length=ct*esz) (hf:lW g esz new news) (hk:k+new.length<=ct)
  (p:∀(i:Nat) (row:aA AV),els[i]? =some row->row.length=esz)
  (s:∀(i:Nat) (row:aA AV) (j:Nat) (x:AV),els[i]? =some row->row[j]? =some x->∃y,cs[i*esz+j]? =some y/\isCell y=true/\VR g x y)
  (aK:∀(i:Nat) (row:aA AV),a[i]? =some row->(k<=i/\i<k+new.length/\new[i-k]? =some row)\/(¬(k<=i/\i<k+new.length)/\els[i]? =some row)):
  (∀(i:Nat) (row:aA AV),a[i]? =some row->row.length=esz)/\
  ∀(i:Nat) (row:aA AV) (j:Nat) (x:AV),a[i]? =some row->row[j]? =some x->
   ∃y,(cs.take (k*esz)++news++cs.drop (k*esz+news.length))[i*esz+j]? =some y/\isCell y=true/\VR g' x y:=by
 have b:k*esz+news.length<=cs.length:=by
  rw[hf.len,m,<-hK3];exact gS3 _ hk
 refine⟨fun i row h=>?_,fun i row j x h f=>?_⟩;rcases aK i row h with⟨_,_,h⟩|⟨_,h⟩
 exact hf.row _ row h;exact p i row h;rw[Wc cs news (k*esz) (i*esz+j) b];rcases aK i row h with⟨h1,h2,h⟩|⟨h1,h⟩
 have n:j<esz:=by rw[<-hf.row _ row h];exact(fE3.1 f).1
 have q:i*esz+j-k*esz=(i-k)*esz+j:=by
  have:k*esz<=i*esz:=gS3 _ h1;rw[Nat.sub_mul];omega
 have e2:(i-k)*esz+j<new.length*esz:=zL (by omega) n;rw[fJ3 (by rw[hf.len];have:k*esz<=i*esz:=gS3 _ h1;omega),q];obtain⟨y,d,l⟩:=hf.val (i-k) row j x h f;exact⟨y,d,hf.cell y (fL3 d),l.mono hg⟩;have n:j<esz:=by rw[<-p _ row h];exact(fE3.1 f).1
 rw[fM3];obtain⟨y,d,l,r⟩:=s i row j x h f;exact⟨y,d,l,r.mono hg⟩;rw[hf.len];intro hc;rcases iC3 i k with o|hge;have:=zL (e:=esz) o n;omega;have c:k+new.length<=i:=by omega
 have:(k+new.length)*esz<=i*esz:=gS3 _ c;rw[hK3]at this;omega
def Ib {k:Nat} (h:k+new.length<=els.length):∀i row,(setL els k new)[i]? =some row->
  (k<=i/\i<k+new.length/\new[i-k]? =some row)\/(¬(k<=i/\i<k+new.length)/\els[i]? =some row):=by
 intro i row hi;rw[Dr els k new i h]at hi;split at hi
 grind
 grind
def Oe {u} {i} {z} (l:(∃e',P.underlying u=some (.slice e'))\/P.underlying u=some .string) (q:HR P g L w) (t:WG g w) (h0:i.size≠0)
  {x} {V} (f:VR g x V) {rows} (hr:rowsOf L i.size x=some rows):
  ∃news,zK P w u i z V false rows.length news/\lW g i.size rows news:=by
 by_cases hs:∃s,x=.v (.string s);obtain⟨s,rfl⟩:=hs;have r:=f.ground;subst r;simp only[rowsOf]at hr;split at hr;rename_i h1;cases hr;have hl:(byteRows s).length=s.size:=by simp[byteRows]
 refine⟨s.data.toList.map fun b=>.int .u8 b.toNat,⟨⟨fun _=>l,fun h=>by cases h⟩,by rw[hl,h1];simp,fun _=>⟨fun w'=>by simp[Builtin.lenOf,hl],fun w' _=>?_⟩,fun h=>by cases h⟩,⟨by rw[hl,h1];simp,?_,?_,?_⟩⟩;simp only[Builtin.firstCells,hl,Sem.run_pure];congr 1;apply jK3;have:s.extract 0 s.size=s:=by simp
 rw[this];simp;intro i row h;simp only[byteRows,gG3,fG3]at h;obtain⟨b,hb,rfl⟩:=h;rw[h1];rfl;intro y hy;simp at hy;obtain⟨b,_,rfl⟩:=hy;rfl;intro i row j x h f;simp only[byteRows,gG3,fG3]at h;obtain⟨b,hb,rfl⟩:=h;cases j with
 |zero=>
  simp at f;subst f;refine⟨.int .u8 b.toNat,?_,.v rfl⟩;rw[h1];simp only[Nat.mul_one,hP3,gG3,hb,gB3]
 |succ j=>simp at f
 cases hr;obtain⟨a,cap,rfl,k,c,d⟩:=Du q t h0 f hr (fun s e=>hs ⟨s,e⟩);cases a with
 |none=>
  obtain⟨rfl,rfl⟩:=c rfl
  exact⟨[],⟨⟨fun _=>l,fun h=>by cases h⟩,by simp,fun _=>⟨fun w'=>by simp[Builtin.lenOf],fun w' _=>by simp[Builtin.firstCells]⟩,fun h=>by cases h⟩,
   ⟨by simp,fun i row h=>by simp at h,fun y h=>by simp at h,fun i row j x h=>by simp at h⟩⟩
 |some p=>
  obtain⟨ys,h1,h2,n,o⟩:=d p rfl;refine⟨ys,⟨⟨fun _=>l,fun h=>by cases h⟩,h1,fun _=>⟨fun w'=>by simp[Builtin.lenOf],fun w' m=>?_⟩,fun h=>by cases h⟩,⟨h1,k,n,o⟩⟩;exact run_firstCells_some (P:=P) w' i.size rows.length p rows.length cap ys h1 (fun j y hy=>by rw[World.cell?];rw[m];exact h2 j y hy)
def Of (z:Array Value) (m:Nat):∀i j,i<m->j<z.size->(Builtin.zeroCells z m)[i*z.size+j]? =z[j]? :=by
 intro i j hi a;have b:i*z.size+j<m*z.size:=zL hi a;simp only[Builtin.zeroCells];rw[Array.getElem?_map];have h1:(Array.range (m*z.size))[i*z.size+j]? =some (i*z.size+j):=by simp[b]
 rw[h1];have h2:(i*z.size+j)%z.size=j:=by rw[Nat.mul_comm,Nat.mul_add_mod];exact Nat.mod_eq_of_lt a
 simp only[gB3,h2];simp[a]
def zN {z} {m} (c:z.toList.all Value.ground=true):lW g z.size (List.replicate m (zeroRow z.toList)) (Builtin.zeroCells z m).toList:=by
 have hl:(zeroRow z.toList).length=z.size:=by simp[zeroRow]
 refine⟨by simp[size_zeroCells],fun i row h=>?_,fun y hy=>?_,fun i row j x h b=>?_⟩
 grind
 simp only[Builtin.zeroCells,iQ3,iS3]at hy;obtain⟨k,hk,rfl⟩:=hy;have d:k<m*z.size:=by simpa using hk
 have h0:0<z.size:=by grind
 have:k%z.size<z.size:=Nat.mod_lt _ h0;rw[getElem!_pos z (k%z.size) this];exact nL (fH3.1 c _ (by simp));rw[iG3]at h;split at h;rename_i hi;cases h;have a:j<z.size:=by rw[<-hl];exact(fE3.1 b).1
 refine⟨z[j],?_,?_⟩;rw[hJ3,Of z m i j hi a];simp[a];exact(wV (g:=g) c).2 j x _ b (by simp[a]);cases h
def Km {u} {i} {z} (b:P.underlying u=some (.int .i64)) (c:z.cells.toList.all Value.ground=true) (hl:z.cells.size=i.size) {k} {m} (a:m<=maxRoom):
  ∃news,zK P w u i z (.int k m) true m news/\lW g i.size (List.replicate m (zeroRow z.cells.toList)) news:=by
 have hf:=zN (g:=g) (m:=m) c;rw[hl]at hf;refine⟨_,⟨⟨fun h=>(by cases h),fun _=>b⟩,(by have:=hf.len;simpa using this),fun h=>(by cases h),fun _=>⟨⟨k,rfl⟩,a,?_⟩⟩,hf⟩;split;rename_i h0;apply jK3;have:=hf.len;simp only[List.length_replicate,h0]at this;simpa using this;rfl
variable (ρ:Operand->Value) (o:Oper) {k:iV} {os:List Operand} {xs:List AV} {out:Out}
def Bh {a b:aA (aA AV)} {x y:aA Value} (c:lW g esz a x) (hb:lW g esz b y):lW g esz (a++b) (x++y):=by
 refine⟨by simp[c.len,hb.len,hK3],fun i row h=>?_,fun v hv=>?_,fun i row j v h d=>?_⟩;rw[hG3]at h;split at h;exact c.row i row h;exact hb.row _ row h;rcases gK3.1 hv with h|h;exact c.cell v h;exact hb.cell v h;rw[hG3]at h;split at h;rename_i hi;have f:j<esz:=by rw[<-c.row i row h];exact(fE3.1 d).1
 obtain⟨v',h1,h2⟩:=c.val i row j v h d;refine⟨v',?_,h2⟩;rw[iD3 (by rw[c.len];exact zL hi f)];exact h1;rename_i hi;obtain⟨v',h1,h2⟩:=hb.val _ row j v h d;refine⟨v',?_,h2⟩;have:a.length*esz<=i*esz:=gS3 _ (by omega);rw[iL3 (by rw[c.len];omega),c.len];have e:i*esz+j-a.length*esz=(i-a.length)*esz+j:=by rw[Nat.sub_mul];omega
 rw[e];exact h1
def Co {ty} {esz ct} {els} {ys} {dS} {id} {loc} {ver} {bx} (g':Gh) (hi:g'.ι id=some loc) (he:loc.esz=esz) (hv:loc.ver=ver)
  (hb:loc.b=w.heap.size) (c:loc.ct=ct) (h0:esz≠0) (hf:lW g' esz els ys) (hl:els.length<=ct) (a:dS.size=(ct-els.length)*esz):
  OR P g' (w.alloc (.cells (ys.toArray++dS) ty)) id (.arr bx ty esz ver els):=by
 refine⟨loc,_,hi,he,hv,h0,by rw[hb];exact heap_alloc_new w _,?_,by rw[c];exact hl,hf.row,fun i row j x h d=>?_⟩;rw[c,Array.size_append,List.size_toArray,hf.len,a,<-hK3];congr 1;omega;obtain⟨y,h1,h2⟩:=hf.val i row j x h d;refine⟨y,?_,hf.cell y (fL3 h1),h2⟩;have:=(fE3.1 h1).1;rw[Array.getElem?_append_left (by simpa using this)];simpa using h1
def lW.mono {g'} {esz} {a} {x} (h:lW g esz a x) (hg:g.le g'):lW g' esz a x:=
 ⟨h.len,h.row,h.cell,fun i row j v a b=>by obtain⟨y,h1,h2⟩:=h.val i row j v a b;exact⟨y,h1,h2.mono hg⟩⟩
def Og (g:Gh) (esz:Nat):lW g esz [] []:=⟨by simp,fun i row h=>by simp at h,fun y h=>by simp at h,fun i row j x h=>by simp at h⟩
def Zp {s x:Operand} {ty':TypeId} {i:TypeInfo} {z:Value} {zeros:Bool} (ho:o.op=.call {callee:=.builtin .append,args:=#[s,x],argTypes:=#[t,u]})
  (W:P.underlying t=some (.slice e)) (hi:P.info? e=some i) (A:i.zero=some z) (b9:z.cells.size=i.size) (h0:i.size≠0) (hb:i.bytes<=2^16)
  {sa:AV} {new:aA (aA AV)} {news:aA Value} (hs:VR g sa (ρ s)) (f:zK P w u i z (ρ x) zeros new.length news) (hf:lW g i.size new news)
  (hd:appendTo L lim n e i.size sa new=some out) (D:∀z id ver off len cap,out.v=.sl z id ver off len cap->len<=maxRoom) (S:HR P g L w) (T:WG g w)
  (hn:g.ι n=none) (hl:lim<=n):iL P g lim w L n out (execOp ρ o):=by
 have d:∀{V w'},(Builtin.append_ #[t,u] o.type #[ρ s,ρ x]).run P w=.ok V w'->(execOp ρ o).run P w=.ok (.value V) w':=by
  intro V w' h;simp[execOp,ho,resolve,invoke,builtin,h]
 have fresh:∀{base:aB Addr} {olds:aA Value} {oldr:aA (aA AV)} {sCap:Nat},ρ s=.slice base oldr.length sCap->lW g i.size oldr olds->sCap<oldr.length+new.length->oldr.length+new.length<=maxRoom->
   (∀w':World,w'.heap=w.heap->(Builtin.firstCells i.size oldr.length (.slice base oldr.length sCap)).run P w'=.ok olds.toArray w')->
   iL P g lim w L n {v:=.sl i.size n 0 0 (oldr.length+new.length) none,new:=some (.arr false e i.size 0 (oldr++new))} (execOp ρ o):=by
  intro base olds oldr sCap C d6 b4 Z N;have hr:=wX (ty:=o.type) f W hi A hb b4 Z N;rw[<-C]at hr;have K:=grownCap_ge w (oldr.length+new.length) sCap e;refine qT (w₁:=w.drew) (loc:=⟨w.heap.size,i.size,grownCap w (oldr.length+new.length) sCap e,0⟩) (.inr rfl) (d hr) rfl hn hl ?_ ?_ S T;intro g' q l;exact .sl l (fI3 _) K rfl (fun _=>⟨rfl,.inr (by simp),by simp,fun _=>by simp,fun k h=>by cases h⟩);intro g' q l
  have:=Co (P:=P) (w:=w) (ty:=e) (bx:=false) (dS:=Builtin.zeroCells z.cells (grownCap w (oldr.length+new.length) sCap e-(oldr.length+new.length))) g' l rfl rfl rfl rfl h0 ((Bh d6 hf).mono q) (by simpa using K)
   (by rw[size_zeroCells,b9];simp)
  simpa using this
 unfold appendTo at hd;split at hd
 ·
  have C:=hs.ground;split at hd;rename_i he;cases hd;have H:new.length=0:=by simpa using he
  have hr:=lJ (ty:=o.type) f W hi A hb (base:=none) (sLen:=0) (sCap:=0) (by omega) (w':=w) rfl;rw[H,<-C]at hr;refine bX (d (by rw[hr,C])) ?_ S T;exact .v rfl;rename_i he;cases hd;have b6:new.length≠0:=by simpa using he
  have:=fresh (base:=none) (olds:=[]) (oldr:=[]) (sCap:=0) (by simpa using C) (Og g _) (by simp;omega) (by simpa using D _ _ _ _ _ _ rfl) (fun w' _=>by simp[Builtin.firstCells]);simpa using this
 ·
  generalize C:ρ s=V at hs;cases hs with
  |@es _ a=>
   split at hd;rename_i he;cases hd;have H:new.length=0:=by simpa using he
   have m:news=[]:=by have:=hf.len;rw[H]at this;simpa using this
   have hr:=lJ (ty:=o.type) f W hi A hb (base:=a) (sLen:=0) (sCap:=0) (by omega) (w':=w) (by rw[m];cases a<;>rfl);rw[H]at hr;exact bX (V:=.slice a 0 0) (d (by rw[C];simpa using hr)) .es S T;rename_i he;cases hd;have b6:new.length≠0:=by simpa using he
   have:=fresh (base:=a) (olds:=[]) (oldr:=[]) (sCap:=0) (by simpa using C) (Og g _) (by simp;omega) (by simpa using D _ _ _ _ _ _ rfl)
    (fun w' _=>by cases a<;>simp[Builtin.firstCells,loadCells,loadCellsFrom])
   simpa using this
 ·
  rename_i ez els;split at hd;rename_i he;cases hd;have H:new.length=0:=by simpa using he.1
  have m:news=[]:=by have:=hf.len;rw[H]at this;simpa using this
  generalize C:ρ s=V at hs;cases hs with
  |@is0 _ _ cap a=>
   have hr:=lJ (ty:=o.type) f W hi A hb (base:=some a) (sLen:=0) (sCap:=cap) (by omega) (w':=w) (by rw[m];rfl);rw[H,<-C]at hr;exact bX (V:=.slice (some a) 0 cap) (d (by rw[C]at hr ⊢;simpa using hr)) .is0 S T
  |@is _ _ _ a cap hs' hl' hr' hc' hv'=>
   have hr:=lJ (ty:=o.type) f W hi A hb (base:=some a) (sLen:=els.length) (sCap:=cap) (by omega) (w':=w) (by rw[m];rfl);rw[H,<-C]at hr;refine bX (V:=.slice (some a) els.length cap) (d (by simpa using hr)) (.is hs' hl' hr' hc' hv') S T
  cases hd
 ·
  rename_i zz id ver off len cap;split at hd;rename_i bx ty2 ez G els hL;split at hd;rename_i hc;obtain⟨rfl,rfl,rfl,hlen⟩:=hc;obtain⟨loc,cs,h1,h2,h3,h4,h5,h6,h7,h8,h9⟩:=S id _ hL;generalize C:ρ s=V at hs;cases hs with
  |@sl _ _ _ _ _ _ _ loc' p c hi2 hver hlc hsp hp=>
   have e1:loc'=loc:=by rw[h1]at hi2;cases hi2;rfl
   subst e1;obtain⟨hz,d9,e0,b7,e3⟩:=hp h3;by_cases H:new.isEmpty;rw[fJ3 H]at hd;cases hd;have b5:new.length=0:=by simpa using H
   have m:news=[]:=by have:=hf.len;rw[b5]at this;simpa using this
   have hr:=lJ (ty:=o.type) f W hi A hb (base:=some p) (sLen:=len) (sCap:=c) (by omega) (w':=w) (by rw[m];rfl);rw[b5,<-C]at hr;exact bX (V:=.slice (some p) len c) (d (by simpa using hr)) (.sl hi2 hver hlc hsp hp) S T;rw[fM3 H]at hd;have b6:new.length≠0:=by simpa using H
   have O:∀(B:Nat) (E:aA (aA AV)) (cap':aB Nat),len+new.length<=c->lim<=id->loc'.ver<=B->E.length<=loc'.ct->
     (∀(i:Nat) (row:aA AV),E[i]? =some row->(off+len<=i/\i<off+len+new.length/\new[i-(off+len)]? =some row)\/(¬(off+len<=i/\i<off+len+new.length)/\els[i]? =some row))->
     (cap'=none->cap=none)->(∀k,cap'=some k->cap=some k)->
     iL P g lim w L n {v:=.sl zz id B off (len+new.length) cap',up:=some (id,.arr bx ty2 i.size B E)} (execOp ρ o):=by
    intro B E cap' F r hv2 d4 aK d2 d3;have e4:p=⟨loc'.b,off*loc'.esz,none⟩:=d9.resolve_left (by omega);subst e4
    have J:off*i.size+len*i.size+news.length<=cs.size:=by
     rw[hf.len,h6,<-hK3,<-hK3];exact gS3 _ (by omega)
    have b8:=run_storeCells_at P loc'.b (off*i.size+len*i.size) ty2 news 0 cs w h5 (by simpa using J) (fun y hy=>Dv (hf.cell y hy));simp only[hP3]at b8;have hr:=lJ (ty:=o.type) f W hi A hb (base:=some ⟨loc'.b,off*loc'.esz,none⟩) (sLen:=len) (sCap:=c) F (w':=_) (by rw[h2];simp only[kZ];exact b8);rw[<-C]at hr;obtain⟨p1,p2,p3,p4⟩:=qG w loc'.b (cs.toList.take (off*i.size+len*i.size)++news++cs.toList.drop (off*i.size+len*i.size+news.length)).toArray;have U:=setRow_heap w loc'.b cs (cs.toList.take (off*i.size+len*i.size)++news++cs.toList.drop (off*i.size+len*i.size+news.length)).toArray ty2 (0,0) h5;refine wU (hnl:=fun R hR=>by simp_all) (nx:=.value _) (V:=_) (loc:=loc') (ver:=B) (d hr) (.inl rfl) h1 r hv2 U (fun b hb=>setRow_other w loc'.b b _ hb) p4 p1 p2 p3 (fun g' q l=>?_) (fun g' q l=>?_) S T;exact .sl l (fI3 _) F hsp (fun _=>⟨hz,.inr rfl,e0,fun h=>b7 (d2 h),fun k h=>e3 k (d3 k h)⟩);obtain⟨r1,r2⟩:=Oc (g':=g') q (cs:=cs.toList) (k:=off+len) (ct:=loc'.ct) (by simpa using h6) hf (by omega) h8 (fun i row j x a b=>by simpa using h9 i row j x a b) aK;rw[hK3]at r2;refine⟨_,_,l,h2,rfl,h4,U,?_,d4,r1,fun i row j x a b=>?_⟩
    grind
    grind
   cases cap with
   |none=>
    simp only at hd;split at hd;rename_i d5;split at hd;rename_i X;obtain⟨rfl,r,rfl⟩:=X;cases hd;have Y:len=els.length:=by omega
    by_cases d0:len+new.length<=c
    grind
    ·
     have N:∃olds,lW g i.size els olds/\∀w':World,w'.heap=w.heap->(Builtin.firstCells i.size len (.slice (some p) len c)).run P w'=.ok olds.toArray w':=by
      have e5:VR g (.sl zz id G 0 len none) (.slice (some p) len c):=.sl hi2 hver hlc hsp hp;obtain⟨a,e7,b0,q1,q2,q3⟩:=Du (rows:=els) S T h0 e5 (by simp[rowsOf,hL,Y]) (fun s e=>by cases e);simp only[Value.slice.injEq]at b0;obtain⟨rfl,-,rfl⟩:=b0;obtain⟨ys,y1,y2,y3,y4⟩:=q3 p rfl;refine⟨ys,⟨y1,q1,y3,y4⟩,fun w' e6=>?_⟩;exact run_firstCells_some (P:=P) w' i.size len p len c ys (by rw[y1,Y]) (fun j y hy=>by rw[World.cell?,e6];exact y2 j y hy)
     obtain⟨olds,d7,d8⟩:=N;have Z:=D _ _ _ _ _ _ rfl;have hr:=wX (ty:=o.type) f W hi A hb (by omega) Z d8;rw[<-C]at hr;have K:=grownCap_ge w (len+new.length) c ty2;refine Zl (w₁:=w.drew) (loc:=loc') (loc':=⟨w.heap.size,i.size,grownCap w (len+new.length) c ty2,G+1⟩) (.inr rfl) (d hr) h1 r (by simp;omega) rfl ?_ ?_ S T;intro g' q l;exact .sl l (fI3 _) K rfl (fun _=>⟨by rw[<-hz,h2],.inr (by simp),by simp,fun _=>by simp,fun k h=>by cases h⟩);intro g' q l;have M:(els++new).length=len+new.length:=by simp[Y]
     have:=Co (P:=P) (w:=w) (ty:=ty2) (bx:=false) (ver:=G+1) (dS:=Builtin.zeroCells z.cells (grownCap w (len+new.length) c ty2-(len+new.length))) g' l rfl rfl rfl rfl h0 ((Bh d7 hf).mono q) (by rw[M];exact K)
      (by rw[size_zeroCells,b9,M])
     simpa using this
    cases hd;split at hd;rename_i X;obtain⟨J,r⟩:=X;cases hd;have e8:=b7 rfl;have:=O G (setL els (off+len) new) none (by omega) r (by omega) (by rw[nR];exact h7) (Ib J) (fun _=>rfl) (fun k h=>by cases h);exact this;cases hd
   |some c'=>cases hd
  cases hd;cases hd
 cases hd
end
end Go.Sim
namespace Go.Sim
section
variable {P:Program} {g:Gh} {lim:Nat} {w:World} {L:Nat->Option AO} {n:Nat}
variable (ρ:Operand->Value) (o:Oper) {k:iV} {os:List Operand} {xs:List AV} {out:Out}
def TR.setL {g}:∀{row} {R} off {cs} {Cs},TR g row R->TR g cs Cs->TR g (setL row off cs) (setL R off Cs)
 |row,R,off,[],Cs,h,hc=>by
  have:Cs=[]:=by have:=hc.1;simpa using this.symm
  subst this;exact h
 |row,R,off,c::cs,[],h,hc=>by have:=hc.1;simp at this
 |row,R,off,c::cs,C::Cs,h,hc=>by
  simp only[Sim.setL]
  exact TR.setL (off+1) (h.set hc.head off) hc.tail
def Ic:∀(vs:aA Value) (k off:Nat) (cells:Array Value),((vs.zipIdx k).foldl (fun cs (x:Value×Nat)=>cs.setIfInBounds (off+x.2) x.1) cells).toList=setL cells.toList (off+k) vs
 |[],k,off,cells=>by simp[setL]
 |v::vs,k,off,cells=>by
  simp only[List.zipIdx_cons,List.foldl_cons]
  rw[Ic vs (k+1) off]
  simp[setL,gY3]
def Oh {x:Value}:∀{R} off {Cs},x∈setL R off Cs->x∈R\/x∈Cs
 |R,off,[],h=>.inl h
 |R,off,C::Cs,h=>by
  simp only[setL]at h
  rcases Oh (off+1) h with h|h
  grind
  grind
def wY {place}:∀(a:aA Nat) (ps:aA (Nat×Nat)) (xs:aA AV) (vs:aA Value) (cells:aA AV) (Cs:Array Value) (cs':aA AV),
  (∀(j i:Nat),a[j]? =some i->ps[j]? =place i/\(place i).isSome)->a.length=ps.length->TR g xs vs->vs.length=a.length->TR g cells Cs.toList->(∀y∈Cs.toList,isCell y=true)->fillParts cells ps xs=some cs'->
  ∃Cs':Array Value,Instr.fill place Cs (a.zip vs)=some Cs'/\TR g cs' Cs'.toList/\∀y∈Cs'.toList,isCell y=true
 |[],ps,xs,vs,cells,Cs,cs',hp,hl,hx,hv,hc,hcell,hf=>by
  have h1:ps=[]:=by simpa using hl.symm
  have h2:vs=[]:=by simpa using hv
  subst h1 h2
  have d:xs=[]:=by have:=hx.1;simpa using this
  subst d
  simp only[fillParts,fN3]at hf
  subst hf
  exact⟨Cs,by simp[Instr.fill],hc,hcell⟩
 |i::a,ps,xs,vs,cells,Cs,cs',hp,hl,hx,hv,hc,hcell,hf=>by
  match ps,hl with
  |[],hl=>simp at hl
  |p::ps,hl=>
   match vs,hv with
   |[],hv=>simp at hv
   |v::vs,hv=>
    match xs,hx with
    |[],hx=>have:=hx.1;simp at this
    |x::xs,hx=>
     obtain⟨h1,h2⟩:=hp 0 i rfl
     simp only[hF3]at h1
     obtain⟨off,s⟩:=p
     simp only[fillParts]at hf
     split at hf
     rename_i cs f
     split at hf
     rename_i c
     obtain⟨t,e2⟩:=c
     obtain⟨m,e⟩:=hx.head.cells f
     have k:v.cells.size=s:=by have:=m.1;simp at this;omega
     have l:¬(off+v.cells.size>Cs.size):=by have:=hc.1;simp at this;omega
     let Cs1:=v.cells.zipIdx.foldl (fun cs (x:Value×Nat)=>cs.setIfInBounds (off+x.2) x.1) Cs
     have b:Cs1.toList=setL Cs.toList off v.cells.toList:=by
      have:=Ic v.cells.toList 0 off Cs;rw[hP3]at this;rw[<-this];simp only[Cs1];congr 1;rw[<-Array.foldl_toList];congr 1;simp
     obtain⟨Cs',d,n,o⟩:=wY a ps xs vs (setL cells off cs) Cs1 cs' (fun j r q=>by simpa using hp (j+1) r (by simpa using q)) (by simpa using hl) hx.tail (by simpa using hv)
      (by rw[b];exact hc.setL off m) (fun y hy=>by
       rw[b]at hy;rcases Oh off hy with h|h;exact hcell y h;exact e y h) hf
     refine⟨Cs',?_,n,o⟩;simp only[List.zip_cons_cons,Instr.fill,<-h1];rw[fM3 (by simp[k];omega)];exact d;cases hf;cases hf
def eD1 {α β} (f:α->Sem β) (r:α->β) (l:aA α) (h:∀a∈l,∀w,(f a).run P w=.ok (r a) w) (w:World):(l.mapM f).run P w=.ok (l.map r) w:=by
 induction l generalizing w with
 |nil=>simp
 |cons a l ih=>
  simp only[iU3,Sem.run_bind,h a (by simp),Result.andThen_ok,ih (fun b hb=>h b (by simp[hb])),Sem.run_pure,iA3]
def Zq {α β} (f:α->Sem β) (r:α->β) (l:Array α) (h:∀a∈l.toList,∀w,(f a).run P w=.ok (r a) w) (w:World):(l.mapM f).run P w=.ok (l.map r) w:=by
 rw[Array.mapM_eq_mapM_toList];simp only[Sem.run_map,eD1 f r l.toList h w,Result.andThen_ok];congr 1;apply jK3;simp
def oZ {t:TypeId} {place:Nat->aB (Nat×Nat)}
  (hs:∀fs,P.underlying t=some (.struct fs)->∀(i:Nat) (f:Field) (c:TypeInfo),fs[i]? =some f->P.info? f.type=some c->place i=some (f.offset,c.size))
  (d:∀m e,P.underlying t=some (.array m e)->∀(i:Nat) (a:TypeInfo),P.info? e=some a->place i=some (i*a.size,a.size)):
  ∀(is:aA Nat) (ps:aA (Nat×Nat)),oR P t is=some ps->is.length=ps.length/\∀(j i:Nat),is[j]? =some i->ps[j]? =place i/\(place i).isSome
 |[],ps,h=>by
  simp only[oR,fN3]at h
  subst h
  exact⟨rfl,fun j i h=>by simp at h⟩
 |i::is,ps,h=>by
  simp only[oR]at h
  split at h
  cases h
  rename_i r hr
  have IH:=oZ hs d is r hr
  have fin:∀q,place i=some q->ps=q::r->(i::is).length=ps.length/\∀(j b:Nat),(i::is)[j]? =some b->ps[j]? =place b/\(place b).isSome:=by grind
  split at h
  grind
  grind
  cases h
def eE1 {t:TypeId} {parts:Array (Nat×Operand)} {i:TypeInfo} {z:Value} {ps:aA (Nat×Nat)} (S:o.op=.build t parts) (hi:P.info? t=some i) (U:i.zero=some z)
  (hg:z.cells.toList.all Value.ground=true) (G:∀fs,P.underlying t=some (.struct fs)->fs.toList.all (fun f=>(P.info? f.type).isSome)=true) (A:oR P t (parts.toList.map (·.1))=some ps)
  (J:TR g xs ((parts.toList.map (·.2)).map ρ)) (hd:doOp L lim n (.build z.cells.toList ps) xs=some out) (F:∀m e,P.underlying t=some (.array m e)->(P.info? e).isSome=true) (T:P.underlying t≠none) (H:eN P t=true) (N:HR P g L w) (O:WG g w):
  iL P g lim w L n out (execOp ρ o):=by
 simp only[doOp,fG3]at hd;obtain⟨cs,u,rfl⟩:=hd;have B:=fun w=>nK (P:=P) hi U w
 have q:(parts.map fun(x:Nat×Operand)=>(x.1,ρ x.2)).toList=(parts.toList.map (·.1)).zip ((parts.toList.map (·.2)).map ρ):=by
  rw[iQ3];generalize parts.toList=l
  induction l with
  |nil=>rfl
  |cons a l ih=>simp[ih]
 have fin:∀Cs':Array Value,TR g cs Cs'.toList->(∀y∈Cs'.toList,isCell y=true)->(Instr.build t (parts.map fun(x:Nat×Operand)=>(x.1,ρ x.2))).run P w=.ok (.agg Cs') w->
   iL P g lim w L n {v:=.agg cs} (execOp ρ o):=by
  intro Cs' h1 h2 r;refine bX (V:=.agg Cs') ?_ (.agg (by simpa using h1.1) (fun i y hy=>h2 y (fL3 (by simpa using hy))) (fun i x y a b=>h1.2 i x y a (by simpa using b))) N O;have E:(Instr.build t (parts.map fun(i,x)=>(i,ρ x))).run P w=.ok (.agg Cs') w:=r;simp[execOp,S,E]
 cases hd2:P.underlying t with
 |none=>exact absurd hd2 T
 |some d=>
  cases d with
  |struct fs=>
   have s:=G fs hd2;let place:Nat->aB (Nat×Nat):=fun j=>(fs.map fun f=>(f.offset,((P.info? f.type).map (·.size)).getD 0))[j]?
   obtain⟨C,e2⟩:=oZ (P:=P) (t:=t) (place:=place) (fun D c j f M hf h=>by
    rw[hd2]at c;cases c;simp[place,hf,h]) (fun m e c=>by rw[hd2]at c;cases c) _ _ A
   obtain⟨Cs',h1,h2,r⟩:=wY (place:=place) (parts.toList.map (·.1)) ps xs ((parts.toList.map (·.2)).map ρ) (zeroRow z.cells.toList) z.cells cs e2 C J (by simp) (wV hg) (oG hg) u;refine fin Cs' h2 r ?_
   have R:=Zq (P:=P) (fun f:Field=>(do pure (f.offset,<-sizeOf f.type):Sem (Nat×Nat))) (fun f=>(f.offset,((P.info? f.type).map (·.size)).getD 0)) fs (fun f hf w=>by
    have:=fH3.1 s f hf;cases h:P.info? f.type with
    |none=>simp[h]at this
    |some M=>simp[gT h,h]) w
   simp only[Instr.build,Sem.run_bind,B,Result.andThen_ok,run_underlying hd2,R,q];simp only[place]at h1;rw[h1];simp
  |array m e=>
   have k:=F m e hd2;cases k:P.info? e with
   |none=>simp[k]at *
   |some ei=>
    let place:Nat->aB (Nat×Nat):=fun j=>some (j*ei.size,ei.size)
    obtain⟨C,e2⟩:=oZ (P:=P) (t:=t) (place:=place) (fun D c=>by rw[hd2]at c;cases c) (fun W e' c j K p=>by
     rw[hd2]at c;cases c;rw[k]at p;cases p;rfl) _ _ A
    obtain⟨Cs',h1,h2,r⟩:=wY (place:=place) (parts.toList.map (·.1)) ps xs ((parts.toList.map (·.2)).map ρ) (zeroRow z.cells.toList) z.cells cs e2 C J (by simp) (wV hg) (oG hg) u;refine fin Cs' h2 r ?_;simp only[Instr.build,Sem.run_bind,B,Result.andThen_ok,run_underlying hd2,gT k,q];simp only[place]at h1;rw[h1];simp
  |_=>simp[eN,hd2]at H
end
end Go.Sim
namespace Go.Sim
section
variable {P:Program} {g:Gh} {lim:Nat} {w:World} {L:Nat->Option AO} {n:Nat}
variable (ρ:Operand->Value) (o:Oper) {k:iV} {os:List Operand} {xs:List AV} {out:Out}
def Tc (z:Array Value) (len:Nat):((Array.range (len*z.size)).map (z[· %z.size]!))=Builtin.zeroCells z len:=rfl
def TR.flatRows {esz m} {cs} {Cs} (h:TR g cs Cs) (hl:cs.length=m*esz) (hc:∀y∈Cs,isCell y=true):
  lW g esz ((List.range m).map fun i=>(cs.drop (i*esz)).take esz) Cs:=by
 refine⟨by rw[<-h.1,hl];simp,fun i row hr=>?_,hc,fun i row j x hr c=>?_⟩;simp only[gG3,fG3]at hr;obtain⟨e,a,rfl⟩:=hr;have:i<m:=by have:=(fE3.1 a).1;simpa using this
 rw[iP3 this]at a;cases a;have h2:(i+1)*esz<=m*esz:=gS3 _ this;rw[hQ3]at h2;simp;omega;simp only[gG3,fG3]at hr;obtain⟨e,a,rfl⟩:=hr;have hi:i<m:=by have:=(fE3.1 a).1;simpa using this
 rw[iP3 hi]at a;cases a;rw[gA3]at c;split at c;rename_i d;rw[gM3]at c;have b:i*esz+j<Cs.length:=by rw[<-h.1,hl];exact zL hi d
 exact⟨Cs[i*esz+j],by simp[b],h.2 _ x _ c (by simp[b])⟩;cases c
def Td {t e} {len} {parts} {z} (Z:o.op=.buildSlice t len parts) (S:P.underlying t=some (.slice e)) (hz:oU P e=some z) (b0:len*z.length<=2^24)
  (hx:TR g xs ((parts.toList.map (·.2)).map ρ)) (hd:doOp L lim n (.buildSl e z.length len z (parts.toList.map (·.1))) xs=some out) (U:HR P g L w) (X:WG g w) (hn:g.ι n=none) (hl:lim<=n):
  iL P g lim w L n out (execOp ρ o):=by
 simp only[doOp,fG3]at hd;obtain⟨cs,f,rfl⟩:=hd;obtain⟨i,b,hi,R,s,hg,hlen,Y⟩:=nQ hz;have d:b.cells.size=z.length:=by rw[<-s];simp
 have M:((List.range len).flatMap fun _=>zeroRow z)=zeroRow (Builtin.zeroCells b.cells len).toList:=by
  apply jD3;intro j;have r:0<z.length:=by omega
  have T:((List.range len).flatMap fun _=>zeroRow z)=(List.replicate len (zeroRow z)).flatten:=by
   rw[List.flatMap_def,List.map_const'];simp
  rw[T];by_cases G:j<len*z.length;have h1:j/z.length<len:=Nat.div_lt_of_lt_mul (by rw[Nat.mul_comm];exact G);have h2:j%z.length<z.length:=Nat.mod_lt _ r
  have W:(zeroRow (Builtin.zeroCells b.cells len).toList)[j]? =some (.v z[j%z.length]):=by
   have:=Of b.cells len (j/z.length) (j%z.length) h1 (by omega);rw[d,Nat.div_add_mod']at this;simp only[zeroRow,gG3,hJ3,this];have H:b.cells[j%z.length]? =some z[j%z.length]:=by rw[<-hJ3];simp[s,h2]
   rw[H];rfl
  rw[W]
  have:∀m k,k<m*z.length->((List.replicate m (zeroRow z)).flatten)[k]? =some (.v z[k%z.length]!):=by
   intro m
   induction m with
   |zero=>intro k hk;omega
   |succ m ih=>
    intro k hk;rw[List.replicate_succ,jE3,hG3];have O:(zeroRow z).length=z.length:=by simp[zeroRow]
    by_cases B:k<z.length;rw[fJ3 (by omega)];simp[zeroRow,B,Nat.mod_eq_of_lt B];rw[fM3 (by omega),O,ih (k-z.length) (by rw[hQ3]at hk;omega)];congr 3;rw[<-Nat.mod_eq_sub_mod (by omega)]
  rw[this len j G];congr 1;simp[h2];rw[List.getElem?_eq_none,List.getElem?_eq_none];simp[zeroRow,size_zeroCells,d];omega;simp[zeroRow];omega
 have A:(Builtin.zeroCells b.cells len).toList.all Value.ground=true:=by
  rw[fH3];intro y hy;simp only[Builtin.zeroCells,iQ3,iS3]at hy;obtain⟨k,hk,rfl⟩:=hy;have:k%b.cells.size<b.cells.size:=Nat.mod_lt _ (by omega);rw[getElem!_pos b.cells _ this];exact fH3.1 hg _ (by rw[<-s];simp)
 let place:Nat->aB (Nat×Nat):=fun j=>some (j*z.length,z.length)
 rw[M]at f
 obtain⟨Cs',h1,h2,H⟩:=wY (g:=g) (place:=place) (parts.toList.map (·.1)) _ xs ((parts.toList.map (·.2)).map ρ) (zeroRow (Builtin.zeroCells b.cells len).toList) (Builtin.zeroCells b.cells len) cs
  (fun j i' G=>by rw[gG3,G];exact⟨rfl,rfl⟩) (by simp) hx (by simp) (wV A) (oG A) f
 have K:cs.length=len*z.length:=by
  have:∀cells ps xs cs,fillParts cells ps xs=some cs->cs.length=cells.length:=by
   intro cells ps
   induction ps generalizing cells with
   |nil=>intro xs cs h;cases xs<;>simp[fillParts]at h;subst h;rfl
   |cons p ps ih=>
    intro xs cs h;cases xs with
    |nil=>simp[fillParts]at h
    |cons x xs=>
     obtain⟨off,m⟩:=p;simp only[fillParts]at h;split at h;split at h;have:=ih _ xs cs h;rw[this,nR];cases h;cases h
  rw[this _ _ _ _ f];simp[zeroRow,size_zeroCells,d]
 have F:(parts.map fun(x:Nat×Operand)=>(x.1,ρ x.2)).toList=(parts.toList.map (·.1)).zip ((parts.toList.map (·.2)).map ρ):=by
  rw[iQ3];generalize parts.toList=l
  induction l with
  |nil=>rfl
  |cons a l ih=>simp[ih]
 have D:(Instr.buildSlice t len (parts.map fun(x:Nat×Operand)=>(x.1,ρ x.2))).run P w=.ok (.slice (some ⟨w.heap.size,0,none⟩) len len) (w.alloc (.cells Cs' e)):=by
  have E:¬(len*i.size>2^24):=by rw[<-hlen];omega
  have c:Instr.fill (fun j=>some (j*i.size,i.size)) ((Array.range (len*i.size)).map (b.cells[· %b.cells.size]!)) (parts.map fun(x:Nat×Operand)=>(x.1,ρ x.2)).toList=some Cs':=by
   rw[F,<-hlen,<-d,Tc,d];exact h1
  by_cases h0:len*i.size=0;have r:(Array.range (len*i.size)).map ((#[]:Array Value)[· %(#[]:Array Value).size]!)=(Array.range (len*i.size)).map (b.cells[· %b.cells.size]!):=by rw[h0];simp
  rw[<-r,h0]at c;simp only[Instr.buildSlice,Sem.run_bind,run_underlying S,Result.andThen_ok,gT hi];simp only[h0];simp only[Sem.run_ite,Sem.run_bind,gt_iff_lt,Nat.not_lt_zero,gT3,Sem.run_pure,Result.andThen_ok,gF3];rw[c];simp[newRow];exact run_buildSlice w t e len _ Cs' i b S hi R E h0 c
 refine qT (w₁:=w) (V:=.slice (some ⟨w.heap.size,0,none⟩) len len) (o:=.cells Cs' e) (loc:=⟨w.heap.size,z.length,len,0⟩) (.inl rfl) ?_ rfl hn hl ?_ ?_ U X;have J:(Instr.buildSlice t len (parts.map fun(i,x)=>(i,ρ x))).run P w=.ok (.slice (some ⟨w.heap.size,0,none⟩) len len) (w.alloc (.cells Cs' e)):=D;simp[execOp,Z,J];intro g' u q;exact .sl q (fI3 _) (fI3 _) rfl (fun _=>⟨rfl,.inr (by simp),by simp,fun _=>by simp,fun k h=>by cases h⟩);intro g' u q;have N:=(h2.mono u).flatRows K H;have C:((List.range len).map fun i=>(cs.drop (i*z.length)).take z.length).length=len:=by simp
 have:=Co (P:=P) (w:=w) (ty:=e) (bx:=false) (dS:=#[]) (ct:=len) g' q rfl rfl rfl rfl (show z.length≠0 by omega) N (by rw[C];exact fI3 _) (by rw[C];simp);simpa using this
def lV1 {t e} {l c} {i} {z} (J:o.op=.makeSlice t l c) (M:P.underlying t=some (.slice e)) (hi:P.info? e=some i) (N:oU P e=some z) (hb:i.bytes<=2^16)
  (f:TR g xs [ρ l,ρ c]) (hd:doOp L lim n (.mksl e i.size i.bytes z) xs=some out) (F:HR P g L w) (G:WG g w) (hn:g.ι n=none) (hl:lim<=n):iL P g lim w L n out (execOp ρ o):=by
 match xs,f with
 |[],f=>have:=f.1;simp at this
 |[_],f=>have:=f.1;simp at this
 |[a,b],f=>
  obtain⟨S,r,d,A,p,hg,hlen,y⟩:=nQ N;rw[hi]at d;cases d;have u:r.cells.size=z.length:=by rw[<-p];simp
  simp only[doOp]at hd;split at hd;rename_i m q H K;obtain⟨O,B⟩:=jS H f.head;obtain⟨R,e2⟩:=jS K f.tail.head;split at hd;rename_i hc;obtain⟨h1,h2,C⟩:=hc;cases hd;simp only[maxRoom]at C
  have j:(i.bytes:Int)*q<=281474976710656:=by
   have D:i.bytes*q.toNat<=2^16*2^30:=Nat.mul_le_mul hb (by omega);have E:((i.bytes*q.toNat:Nat):Int)<=((2^16*2^30:Nat):Int):=Int.ofNat_le.2 D;rw[Int.natCast_mul,Int.toNat_of_nonneg (by omega)]at E;omega
  have hr:=run_make (P:=P) w t e i r M hi A O R m q h1 h2 j (by omega);refine qT (w₁:=w) (V:=.slice (some ⟨w.heap.size,0,none⟩) m.toNat q.toNat) (o:=.cells (madeCells r.cells (q.toNat*i.size)) e) (loc:=⟨w.heap.size,i.size,q.toNat,0⟩) (.inl rfl) ?_ rfl hn hl ?_ ?_ F G;simp[execOp,J,B,e2,hr];intro g' v d;exact .sl d (fI3 _) (by omega) rfl (fun _=>⟨rfl,.inr (by simp),by simp,fun _=>by simp,fun k h=>by cases h⟩);intro g' v d;have s:=zN (g:=g') (z:=r.cells) (m:=q.toNat) (by rw[p];exact hg);rw[u,hlen]at s
  have x:madeCells r.cells (q.toNat*i.size)=Builtin.zeroCells r.cells q.toNat:=by
   unfold madeCells Builtin.zeroCells;rw[u,hlen]
  have:=Co (P:=P) (w:=w) (ty:=e) (bx:=false) (dS:=#[]) (ct:=q.toNat) g' d rfl rfl rfl rfl y s (by simp) (by simp);rw[x,<-p];simpa using this;cases hd;cases hd
 |_::_::_::_,f=>have:=f.1;simp at this
end
end Go.Sim
namespace Go.Sim
section
variable {P:Program} {g:Gh} {lim:Nat} {w:World} {L:Nat->Option AO} {n:Nat}
variable (ρ:Operand->Value) (o:Oper) {k:iV} {os:List Operand} {xs:List AV} {out:Out}
def qH:Nat->Value
 |0=>.slice none 0 0
 |1=>.pointer none
 |2=>.map none
 |_=>.nilFunc
def Kn (kd:Nat):TypeDesc->Bool
 |.slice _=>kd==0
 |.pointer _=>kd==1
 |.map _ _=>kd==2
 |.func _ _ _=>kd==3
 |_=>false
def Ie {kd} {x} {V} (h:isNilv kd x=some true) (a:VR g x V):V=qH kd/\kd<=3:=by
 unfold isNilv at h;split at h
 .exact ⟨a.ground,by omega⟩
 .exact ⟨a.ground,by omega⟩
 .exact ⟨a.ground,by omega⟩
 .exact ⟨a.ground,by omega⟩
 all_goals cases h
def Te {kd} {x} {V} (h:isNilv kd x=some false) (d:VR g x V):
  (kd=0/\∃a l c,V=.slice (some a) l c)\/(kd=1/\∃a,V=.pointer (some a))\/(kd=2/\∃b,V=.map (some b))\/(kd=3/\∃f a c,V=.func f a c):=by
 unfold isNilv at h;split at h;cases h;cases h;cases h;cases h;cases d
 grind
 grind
 cases d;exact .inl ⟨rfl,_,_,_,rfl⟩;cases d;exact .inr (.inl ⟨rfl,_,rfl⟩);cases d;exact .inr (.inl ⟨rfl,_,rfl⟩);cases d;exact .inr (.inr (.inl ⟨rfl,_,rfl⟩));cases d;exact .inr (.inr (.inl ⟨rfl,_,rfl⟩));cases d
 grind
 grind
 cases h
def Zr {t} {d} {kd} (hd:P.underlying t=some d) (hk:Kn kd d=true) {A B} {a b}
  (g:(a=true/\A=qH kd)\/(a=false/\((kd=0/\∃p l c,A=.slice (some p) l c)\/(kd=1/\∃p,A=.pointer (some p))\/(kd=2/\∃p,A=.map (some p))\/(kd=3/\∃f x c,A=.func f x c))))
  (e:(b=true/\B=qH kd)\/(b=false/\((kd=0/\∃p l c,B=.slice (some p) l c)\/(kd=1/\∃p,B=.pointer (some p))\/(kd=2/\∃p,B=.map (some p))\/(kd=3/\∃f x c,B=.func f x c)))) (h:a=true\/b=true):
  (Op.equal t A B).run P w=.ok (a&&b) w:=by
 have key:∀m,(Op.equalIn (m+1) t A B).run P w=.ok (a&&b) w:=by
  intro m;rw[Op.equalIn];simp only[Sem.run_bind,run_underlying hd,Result.andThen_ok];cases d<;>simp only[Kn,fR3]at hk
  all_goals
   have hk:=eq_of_beq hk;subst hk;rcases g with⟨rfl,rfl⟩|⟨rfl,g⟩
   .rcases e with⟨rfl,rfl⟩|⟨rfl,e⟩
    .simp [qH]
    .simp at e
     first
     |(obtain⟨p,l,c,rfl⟩:=e;simp[qH];done)
     |(obtain⟨p,rfl⟩:=e;simp[qH];done)
   .rcases e with⟨rfl,rfl⟩|⟨rfl,e⟩
    .simp at g
     first
     |(obtain⟨p,l,c,rfl⟩:=g;simp[qH];done)
     |(obtain⟨p,rfl⟩:=g;simp[qH];done)
    .simp at h
 exact key 9999
def Oj {op} {neg} {t u} {x y} {d} {kd} (J:o.op=.binOp op t x y u) (hop:op=if neg then .neq else .eql) (K:P.underlying t=some d) (hk:Kn kd d=true)
  (i:TR g xs [ρ x,ρ y]) (hd:doOp L lim n (.eqNil neg kd) xs=some out) (G:HR P g L w) (H:WG g w):iL P g lim w L n out (execOp ρ o):=by
 match xs,i with
 |[],i=>have:=i.1;simp at this
 |[_],i=>have:=i.1;simp at this
 |[a,b],i=>
  have E:=i.head;have hb:=i.tail.head;simp only[doOp]at hd
  have j:∀{x} {V} {r},isNilv kd x=some r->VR g x V->(r=true/\V=qH kd)\/(r=false/\((kd=0/\∃p l c,V=.slice (some p) l c)\/(kd=1/\∃p,V=.pointer (some p))\/(kd=2/\∃p,V=.map (some p))\/(kd=3/\∃f x c,V=.func f x c))):=by
   intro x V r h1 h2;cases r;exact .inr ⟨rfl,Te h1 h2⟩;exact .inl ⟨rfl,(Ie h1 h2).1⟩
  have fin:∀p q:Bool,isNilv kd a=some p->isNilv kd b=some q->(p=true\/q=true)->iL P g lim w L n {v:=.v (.bool ((p&&q)!=neg))} (execOp ρ o):=by
   intro p q h1 h2 F;have s1:=j h1 E;have M:=j h2 hb;have he:=Zr (P:=P) (w:=w) K hk s1 M F
   have C:(eqGuard op t x y (ρ x) (ρ y)).run P w=.ok () w:=by
    rcases s1 with⟨_,e⟩|⟨_,e⟩
    rw[e];rename_i D;subst D;have:=(Ie h1 E).2
    match kd,this with
    |0,_=>cases op<;>rfl
    |1,_=>cases op<;>rfl
    |2,_=>cases op<;>rfl
    |3,_=>cases op<;>rfl
    rcases e with⟨_,_,_,_,e⟩|⟨_,_,e⟩|⟨_,_,e⟩|⟨_,_,_,_,e⟩<;>rw[e]<;>cases op<;>rfl
   have z:(binOp op t (ρ x) (ρ y)).run P w=.ok (.bool ((p&&q)!=neg)) w:=by
    have h:(∀k m,ρ x≠.int k m)/\(∀k m,ρ x≠.float k m)/\(∀k m r,ρ x≠.complex k m r)/\(∀s,ρ x≠.string s):=by
     rcases s1 with⟨_,e⟩|⟨_,e⟩
     rw[e];unfold qH;split<;>refine⟨?_,?_,?_,?_⟩<;>intros<;>simp
     grind
    generalize ρ x=A at *;generalize ρ y=B at *;subst hop;cases neg
    cases A<;>first
     |exact absurd rfl (h.1 _ _)
     |exact absurd rfl (h.2.1 _ _)
     |exact absurd rfl (h.2.2.1 _ _ _)
     |exact absurd rfl (h.2.2.2 _)
     |(simp[binOp,he])
    cases A<;>first
     |exact absurd rfl (h.1 _ _)
     |exact absurd rfl (h.2.1 _ _)
     |exact absurd rfl (h.2.2.1 _ _ _)
     |exact absurd rfl (h.2.2.2 _)
     |(simp[binOp,he])
   refine bX (V:=.bool ((p&&q)!=neg)) ?_ (.v rfl) G H;simp[execOp,J,C,z]
  split at hd
  grind
  grind
  cases hd
 |_::_::_::_,i=>have:=i.1;simp at this
def mI {b} {args} {a} (d:o.op=.call {callee:=.builtin b,args:=args,argTypes:=a}) {V} {w'}
  (h:∀c,(builtin b a o.type c (args.map ρ)).run P w=.ok (.value V) w'):(execOp ρ o).run P w=.ok (.value V) w':=by
 simp only[execOp,d,Sem.run_bind,resolve,Sem.run_pure,Result.andThen_ok,invoke];exact h _
def Tf {x} {t} {d} {kd} (y:o.op=.call {callee:=.builtin .len,args:=#[x],argTypes:=#[t]}) (j:P.underlying t=some d)
  (hk:(kd=0/\∃e,d=.slice e)\/(kd=1/\d=.string)\/(kd=2/\∃k e,d=.map k e))
  (l:TR g xs [ρ x]) (hd:doOp L lim n (.len kd) xs=some out) (p:HR P g L w) (q:WG g w):iL P g lim w L n out (execOp ρ o):=by
 match xs,l with
 |[],l=>have:=l.1;simp at this
 |[a],l=>
  have i:=l.head
  have fin:∀m:Nat,(Builtin.len_ #[t] o.type #[ρ x]).run P w=.ok (goInt m) w->iL P g lim w L n {v:=.int m} (execOp ρ o):=by
   intro m h;refine bX (V:=goInt m) (mI ρ o y (fun c=>?_)) (.v rfl) p q;simp[builtin,h]
  simp only[doOp]at hd;split at hd;cases hd;rcases hk with⟨h,e,rfl⟩|⟨h,_⟩|⟨h,_⟩<;>first|(cases h;done)|skip
  generalize f:ρ x=V at i;cases i with
  |is0=>exact fin _ (by simp[Builtin.len_,run_underlying j,f])
  |is=>exact fin _ (by simp[Builtin.len_,run_underlying j,f])
  cases hd;rcases hk with⟨h,e,rfl⟩|⟨h,_⟩|⟨h,_⟩<;>first|(cases h;done)|skip
  generalize f:ρ x=V at i;cases i with
  |sl=>exact fin _ (by simp[Builtin.len_,run_underlying j,f])
  cases hd;rcases hk with⟨h,e,rfl⟩|⟨h,_⟩|⟨h,_⟩<;>first|(cases h;done)|skip
  have f:=i.ground;exact fin 0 (by simp[Builtin.len_,run_underlying j,f]);cases hd;rcases hk with⟨h,e,rfl⟩|⟨h,_⟩|⟨h,_⟩<;>first|(cases h;done)|skip
  generalize f:ρ x=V at i;cases i with
  |es=>exact fin 0 (by simp[Builtin.len_,run_underlying j,f])
  cases hd;rcases hk with⟨h,_⟩|⟨h,rfl⟩|⟨h,_⟩<;>first|(cases h;done)|skip
  have f:=i.ground;exact fin _ (by simp[Builtin.len_,run_underlying j,f]);cases hd;rcases hk with⟨h,_⟩|⟨h,_⟩|⟨h,k,e,rfl⟩<;>first|(cases h;done)|skip
  have f:=i.ground;exact fin 0 (by simp[Builtin.len_,run_underlying j,f]);rename_i id;rcases hk with⟨h,_⟩|⟨h,_⟩|⟨h,k,e,rfl⟩<;>first|(cases h;done)|skip
  split at hd;rename_i es u;cases hd;obtain⟨loc,ents,clock,h1,h2,r,s,z⟩:=p id _ u;generalize f:ρ x=V at i;cases i with
  |@map _ _ b loc' hi hp=>
   rw[h1]at hi;cases hi;have:=hp h2;subst this;have hg:(getObj loc.b).run P w=.ok (.map ents clock) w:=by simp[getObj,Sem.run,r]
   exact fin _ (by simp[Builtin.len_,run_underlying j,f,hg,s])
  cases hd;rename_i es;cases hd;rcases hk with⟨h,_⟩|⟨h,_⟩|⟨h,k,e,rfl⟩<;>first|(cases h;done)|skip
  generalize f:ρ x=V at i;cases i with
  |@im _ _ b clock ents hb hl hk' hv=>
   have hg:(getObj b).run P w=.ok (.map ents clock) w:=by simp[getObj,Sem.run,q.still _ _ hb]
   exact fin _ (by simp[Builtin.len_,run_underlying j,f,hg,hl])
  cases hd
 |_::_::_,l=>have:=l.1;simp at this
def Dw:∀xs vs k a r,TR g xs vs->foldMn k a xs=some r->(vs.foldlM Builtin.min2 (.int k a)).run P w=.ok (.int k r) w
 |[],vs,k,a,r,hx,h=>by
  have:vs=[]:=by have:=hx.1;simpa using this.symm
  subst this
  simp only[foldMn,fN3]at h
  subst h
  simp
 |x::xs,[],k,a,r,hx,h=>by have:=hx.1;simp at this
 |x::xs,v::vs,k,a,r,hx,h=>by
  simp only[foldMn]at h
  split at h
  rename_i k' b
  split at h
  rename_i e
  subst e
  have hv:=hx.head.ground
  subst hv
  simp only[List.foldlM_cons,Sem.run_bind,Builtin.min2,Sem.run_pure,Result.andThen_ok]
  exact Dw xs vs k _ r hx.tail h
  cases h
  cases h
def bX2 {args} {at_} (f:o.op=.call {callee:=.builtin .min,args:=args,argTypes:=at_})
  (b:TR g xs (args.toList.map ρ)) (hd:doOp L lim n .mn xs=some out) (d:HR P g L w) (e:WG g w):iL P g lim w L n out (execOp ρ o):=by
 cases xs with
 |nil=>simp[doOp]at hd
 |cons x xs=>
  simp only[doOp]at hd;split at hd;rename_i k a;simp only[fG3]at hd;obtain⟨r,hr,rfl⟩:=hd;cases hvs:args.toList.map ρ with
  |nil=>rw[hvs]at b;have:=b.1;simp at this
  |cons v vs=>
   rw[hvs]at b;have hv:=b.head.ground;have:=Dw (P:=P) (w:=w) xs vs k a r b.tail hr;refine bX (V:=.int k r) (mI ρ o f (fun c=>?_)) (.v rfl) d e;have h2:(args.map ρ).toList=v::vs:=by rw[iQ3];exact hvs
   simp only[builtin,Builtin.min_,h2,Sem.run_bind,hv,this,Result.andThen_ok,Sem.run_pure]
  cases hd
def Dx:∀xs vs k a r,TR g xs vs->foldMx k a xs=some r->(vs.foldlM Builtin.max2 (.int k a)).run P w=.ok (.int k r) w
 |[],vs,k,a,r,hx,h=>by
  have:vs=[]:=by have:=hx.1;simpa using this.symm
  subst this
  simp only[foldMx,fN3]at h
  subst h
  simp
 |x::xs,[],k,a,r,hx,h=>by have:=hx.1;simp at this
 |x::xs,v::vs,k,a,r,hx,h=>by
  simp only[foldMx]at h
  split at h
  rename_i k' b
  split at h
  rename_i e
  subst e
  have hv:=hx.head.ground
  subst hv
  simp only[List.foldlM_cons,Sem.run_bind,Builtin.max2,Sem.run_pure,Result.andThen_ok]
  exact Dx xs vs k _ r hx.tail h
  cases h
  cases h
def bY2 {args} {at_} (f:o.op=.call {callee:=.builtin .max,args:=args,argTypes:=at_})
  (b:TR g xs (args.toList.map ρ)) (hd:doOp L lim n .mx xs=some out) (d:HR P g L w) (e:WG g w):iL P g lim w L n out (execOp ρ o):=by
 cases xs with
 |nil=>simp[doOp]at hd
 |cons x xs=>
  simp only[doOp]at hd;split at hd;rename_i k a;simp only[fG3]at hd;obtain⟨r,hr,rfl⟩:=hd;cases hvs:args.toList.map ρ with
  |nil=>rw[hvs]at b;have:=b.1;simp at this
  |cons v vs=>
   rw[hvs]at b;have hv:=b.head.ground;have:=Dx (P:=P) (w:=w) xs vs k a r b.tail hr;refine bX (V:=.int k r) (mI ρ o f (fun c=>?_)) (.v rfl) d e;have h2:(args.map ρ).toList=v::vs:=by rw[iQ3];exact hvs
   simp only[builtin,Builtin.max_,h2,Sem.run_bind,hv,this,Result.andThen_ok,Sem.run_pure]
  cases hd
end
end Go.Sim
namespace Go.Sim
section
variable {P:Program} {g:Gh} {lim:Nat} {w:World} {L:Nat->Option AO} {n:Nat}
variable (ρ:Operand->Value) (o:Oper) {k:iV} {os:List Operand} {xs:List AV} {out:Out}
def Tg {s} {nx} {V} {v} {zz id ver off len} {cap} {G} {bx} {ty} {esz} {els new} {news} (z:HR P g L w) (N:WG g w)
  (O:L id=some (.arr bx ty esz ver els)) (A:VR g (.sl zz id ver off len cap) G) (hlen:off+len<=els.length) (f:lim<=id) (hf:lW g esz new news) (hnl:new.length<=len)
  (h:∀a c w',G=.slice (some a) len c->(storeCells a news).run P w=.ok () w'->s.run P w=.ok nx w') (o:nx=.value V\/(nx=.skip/\V=undef)) (hv:∀g',VR g' v V):
  iL P g lim w L n {v:=v,up:=some (id,.arr bx ty esz ver (setL els off new))} s:=by
 obtain⟨loc,cs,h1,h2,u,H,r,t,J,K,M⟩:=z id _ O;cases A with
 |@sl _ _ _ _ _ _ _ loc' p c hi hver hlc hsp hp=>
  rw[h1]at hi;cases hi;obtain⟨hz,E,T,U,W⟩:=hp u;by_cases B:new.length=0
  ·
   have C:new=[]:=by simpa using B
   subst C;have D:news=[]:=by have:=hf.len;simpa using this
   subst D;have hr:=h p c w rfl rfl;refine wU (hnl:=fun R S=>by simp_all) (nx:=nx) (V:=V) (loc:=loc) (ver:=loc.ver) hr o h1 f (fI3 _) r (fun b hb=>rfl) rfl rfl rfl rfl (fun g' _ _=>hv g') (fun g' l m=>?_) z N;simp only[setL];exact⟨_,cs,m,h2,u,H,r,t,J,K,fun i row j x a b=>by obtain⟨y,X,Y,Z⟩:=M i row j x a b;exact⟨y,X,Y,Z.mono l⟩⟩
  have F:p=⟨loc.b,off*loc.esz,none⟩:=E.resolve_left (by omega);subst F
  have e:off*esz+news.length<=cs.size:=by
   rw[hf.len,t,<-hK3];exact gS3 _ (by omega)
  have q:=run_storeCells_at P loc.b (off*esz) ty news 0 cs w r (by simpa using e) (fun y hy=>Dv (hf.cell y hy));simp only[hP3]at q;have hr:=h _ c _ rfl (by rw[h2];exact q);obtain⟨p1,p2,p3,p4⟩:=qG w loc.b (cs.toList.take (off*esz)++news++cs.toList.drop (off*esz+news.length)).toArray;have d:=setRow_heap w loc.b cs (cs.toList.take (off*esz)++news++cs.toList.drop (off*esz+news.length)).toArray ty (0,0) r;refine wU (hnl:=fun R S=>by simp_all) (nx:=nx) (V:=V) (loc:=loc) (ver:=loc.ver) hr o h1 f (fI3 _) d (fun b hb=>setRow_other w loc.b b _ hb) p4 p1 p2 p3 (fun g' _ _=>hv g') (fun g' l m=>?_) z N;obtain⟨r1,r2⟩:=Oc (g':=g') l (cs:=cs.toList) (k:=off) (ct:=loc.ct) (by simpa using t) hf (by omega) K (fun i row j x a b=>by simpa using M i row j x a b) (Ib (by omega));refine⟨_,_,m,h2,u,H,d,?_,by rw[nR];exact J,r1,fun i row j x a b=>?_⟩;rw[List.size_toArray,lR1 _ _ _ (by simpa using e)];simpa using t;simpa using r2 i row j x a b
def lW.take {esz} {rows} {ys} (h:lW g esz rows ys) (m:Nat):lW g esz (rows.take m) (ys.take (m*esz)):=by
 refine⟨?_,fun i row hr=>?_,fun y hy=>h.cell y (iV3 hy),fun i row j x hr a=>?_⟩;rw[hW3,hW3,h.len,Nat.mul_min_mul_right];rw[gA3]at hr;split at hr;exact h.row i row hr;cases hr;rw[gA3]at hr;split at hr;rename_i hi;obtain⟨y,h1,h2⟩:=h.val i row j x hr a;have b:j<esz:=by rw[<-h.row i row hr];exact(fE3.1 a).1
 exact⟨y,by rw[gA3,fJ3 (zL hi b)];exact h1,h2⟩;cases hr
def eF1 {x} {t e} {z} (v:o.op=.call {callee:=.builtin .clear,args:=#[x],argTypes:=#[t]}) (p:P.underlying t=some (.slice e)) (F:oU P e=some z)
  (h:TR g xs [ρ x]) (hd:doOp L lim n (.clear z.length z) xs=some out) (q:HR P g L w) (s:WG g w):iL P g lim w L n out (execOp ρ o):=by
 obtain⟨i,C,hi,A,j,hg,hlen,E⟩:=nQ F;have y:C.cells.size=z.length:=by rw[<-j];simp
 match xs,h with
 |[],h=>have:=h.1;simp at this
 |[d],h=>
  have b:=h.head;simp only[doOp]at hd;split at hd;cases hd;have r:=b.ground;refine bX (V:=undef) (mI ρ o v (fun c=>?_)) (.undef g) q s;simp[builtin,Builtin.clear_,run_underlying p,r,undef];cases hd;generalize r:ρ x=V at b;cases b with
  |@es _ a=>
   refine bX (V:=undef) (mI ρ o v (fun c=>?_)) (.undef g) q s;cases a<;>simp[builtin,Builtin.clear_,run_underlying p,r,undef]
  rename_i J id ver off len cap;split at hd;rename_i bx ty H B els D;split at hd;rename_i hc;obtain⟨rfl,rfl,u,l⟩:=hc;cases hd;have hf:=zN (g:=g) (z:=C.cells) (m:=len) (by rw[j];exact hg);rw[y,j]at hf;refine Tg (nx:=.value undef) (V:=undef) q s D b u l hf (by simp) (fun a c w' k f=>?_) (.inl rfl) (fun g'=>.undef g');refine mI ρ o v (fun G=>?_);cases len with
  |zero=>
   have:w'=w:=by
    simp[Builtin.zeroCells,Array.range_zero',storeCells]at f;exact f.symm
   subst this;simp[builtin,Builtin.clear_,run_underlying p,k,undef]
  |succ m=>
   simp[builtin,Builtin.clear_,run_underlying p,k,nK hi A,f,undef]
  cases hd;cases hd;cases hd
 |_::_::_,h=>have:=h.1;simp at this
end
end Go.Sim
namespace Go.Sim
variable {e t:TypeId} {hi lo mx:aB Operand} {len m n:Nat}
section
variable {P:Program} {g:Gh} {lim:Nat} {w:World} {L:Nat->Option AO}
variable (ρ:Operand->Value) (o:Oper) {k:iV} {os:List Operand} {xs:List AV} {out:Out}
def Zs {x:Value} {b:IntKind} {i:Int} (a:x=.int b i) {y:Nat} (c:BoundsCode) (h1:0<=i) (h2:i<=y):(Instr.sliceBound x y c).run P w=.ok i.toNat w:=by
 simp[Instr.sliceBound,a,asIntOf,h1,h2]
def Ol {lo hi} {len} {bs} {l h} (hb:bounds lo.isSome hi.isSome len bs=some (l,h)) (c:TR g bs ((lo.toList++hi.toList).map ρ)):
  ((lo=none/\l=0)\/∃a k,lo=some a/\ρ a=.int k l)/\((hi=none/\h=len)\/∃a k,hi=some a/\ρ a=.int k h):=by
 cases lo with
 |none=>
  cases hi with
  |none=>
   simp only[bounds,Option.isSome_none]at hb;split at hb<;>simp_all
  |some b=>
   match bs,c with
   |[],c=>have:=c.1;simp at this
   |[y],c=>
    simp only[bounds,Option.isSome_none,iJ3]at hb;simp only[fG3,gD3]at hb;obtain⟨m,d,rfl,rfl⟩:=hb;obtain⟨k,hk⟩:=jS d c.head;exact⟨.inl ⟨rfl,rfl⟩,.inr ⟨b,k,rfl,hk⟩⟩
   |_::_::_,c=>have:=c.1;simp at this
 |some a=>
  cases hi with
  |none=>
   match bs,c with
   |[],c=>have:=c.1;simp at this
   |[y],c=>
    simp only[bounds,Option.isSome_none,iJ3]at hb;simp only[fG3,gD3]at hb;obtain⟨m,d,rfl,rfl⟩:=hb;obtain⟨k,hk⟩:=jS d c.head;exact⟨.inr ⟨a,k,rfl,hk⟩,.inl ⟨rfl,rfl⟩⟩
   |_::_::_,c=>have:=c.1;simp at this
  |some b=>
   match bs,c with
   |[],c=>have:=c.1;simp at this
   |[_],c=>have:=c.1;simp at this
   |[y,z],c=>
    simp only[bounds,iJ3]at hb;split at hb;rename_i m q d f;cases hb;obtain⟨i,e⟩:=jS d c.head;obtain⟨j,e2⟩:=jS f c.tail.head;exact⟨.inr ⟨a,i,rfl,e⟩,.inr ⟨b,j,rfl,e2⟩⟩;cases hb
   |_::_::_::_,c=>have:=c.1;simp at this
def Th {isS:Bool} {cap:Nat} {l h:Int} (h1:(lo=none/\l=0)\/∃a k,lo=some a/\ρ a=.int k l) (h2:(hi=none/\h=len)\/∃a k,hi=some a/\ρ a=.int k h)
  (f:(mx=none/\m=cap)\/(hi.isSome/\∃a k,mx=some a/\ρ a=.int k m)) (e:0<=l) (g:l<=h) (d:h<=m) (p:m<=cap):
  (Instr.sliceBounds isS len cap (lo.map ρ) (hi.map ρ) (mx.map ρ)).run P w=.ok (l.toNat,h.toNat,m) w:=by
 have hb:∀{x:Value} {n:IntKind} {i:Int} {y:Nat} (c:BoundsCode),x=.int n i->0<=i->i<=y->(Instr.sliceBound x y c).run P w=.ok i.toNat w:=fun c j h1 h2=>Zs j c h1 h2;rcases f with⟨rfl,rfl⟩|⟨hs,a,k,rfl,ha⟩
 rcases h2 with⟨rfl,rfl⟩|⟨b,kb,rfl,hb2⟩
 rcases h1 with⟨rfl,rfl⟩|⟨c,kc,rfl,hc⟩
 simp[Instr.sliceBounds];simp[Instr.sliceBounds,hb _ hc e g];have o:h<=((h.toNat:Nat):Int):=by omega
 rcases h1 with⟨rfl,rfl⟩|⟨c,kc,rfl,hc⟩
 simp[Instr.sliceBounds,hb _ hb2 (by omega) d];simp[Instr.sliceBounds,hb _ hb2 (by omega) d,hb (y:=h.toNat) _ hc e (by omega)];rcases h2 with⟨rfl,rfl⟩|⟨b,kb,rfl,hb2⟩
 simp at hs;have e2:=hb (y:=cap) (if isS then BoundsCode.slice3Acap else .slice3Alen) ha (by omega) (by omega);simp only[Int.toNat_natCast]at e2;rcases h1 with⟨rfl,rfl⟩|⟨c,kc,rfl,hc⟩
 simp[Instr.sliceBounds,e2,hb (y:=m) _ hb2 (by omega) d];simp[Instr.sliceBounds,e2,hb (y:=m) _ hb2 (by omega) d,hb (y:=h.toNat) _ hc e (by omega)]
def wF1 {x:Operand} {i:TypeInfo} (ho:o.op=.slice t x lo hi mx) (hu:P.underlying t=some (.slice e)) (Y:P.info? e=some i) (h0:i.size≠0) (b4:mx.isSome->hi.isSome)
  (hx:TR g xs ((x::(lo.toList++hi.toList++mx.toList)).map ρ))
  (hd:doOp L lim n (.slc i.size lo.isSome hi.isSome mx.isSome) xs=some out) (F:HR P g L w) (H:WG g w):iL P g lim w L n out (execOp ρ o):=by
 simp only[doOp,fG3]at hd;obtain⟨v,hv,rfl⟩:=hd;cases xs with
 |nil=>have:=hx.1;simp at this
 |cons a bs=>
  have s:VR g a (ρ x):=TR.head (t:=bs) (v:=(lo.toList++hi.toList++mx.toList).map ρ) hx;have E:TR g bs ((lo.toList++hi.toList++mx.toList).map ρ):=TR.tail (x:=a) (y:=ρ x) hx;unfold sliceOp at hv;simp only at hv
  obtain⟨G,m,M,A⟩:∃(G:aA AV) (m:Int),(if mx.isSome then(bs.dropLast,bs.getLast?.bind intOf)else(bs,some 0))=(G,some m)/\
    TR g G ((lo.toList++hi.toList).map ρ)/\((mx=none/\m=0)\/∃a k,mx=some a/\ρ a=.int k m):=by
   cases mx with
   |none=>exact⟨bs,0,by simp,by simpa using E,.inl ⟨rfl,rfl⟩⟩
   |some c=>
    rw[jC3]at E;have hlen:=E.1;simp only[Option.toList_some,iA3,jG3,hH3,gR3,fV3]at hlen;rcases List.eq_nil_or_concat bs with rfl|⟨ini,lst,rfl⟩
    simp at hlen;rw[List.concat_eq_append]at *;have hl:((lo.toList++hi.toList).map ρ).length=ini.length:=by simp at hlen ⊢;omega
    have h1:=E.take ini.length;have h2:=E.drop ini.length;rw[List.take_left' rfl,List.take_left' hl]at h1;rw[List.drop_left' rfl,List.drop_left' hl]at h2;simp only[iJ3,gF3,List.dropLast_concat,List.getLast?_concat,fD3]at hv ⊢;cases hm:intOf lst with
    |none=>rw[hm]at hv;simp at hv
    |some m=>
     obtain⟨k,hk⟩:=jS hm h2.head;exact⟨ini,m,rfl,h1,.inr ⟨c,k,rfl,hk⟩⟩
  rw[M]at hv;obtain⟨d3,A⟩:=A;simp only at hv
  have key:∀{b:aB Addr} {len cap:Nat} {l h:Int} {q:Nat},ρ x=.slice b len cap->bounds lo.isSome hi.isSome len G=some (l,h)->0<=l->l<=h->h<=q->q<=cap->((mx=none/\q=cap)\/(mx.isSome/\(q:Int)=m))->
    (execOp ρ o).run P w=.ok (.value (.slice (if q=l.toNat then b else b.map (·.add (l.toNat*i.size))) (h.toNat-l.toNat) (q-l.toNat))) w:=by
   intro b len cap l h q u hb c1 c2 c3 c4 J;obtain⟨b1,b2⟩:=Ol ρ hb d3
   have hr:=Th (P:=P) (w:=w) ρ (isS:=true) (len:=len) (cap:=cap) (mx:=mx) (m:=q) b1 b2 (by
    rcases J with J|⟨hs,J⟩
    exact .inl J;rcases A with⟨e,_⟩|⟨a,k,e,hk⟩
    subst e;simp at hs;exact .inr ⟨b4 hs,a,k,e,by rw[hk,J]⟩) c1 c2 c3 c4
   simp[execOp,ho,Instr.sliceAt,Instr.slice,run_underlying hu,u,hr,gT Y]
  have d5:∀{len cap:Nat},m=0->(mx=none/\cap=cap)\/(mx.isSome/\((0:Nat):Int)=m):=by
   intro len cap e;rcases A with⟨f,_⟩|⟨a,k,f,_⟩
   exact .inl ⟨f,rfl⟩;exact .inr ⟨by simp[f],by omega⟩
  split at hv
  ·
   have u:=s.ground;split at hv;rename_i hb;split at hv;rename_i K;cases hv
   have:=key (b:=none) (len:=0) (cap:=0) (l:=0) (h:=0) (q:=0) u hb (iF3 _) (iF3 _) (by simp) (fI3 _) (by
    rcases A with⟨f,_⟩|⟨a,k,f,_⟩
    exact .inl ⟨f,rfl⟩;exact .inr ⟨by simp[f],by simp[K]⟩)
   exact bX (V:=.slice none 0 0) (by simpa using this) (.v rfl) F H;cases hv;cases hv
  ·
   generalize u:ρ x=V at s;cases s with
   |@es _ p=>
    split at hv;rename_i hb;split at hv;rename_i K;cases hv
    have:=key (b:=p) (len:=0) (cap:=0) (l:=0) (h:=0) (q:=0) u hb (iF3 _) (iF3 _) (by simp) (fI3 _) (by
     rcases A with⟨f,_⟩|⟨a,k,f,_⟩
     exact .inl ⟨f,rfl⟩;exact .inr ⟨by simp[f],by simp[K]⟩)
    exact bX (V:=.slice p 0 0) (by simpa using this) .es F H;cases hv;cases hv
  ·
   rename_i ez els;split at hv;rename_i l h hb;split at hv;rename_i hc;obtain⟨rfl,c1,c2,c3⟩:=hc;generalize u:ρ x=V at s;cases s with
   |@is0 _ _ cap p=>
    simp only[fV3]at c3 hb;have b0:l=0:=by omega
    have X:h=0:=by omega
    subst b0;subst X;split at hv;rename_i d;split at hv;rename_i C;obtain⟨_,rfl⟩:=C;cases hv;have:=key (b:=some p) (len:=0) (cap:=cap) (q:=0) u hb (iF3 _) (iF3 _) (by omega) (by omega) (.inr ⟨d,by omega⟩);exact bX (V:=.slice (some p) 0 0) (by simpa using this) .es F H;cases hv;rename_i d;cases hv;have D:mx=none:=by cases mx<;>simp_all
    have:=key (b:=some p) (len:=0) (cap:=cap) (q:=cap) u hb (iF3 _) (iF3 _) (by omega) (fI3 _) (.inl ⟨D,rfl⟩);refine bX this ?_ F H;simp;split<;>exact VR.is0
   |@is _ _ _ p cap hs hl hr hc' hv'=>
    split at hv;rename_i d;split at hv;rename_i C;obtain⟨rfl,rfl⟩:=C;cases hv;have:=key (b:=some p) (q:=m.toNat) u hb c1 (iF3 _) (by omega) (by omega) (.inr ⟨d,by omega⟩);exact bX (V:=.slice (some p) 0 0) (by simpa using this) .es F H;cases hv;rename_i d;cases hv;have D:mx=none:=by cases mx<;>simp_all
    have:=key (b:=some p) (q:=cap) u hb c1 c2 (by omega) (fI3 _) (.inl ⟨D,rfl⟩);have S:((els.drop l.toNat).take (h.toNat-l.toNat)).length=h.toNat-l.toNat:=by simp;omega
    have aK:∀(j:Nat) (row:aA AV),((els.drop l.toNat).take (h.toNat-l.toNat))[j]? =some row->els[l.toNat+j]? =some row:=by
     intro j row B;rw[gA3]at B;split at B;rw[gM3]at B;exact B;cases B
    by_cases R:cap=l.toNat
    rw[fJ3 R]at this;refine bX this ?_ F H;have O:h.toNat-l.toNat=0:=by omega
    rw[O,List.take_zero];exact .is hs (by simp) (fun i r h=>by simp at h) (fun i r j y h=>by simp at h) (fun i r j y z h=>by simp at h);rw[fM3 R]at this;refine bX (V:=.slice (some (p.add (l.toNat*i.size))) (h.toNat-l.toNat) (cap-l.toNat)) (by simpa using this) ?_ F H
    have hE:VR g (.is i.size ((els.drop l.toNat).take (h.toNat-l.toNat))) (.slice (some (p.add (l.toNat*i.size))) ((els.drop l.toNat).take (h.toNat-l.toNat)).length (cap-l.toNat)):=by
     refine .is (Dt hs _) (by rw[S];omega) (fun j r B=>hr _ r (aK j r B)) (fun j r q y B J=>?_) (fun j r q y z B J O=>?_);obtain⟨z,z1,z2⟩:=hc' _ r q y (aK j r B) J;refine⟨z,?_,z2⟩;rw[oS p hs,<-z1,hK3,gY3];rw[oS p hs]at O;exact hv' _ r q y z (aK j r B) J (by rw[hK3,gY3];exact O)
    rw[S]at hE;exact hE
   cases hv;cases hv
  ·
   rename_i zz id ver off len cap;split at hv;rename_i bx ty ez W els hL;split at hv;rename_i l h hb;split at hv;rename_i hc;obtain⟨rfl,rfl,c1,c2,c3,c4⟩:=hc;obtain⟨loc,cs,h1,h2,h3,h4,h5,h6,h7,h8,h9⟩:=F id _ hL;generalize u:ρ x=V at s;cases s with
   |@sl _ _ _ _ _ _ _ loc' p c hi2 hver hlc hsp hp=>
    have f:loc'=loc:=by rw[h1]at hi2;cases hi2;rfl
    subst f;obtain⟨O,b5,d6,T,U⟩:=hp h3
    have d0:roomOf cap els.length off<=c:=by
     cases cap with
     |none=>simp only[roomOf];have:=T rfl;omega
     |some c'=>simp only[roomOf];have:=U c' rfl;omega
    have mk:∀(q:Nat) (cap':aB Nat),h<=q->q<=c->(cap'=none->cap=none/\q=c)->(∀k,cap'=some k->k=q-l.toNat)->
      VR g (.sl zz id W (off+l.toNat) (h.toNat-l.toNat) cap') (.slice (if q=l.toNat then some p else(some p).map (·.add (l.toNat*i.size))) (h.toNat-l.toNat) (q-l.toNat)):=by
     intro q cap' d7 d8 b7 b8;have Z:(if q=l.toNat then some p else(some p).map (·.add (l.toNat*i.size)))=some (if q=l.toNat then p else p.add (l.toNat*i.size)):=by split<;>rfl
     rw[Z]
     have N:(if q=l.toNat then p else p.add (l.toNat*i.size)).spot=none:=by
      split;exact hsp;unfold Addr.add;split;exact hsp;rfl
     refine .sl hi2 hver (by omega) N (fun d4=>⟨O,?_,by omega,fun hn=>?_,fun k hk=>(b8 k hk).symm⟩);by_cases b9:q=l.toNat
     exact .inl (by omega);right;rw[fM3 b9];have b6:p=⟨loc'.b,off*loc'.esz,none⟩:=b5.resolve_left (by omega);rw[b6,kZ,h2,hK3];obtain⟨f,e2⟩:=b7 hn;have:=T f;omega
    split at hv;rename_i d;split at hv;rename_i C;obtain⟨d1,d2⟩:=C;cases hv;have:=key (b:=some p) (q:=m.toNat) u hb c1 c2 (by omega) (by omega) (.inr ⟨d,by omega⟩);exact bX this (mk m.toNat (some (m.toNat-l.toNat)) (by omega) (by omega) (fun h=>by cases h) (fun k hk=>by cases hk;rfl)) F H;cases hv;rename_i d;cases hv;have D:mx=none:=by cases mx<;>simp_all
    have:=key (b:=some p) (q:=c) u hb c1 c2 (by omega) (fI3 _) (.inl ⟨D,rfl⟩);refine bX this (mk c _ (by omega) (fI3 _) (fun hn=>?_) (fun k hk=>?_)) F H;cases cap with
    |none=>exact⟨rfl,rfl⟩
    |some c'=>simp at hn
    cases cap with
    |none=>simp at hk
    |some c'=>simp at hk;have:=U c' rfl;omega
   cases hv;cases hv;cases hv
  cases hv
end
end Go.Sim
namespace Go.Sim
section
variable {P:Program} {g:Gh} {lim:Nat} {w:World} {L:Nat->Option AO} {n:Nat}
variable (ρ:Operand->Value) (o:Oper) {k:iV} {os:List Operand} {xs:List AV} {out:Out}
def Ig {kt} {agg} {ks} (hk:kX P kt=some (agg,ks)) {a b} {A B} {r} (f:VR g a A) (hb:VR g b B) (h:keyEq agg ks a b=some r):
  (Op.equal kt A B).run P w=.ok r w:=by
 unfold kX at hk;unfold keyEq at h;split at hk;rename_i e;simp only[fG3,gD3]at hk;obtain⟨c,h1,rfl,rfl⟩:=hk;simp only[fR3,gT3]at h;have d:c=[.b]:=by simp[gF,e]at h1;exact h1.symm
 have:=oY (P:=P) (g:=g) 1 kt c h1 10000 (by omega) [a] [b] [A] [B] r w (.cons f (.nil g)) (.cons hb (.nil g)) (by rw[d];rfl) (by rw[d];rfl) h;simp only[Wg,eN,e]at this;exact this;rename_i j e;simp only[fG3,gD3]at hk;obtain⟨c,h1,rfl,rfl⟩:=hk;simp only[fR3,gT3]at h;have d:c=[.i]:=by simp[gF,e]at h1;exact h1.symm
 have:=oY (P:=P) (g:=g) 1 kt c h1 10000 (by omega) [a] [b] [A] [B] r w (.cons f (.nil g)) (.cons hb (.nil g)) (by rw[d];rfl) (by rw[d];rfl) h;simp only[Wg,eN,e]at this;exact this;rename_i e;simp only[fG3,gD3]at hk;obtain⟨c,h1,rfl,rfl⟩:=hk;simp only[fR3,gT3]at h;have d:c=[.s]:=by simp[gF,e]at h1;exact h1.symm
 have:=oY (P:=P) (g:=g) 1 kt c h1 10000 (by omega) [a] [b] [A] [B] r w (.cons f (.nil g)) (.cons hb (.nil g)) (by rw[d];rfl) (by rw[d];rfl) h;simp only[Wg,eN,e]at this;exact this;rename_i fs e;split at hk;simp only[fG3,gD3]at hk;obtain⟨c,h1,rfl,rfl⟩:=hk;simp only[gF3]at h;split at h;rename_i as bs;split at h;rename_i hc;obtain⟨c1,c2⟩:=hc;cases f with
 |@agg _ _ Cs hl hcell hv=>
  cases hb with
  |@agg _ _ Ds hl2 hcell2 hv2=>
   have:=oY (P:=P) (g:=g) 2 kt c h1 10000 (by omega) as bs Cs.toList Ds.toList r w ⟨by simpa using hl,fun i x y a b=>hv i x y a (by simpa using b)⟩
    ⟨by simpa using hl2,fun i x y a b=>hv2 i x y a (by simpa using b)⟩ c1 c2 h
   simp only[Wg,eN,e]at this;exact this
 cases h;cases h;cases hk;cases hk
def Dy {α} (f:α->PUnit->Sem (ForInStep PUnit)):∀(l:aA α) (w:World),(∀a∈l,∀w,(f a ⟨⟩).run P w=.ok (.yield ⟨⟩) w)->(forIn l PUnit.unit f).run P w=.ok ⟨⟩ w
 |[],w,h=>by simp
 |a::l,w,h=>by
  simp only[List.forIn_cons,Sem.run_bind,h a (by simp),Result.andThen_ok]
  exact Dy f l w (fun b hb=>h b (by simp[hb]))
def wZ {kt} {agg} {ks} (hk:kX P kt=some (agg,ks)) {a} {A} (F:VR g a A) (o:agg=true->∃as,a=.agg as/\as.length=ks.length) (e:Bool):
  (Instr.checkKey e 10000 kt A).run P w=.ok () w:=by
 have b:∀{d:TypeDesc} {m:Nat} {t:TypeId} {V:Value} {w:World},P.underlying t=some d->(d=.bool\/(∃k,d=.int k)\/d=.string)->(Instr.checkKey e (m+1) t V).run P w=.ok () w:=by
  intro d m t V w c hd;rw[Instr.checkKey];simp only[Sem.run_bind,run_underlying c,Result.andThen_ok];rcases hd with rfl|⟨k,rfl⟩|rfl<;>(cases V<;>rfl)
 unfold kX at hk;split at hk;rename_i c;exact b c (.inl rfl);rename_i L c;exact b c (.inr (.inl ⟨_,rfl⟩));rename_i c;exact b c (.inr (.inr rfl));rename_i fs c;split at hk;rename_i n;simp only[fG3,gD3]at hk;obtain⟨s,h1,rfl,rfl⟩:=hk;obtain⟨as,rfl,hlen⟩:=o rfl;cases F with
 |@agg _ _ Cs hl hcell hv=>
  rw[Instr.checkKey];simp only[Sem.run_bind,run_underlying c,Result.andThen_ok];rw[<-Array.forIn_toList]
  have v:∀(l:aA Field) (off:Nat) (ks:aA CK),pX (gF P 1) P l off=some ks->∀f∈l,f.offset<off+ks.length:=by
   intro l
   induction l with
   |nil=>intro off ks h f hf;simp at hf
   |cons x l ih=>
    intro off ks h f hf;simp only[pX]at h;split at h;rename_i hc;split at h;rename_i J i G hi;split at h;rename_i H;split at h;rename_i K y;cases h;rcases fT3.1 hf with rfl|hf;rw[hc.1,hH3];omega;have:=ih _ _ y f hf;rw[hH3];omega;cases h;cases h;cases h;cases h
  have z:pX (gF P 1) P fs.toList 0=some s:=by
   rw[gF]at h1;simp only[c]at h1;split at h1;cases h1;exact h1
  have q:=v fs.toList 0 s z
  refine(congrArg (fun r=>Result.andThen r _) (Dy (P:=P) _ fs.toList w (fun f hf w=>by
   have h2:=fH3.1 n f hf;have B:f.offset<Cs.size:=by have:=q f hf;omega
   have D:∃d,P.underlying f.type=some d/\(d=.bool\/(∃k,d=.int k)\/d=.string):=by
    revert h2;split;rename_i j;intro _;exact⟨_,j,.inl rfl⟩;rename_i j;intro _;exact⟨_,j,.inr (.inl ⟨_,rfl⟩)⟩;rename_i j;intro _;exact⟨_,j,.inr (.inr rfl)⟩;intro h;cases h
   obtain⟨d,j,E⟩:=D;have C:eN P f.type=false:=by unfold eN;rw[j];rcases E with rfl|⟨k,rfl⟩|rfl<;>rfl
   have hp:(part f.type Cs f.offset).run P w=.ok Cs[f.offset] w:=dW1 (by rw[j];simp) C (by simp[B]);by_cases p:f.name= "_";simp[p];have u:=b (m:=9998) (V:=Cs[f.offset]) (w:=w) j E;simp[p,hp,u]))).trans ?_
  rfl
 cases hk;cases hk
def Ih {agg} {ks} {a} (h:keyOK agg ks a=true):agg=true->∃as,a=.agg as/\as.length=ks.length:=by
 rintro rfl;cases a<;>simp_all[keyOK]
def Zt {a b:ByteArray} (h:(a==b)=true):a=b:=by
 rw[beq_toListBytes,ByteArray.toList_eq,ByteArray.toList_eq]at h;exact ByteArray.ext (Array.toList_inj.mp (by simpa using h))
def Om (a:ByteArray):(a==a)=true:=by rw[beq_toListBytes];simp
def On {c:CK} {x y:AV} {X Y:Value} (a:VR g x X) (hy:VR g y Y) (h:cellEq c x y=some true):X=Y/\∀n,Instr.sameBits n X Y=true:=by
 unfold cellEq at h;split at h;split at h;rename_i e;cases h1:a with
 |v _=>cases h2:hy with
  |v _=>
   simp only[fN3,hX3]at h;subst e;subst h;exact⟨rfl,fun n=>by cases n<;>simp[Instr.sameBits]⟩
 cases h;cases h1:a with
 |v _=>cases h2:hy with
  |v _=>
   simp only[fN3,hX3]at h;subst h;exact⟨rfl,fun n=>by cases n<;>simp[Instr.sameBits]⟩
 cases h1:a with
 |v _=>cases h2:hy with
  |v _=>
   simp only[fN3]at h;have h:_=_:=Zt h;subst h;exact⟨rfl,fun n=>by cases n<;>simp[Instr.sameBits,Om]⟩
 cases h
def rM:∀ks xs ys Xs Ys,TR g xs Xs->TR g ys Ys->cellsEq ks xs ys=some true->Xs=Ys/\∀n,(Xs.zip Ys).all (fun(x,y)=>Instr.sameBits n x y)=true
 |[],[],[],Xs,Ys,hx,hy,h=>by
  have h1:=hx.1;have h2:=hy.1
  cases Xs with
  |nil=>cases Ys with
   |nil=>exact⟨rfl,fun _=>rfl⟩
   |cons _ _=>simp at h2
  |cons _ _=>simp at h1
 |k::ks,x::xs,y::ys,Xs,Ys,hx,hy,h=>by
  have h1:=hx.1;have h2:=hy.1
  cases Xs with
  |nil=>simp at h1
  |cons X Xs=>cases Ys with
   |nil=>simp at h2
   |cons Y Ys=>
    simp only[cellsEq]at h
    split at h
    rename_i hc
    obtain⟨a,e2⟩:=On hx.head hy.head hc
    obtain⟨b,c⟩:=rM ks xs ys Xs Ys hx.tail hy.tail h
    subst a;subst b
    exact⟨rfl,fun n=>by simp only[List.zip_cons_cons,hA3,e2 n,c n,iE3]⟩
    cases h
    cases h
 |[],_::_,_,_,_,_,_,h=>by simp[cellsEq]at h
 |[],[],_::_,_,_,_,_,h=>by simp[cellsEq]at h
 |_::_,[],_,_,_,_,_,h=>by simp[cellsEq]at h
 |_::_,_::_,[],_,_,_,_,h=>by simp[cellsEq]at h
def Ti {agg} {ks} {a b} {A B} (e:VR g a A) (hb:VR g b B) (h:keyEq agg ks a b=some true):A=B/\∀n,Instr.sameBits (n+1) A B=true:=by
 unfold keyEq at h;split at h;split at h;split at h;cases e with
 |@agg _ _ Cs hl hcell hv=>
  cases hb with
  |@agg _ _ Ds hl2 hcell2 hv2=>
   obtain⟨c,e2⟩:=rM ks _ _ Cs.toList Ds.toList ⟨by simpa using hl,fun i x y a b=>hv i x y a (by simpa using b)⟩
     ⟨by simpa using hl2,fun i x y a b=>hv2 i x y a (by simpa using b)⟩ h
   have d:Cs=Ds:=by cases Cs;cases Ds;simpa using c
   refine⟨by rw[d],fun n=>?_⟩;simp only[Instr.sameBits,e2 n,d,beq_self_eq_true,jL3];rw[d]at e2;exact e2 n
 cases h;cases h;obtain⟨c,e2⟩:=rM ks _ _ [A] [B] (.cons e (.nil g)) (.cons hb (.nil g)) h;simp only[List.cons.injEq,and_true]at c;refine⟨c,fun n=>?_⟩;have:=e2 (n+1);simpa using this
def Ii (agg:Bool) (ks:aA CK) (k:AV) (es:aA (AV×AV)) (ents:aA MapEntry) (i:Nat):aB (Nat×AV)->aB (Nat×Value)->Prop
 |none,none=>True
 |some (j,x),some (j',y)=>j=j'/\i<=j/\∃(k':AV) (e:MapEntry),es[j-i]? =some (k',x)/\ents[j-i]? =some e/\y=e.val/\keyEq agg ks k k'=some true
 |_,_=>False
def Ii.cons {agg} {ks} {k} {es} {ents} {i} {r} {r'} {a} {e} (h:Ii agg ks k es ents (i+1) r r'):
  Ii agg ks k (a::es) (e::ents) i r r':=by
 match r,r',h with
 |none,none,h=>trivial
 |some (j,x),some (j',y),⟨h1,h2,k',e',h3,h4,h5,h6⟩=>
  have:j-i=(j-(i+1))+1:=by omega
  exact⟨h1,by omega,k',e',by rw[this];simpa using h3,by rw[this];simpa using h4,h5,h6⟩
def Bi {kt} {agg} {ks} (hk:kX P kt=some (agg,ks)) {k} {K} (hK:VR g k K):∀(es:aA (AV×AV)) (ents:aA MapEntry) (i:Nat) (r:aB (Nat×AV)),
  ents.length=es.length->(∀(i:Nat) (k x:AV) (e:MapEntry),es[i]? =some (k,x)->ents[i]? =some e->VR g k e.key)->findKey agg ks k es i=some r->
  ∃r',(Instr.findAsking kt K ents i).run P w=.ok r' w/\Ii agg ks k es ents i r r'
 |[],[],i,r,_,_,h=>by
  simp only[findKey,fN3]at h
  subst h
  exact⟨none,by simp[Instr.findAsking],trivial⟩
 |[],_::_,_,_,hl,_,_=>by simp at hl
 |_::_,[],_,_,hl,_,_=>by simp at hl
 |(k',x)::es,e::ents,i,r,hl,hv,h=>by
  have c:=hv 0 k' x e rfl rfl
  simp only[findKey]at h
  split at h
  rename_i d
  cases h
  refine⟨some (i,e.val),?_,rfl,fI3 _,k',e,by simp,by simp,rfl,d⟩
  simp[Instr.findAsking,Ig hk hK c d]
  rename_i d
  obtain⟨r',h1,h2⟩:=Bi hk hK es ents (i+1) r (by simpa using hl) (fun j k x e a b=>hv (j+1) k x e (by simpa using a) (by simpa using b)) h
  exact⟨r',by simp[Instr.findAsking,Ig hk hK c d,h1],h2.cons⟩
  cases h
def xA {d} {c} (hd:(d=.bool/\c=.b)\/(∃q,d=.int q/\c=.i)\/(d=.string/\c=.s)) {k} {K} (hK:VR g k K):∀(es:aA (AV×AV)) (ents:aA MapEntry) (i:Nat) (r:aB (Nat×AV)),
  ents.length=es.length->(∀(i:Nat) (k x:AV) (e:MapEntry),es[i]? =some (k,x)->ents[i]? =some e->VR g k e.key)->findKey false [c] k es i=some r->
  ∃r',Instr.findNow d K ents i=some r'/\Ii false [c] k es ents i r r'
 |[],[],i,r,_,_,h=>by
  simp only[findKey,fN3]at h
  subst h
  exact⟨none,by simp[Instr.findNow],trivial⟩
 |[],_::_,_,_,hl,_,_=>by simp at hl
 |_::_,[],_,_,hl,_,_=>by simp at hl
 |(k',x)::es,e::ents,i,r,hl,hv,h=>by
  have f:=hv 0 k' x e rfl rfl
  have hs:∀b,keyEq false [c] k k'=some b->Instr.sameNow d K e.key=some b:=by
   intro b hb;simp only[keyEq,fR3,gT3,cellsEq]at hb;have l:cellEq c k k'=some b:=by grind
   clear hl hv h hb;have hb:=l;clear l;unfold cellEq at hb;split at hb;split at hb;rename_i n;subst n;have:=hK.ground;have h0:=f.ground;rcases hd with⟨_,h⟩|⟨q,rfl,_⟩|⟨_,h⟩
   cases h;rw[this,h0];simpa[Instr.sameNow]using hb;cases h;cases hb;have:=hK.ground;have h0:=f.ground;rcases hd with⟨rfl,_⟩|⟨q,_,h⟩|⟨_,h⟩
   rw[this,h0];simpa[Instr.sameNow]using hb;cases h;cases h;have:=hK.ground;have h0:=f.ground;rcases hd with⟨_,h⟩|⟨q,_,h⟩|⟨rfl,_⟩
   cases h;cases h;rw[this,h0];simpa[Instr.sameNow]using hb;cases hb
  simp only[findKey]at h;split at h;rename_i m;cases h;exact⟨some (i,e.val),by simp[Instr.findNow,hs _ m],rfl,fI3 _,k',e,by simp,by simp,rfl,m⟩;rename_i m;obtain⟨r',h1,h2⟩:=xA hd hK es ents (i+1) r (by simpa using hl) (fun j k x e a b=>hv (j+1) k x e (by simpa using a) (by simpa using b)) h;exact⟨r',by simp[Instr.findNow,hs _ m,h1],h2.cons⟩;cases h
def Dz {kt} {agg} {ks} (hk:kX P kt=some (agg,ks)) {k} {K} (hK:VR g k K) {es} {ents} {r}
  (hl:ents.length=es.length) (hv:∀(i:Nat) (k x:AV) (e:MapEntry),es[i]? =some (k,x)->ents[i]? =some e->VR g k e.key) (h:findKey agg ks k es 0=some r):
  ∃r',(Instr.findKey kt K ents).run P w=.ok r' w/\Ii agg ks k es ents 0 r r':=by
 have l:=hk;unfold kX at hk;split at hk;rename_i f;simp only[fG3,gD3]at hk;obtain⟨c,h1,rfl,rfl⟩:=hk;have a:c=[.b]:=by simp[gF,f]at h1;exact h1.symm
 subst a;obtain⟨r',h2,j⟩:=xA (d:=.bool) (.inl ⟨rfl,rfl⟩) hK es ents 0 r hl hv h;exact⟨r',by simp[Instr.findKey,run_underlying f,h2],j⟩;rename_i q f;simp only[fG3,gD3]at hk;obtain⟨c,h1,rfl,rfl⟩:=hk;have a:c=[.i]:=by simp[gF,f]at h1;exact h1.symm
 subst a;obtain⟨r',h2,j⟩:=xA (d:=.int q) (.inr (.inl ⟨_,rfl,rfl⟩)) hK es ents 0 r hl hv h;exact⟨r',by simp[Instr.findKey,run_underlying f,h2],j⟩;rename_i f;simp only[fG3,gD3]at hk;obtain⟨c,h1,rfl,rfl⟩:=hk;have a:c=[.s]:=by simp[gF,f]at h1;exact h1.symm
 subst a;obtain⟨r',h2,j⟩:=xA (d:=.string) (.inr (.inr ⟨rfl,rfl⟩)) hK es ents 0 r hl hv h;exact⟨r',by simp[Instr.findKey,run_underlying f,h2],j⟩;rename_i fs f;obtain⟨r',h2,j⟩:=Bi (w:=w) l hK es ents 0 r hl hv h;exact⟨r',(run_findKey_eq (P:=P) (w:=w) (k:=kt) (by simp[f]) K ents).trans h2,j⟩;cases hk
def Oo {t} {z} (h:Ki P t=some z):∃i b,P.info? t=some i/\i.zero=some b/\∀g,VR g z b:=by
 unfold Ki at h;cases hi:P.info? t with
 |none=>simp[hi]at h
 |some i=>
  simp only[hi]at h;cases hz:i.zero with
  |none=>simp[hz]at h
  |some b=>
   simp only[hz]at h;refine⟨i,b,rfl,hz,fun g=>?_⟩;unfold AV.ofValue at h;split at h;rename_i cs;split at h;rename_i hc;cases h
   refine .agg (by simp) (fun i y hy=>nL (fH3.1 hc y (by
    rw[<-hJ3]at hy;exact fQ3.2 ⟨i,hy⟩))) (fun i x y a hy=>?_)
   rw[<-hJ3]at hy;simp only[gG3,hy,gB3,fN3]at a;subst a;exact .v (fH3.1 hc y (fQ3.2 ⟨i,hy⟩));cases h;rename_i cs;split at h;rename_i hc;cases h;have:cs=#[]:=by grind
   subst this;exact .tup (by simp) (fun i x y a=>by simp at a);cases h;split at h;rename_i hc;cases h;exact .v hc;cases h
def Ea {r} {es} {clock} (hb:w.heap[r]? =some (.map es clock)):(getObj r).run P w=.ok (.map es clock) w:=by
 simp[getObj,Sem.run,hb]
def Oq {r} {es} {clock} (o:Obj) (hb:w.heap[r]? =some (.map es clock)):(setObj r o).run P w=.ok () {w with heap:=w.heap.setIfInBounds r o}:=by
 simp[setObj,Sem.run,hb]
def Tj {r} {o o'} (hb:w.heap[r]? =some o):(w.heap.setIfInBounds r o')[r]? =some o'/\∀r',r'≠r->(w.heap.setIfInBounds r o')[r']? =w.heap[r']? :=by grind
def bZ2 (g:Gh) (es:aA (AV×AV)) (ents:aA MapEntry):Prop:=
 ents.length=es.length/\∀(i:Nat) (k x:AV) (e:MapEntry),es[i]? =some (k,x)->ents[i]? =some e->VR g k e.key/\VR g x e.val
def VR.unstill {a} {A} (h:VR g.still a A):VR g a A:=h.mono ⟨fun _ _ h=>h,fun _ _ h=>by simp[Gh.still]at h⟩
def Tk {m} {M} {es} (h:entsOf L m=some es) (c:VR g m M) (l:HR P g L w) (o:WG g w):
  ∃ents:aA MapEntry,bZ2 g es ents/\((M=.map none/\ents=[])\/∃r E clock,M=.map (some r)/\w.heap[r]? =some (.map E clock)/\E.toList=ents):=by
 unfold entsOf at h;split at h;cases h;exact⟨[],⟨rfl,fun i k x e h=>by simp at h⟩,.inl ⟨c.ground,rfl⟩⟩;rename_i id;split at h;rename_i es' n;cases h;obtain⟨loc,E,clock,h1,h2,d,f,j⟩:=l id _ n;cases c with
 |@map _ _ b loc' hi hp=>
  rw[h1]at hi;cases hi;have:=hp h2;subst this;exact⟨E.toList,⟨by simpa using f,fun i k x e a b=>j i k x e a (by simpa using b)⟩,.inr ⟨_,E,clock,rfl,d,rfl⟩⟩
 cases h;cases h;cases c with
 |@im _ _ b clock E hb hl hk hv=>
  exact⟨E.toList,⟨by simpa using hl,fun i k x e a b=>⟨(hk i k x e a (by simpa using b)).unstill,(hv i k x e a (by simpa using b)).unstill⟩⟩,.inr ⟨_,E,clock,rfl,o.still _ _ hb,rfl⟩⟩
 cases h
def Zu {t kt e} {x i} {ok agg} {ks} {z} (O:o.op=.lookup t x i ok) (J:P.underlying t=some (.map kt e)) (R:Ki P e=some z) (hk:kX P kt=some (agg,ks))
  (c:TR g xs [ρ x,ρ i]) (hd:doOp L lim n (.lookup agg ks z ok) xs=some out) (G:HR P g L w) (H:WG g w):iL P g lim w L n out (execOp ρ o):=by
 obtain⟨S,T,hi,F,D⟩:=Oo R
 match xs,c with
 |[],c=>have:=c.1;simp at this
 |[_],c=>have:=c.1;simp at this
 |[m,k],c=>
  have N:=c.head;have h:=c.tail.head;simp only[doOp]at hd;split at hd;rename_i C;have d:=fun b=>wZ (w:=w) hk h (Ih C) b
  have p:∀r,(∃es,entsOf L m=some es/\findKey agg ks k es 0=some r)->∃A,(Instr.lookup t (ρ x) (ρ i) ok).run P w=.ok (if ok then .tuple #[A,.bool r.isSome]else A) w/\
    VR g (match r with|some (_,a)=>a|none=>z) A:=by
   rintro r ⟨es,he,hf⟩;obtain⟨ents,u,K⟩:=Tk he N G H;obtain⟨r',h1,h2⟩:=Dz (w:=w) hk h u.1 (fun i k x e a b=>(u.2 i k x e a b).1) hf
   have B:(Instr.lookup t (ρ x) (ρ i) ok).run P w=((Instr.findKey kt (ρ i) ents).run P w).andThen fun a w=>(do
     let(v,b)<-match a with
      |some (_,v)=>pure (v,true)
      |none=>pure (<-zeroValue e,false)
     pure (if ok then .tuple #[v,.bool b]else v):Sem Value).run P w:=by
    rcases K with⟨q,s⟩|⟨r0,E,clock,q,s,h5⟩
    subst s;simp only[Instr.lookup,Sem.run_bind,run_underlying J,Result.andThen_ok,q,Sem.run_pure,d];rfl;subst h5;simp only[Instr.lookup,Sem.run_bind,run_underlying J,Result.andThen_ok,q,Ea s,Sem.run_pure,d];rfl
   rw[B,h1]
   match r,r',h2 with
   |none,none,_=>exact⟨T,by simp[nK hi F],D g⟩
   |some (j,a),some (j',y),⟨e1,e2,k',en,e3,e4,e5,e6⟩=>
    refine⟨y,by simp,?_⟩;rw[e5];exact(u.2 _ _ _ _ e3 e4).2
  have done:∀(r:aB (Nat×AV)) (a:AV),out={v:=if ok then .tup [a,.v (.bool r.isSome)]else a}->(a=match r with|some (_,a)=>a|none=>z)->(∃es,entsOf L m=some es/\findKey agg ks k es 0=some r)->iL P g lim w L n out (execOp ρ o):=by
   intro r a l M hr;obtain⟨A,h1,h2⟩:=p r hr;rw[<-M]at h2;subst l;refine bX (V:=if ok then .tuple #[A,.bool r.isSome]else A) ?_ ?_ G H;simp[execOp,O,h1];cases ok;simpa using h2;refine .tup (by simp) (fun i x y c hy=>?_)
   match i,c,hy with
   |0,c,hy=>
    simp at c hy;subst c;subst hy;exact h2
   |1,c,hy=>
    simp at c hy;subst c;subst hy;exact .v rfl
   |i+2,c,hy=>simp at c
  split at hd;rename_i es f;split at hd;rename_i j a hr;cases hd;exact done (some (j,a)) a rfl rfl ⟨es,f,hr⟩;rename_i hr;cases hd;exact done none z rfl rfl ⟨es,f,hr⟩;cases hd;cases hd;cases hd
 |_::_::_::_,c=>have:=c.1;simp at this
def eG1 {t kt e} {m i x} {agg} {ks} (K:o.op=.mapUpdate t m i x) (M:P.underlying t=some (.map kt e)) (hk:kX P kt=some (agg,ks))
  (d:TR g xs [ρ m,ρ i,ρ x]) (hd:doOp L lim n (.mapup agg ks) xs=some out) (H:HR P g L w) (O:WG g w):iL P g lim w L n out (execOp ρ o):=by
 match xs,d with
 |[],d=>have:=d.1;simp at this
 |[_],d=>have:=d.1;simp at this
 |[_,_],d=>have:=d.1;simp at this
 |[m',k,v],d=>
  have B:=d.head;have f:=d.tail.head;have S:=d.tail.tail.head;simp only[doOp]at hd;split at hd;rename_i id;split at hd;rename_i es N;split at hd;rename_i hc;obtain⟨hl,F⟩:=hc;have r:=wZ (w:=w) hk f (Ih F) false;obtain⟨loc,E,clock,h1,h2,l,A,C⟩:=H id _ N
  have J:ρ m=.map (some loc.b):=by
   revert B;intro B;generalize hq:ρ m=q at B;cases B with
   |@map _ _ b loc' hi hp=>
    rw[h1]at hi;cases hi;rw[hp h2]
  have dB:=fun o'=>Tj (o':=o') l
  have fin:∀(es':aA (AV×AV)) (E':Array MapEntry) (c:Nat),out={v:=.undef,up:=some (id,.map es')}->
    (execOp ρ o).run P w=.ok .skip {w with heap:=w.heap.setIfInBounds loc.b (.map E' c)}->E'.size=es'.length->
    (∀(i:Nat) (k x:AV) (e:MapEntry),es'[i]? =some (k,x)->E'[i]? =some e->VR g k e.key/\VR g x e.val)->iL P g lim w L n out (execOp ρ o):=by
   intro es' E' c u z G p;subst u
   refine wU (hnl:=fun R U=>by simp_all) (V:=undef) (nx:=.skip) (o:=.map E' c) (loc:=loc) (ver:=loc.ver) z (.inr ⟨rfl,rfl⟩) h1 hl (fI3 _) (dB _).1 (dB _).2 (by simp) rfl rfl rfl
    (fun g' _ _=>.undef g') (fun g' s D=>⟨loc,E',c,D,h2,(dB _).1,G,fun i k x e a b=>⟨(p i k x e a b).1.mono s,(p i k x e a b).2.mono s⟩⟩) H O
  split at hd;rename_i j a hf;cases hd;obtain⟨r',h,e2⟩:=Dz (w:=w) hk f (ents:=E.toList) (by simpa using A) (fun i k x e a b=>(C i k x e a (by simpa using b)).1) hf
  match r',h,e2 with
  |some (j',y),h,⟨q1,_,k',en,q2,q3,q4,q5⟩=>
   subst q1;simp only[Nat.sub_zero,hJ3]at q2 q3;obtain⟨s1,W⟩:=Ti f (C _ _ _ _ q2 q3).1 q5;have T:Instr.sameBits 10000 en.key (ρ i)=true:=by grind
   refine fin (es.set j (k,v)) (E.modify j fun e=>{e with key:=ρ i,val:=ρ x}) clock rfl ?_ (by simp[A]) ?_;simp[execOp,K,Instr.mapUpdate,run_underlying M,J,Ea l,r,h,q3,Instr.keyThatStays,T,Oq _ l]
   grind
  rename_i hf;cases hd;obtain⟨r',h,e2⟩:=Dz (w:=w) hk f (ents:=E.toList) (by simpa using A) (fun i k x e a b=>(C i k x e a (by simpa using b)).1) hf
  match r',h,e2 with
  |none,h,_=>
   refine fin (es++[(k,v)]) (E.push {key:=ρ i,val:=ρ x,born:=clock}) (clock+1) rfl ?_ (by simp[A]) ?_;simp[execOp,K,Instr.mapUpdate,run_underlying M,J,Ea l,r,h,Oq _ l]
   grind
  cases hd;cases hd;cases hd;cases hd
 |_::_::_::_::_,d=>have:=d.1;simp at this
end
end Go.Sim
namespace Go.Sim
variable {k:iV} {l:aA AV} {t ty:TypeId} {α:Type}
section
variable {P:Program} {g:Gh} {lim:Nat} {w:World} {L:Nat->Option AO} {n:Nat}
variable (ρ:Operand->Value) (o:Oper) {os:List Operand} {xs:List AV} {out:Out}
def Tl {f:FuncId}:doOp L lim n (.callF f) xs=none:=by simp[doOp]
def Tm:doOp L lim n .callV xs=none:=by simp[doOp]
def zO:doOp L lim n .fail xs=none:=by simp[doOp]
def wG1 {ρ:Operand->Value} {os:aA Operand} (h:TR g xs (os.map ρ)):xs.length=os.length:=by simpa using h.1
def Ij {a:Array α} {x y:α} (h:a.toList=[x,y]):a=#[x,y]:=by cases a;simp_all
def zP {a:Array α} {x:α} (h:a.toList=[x]):a=#[x]:=by cases a;simp_all
def Tn:iV->Bool
 |.len _|.cap|.clear .. =>true
 |_=>false
def Tp:iV->Bool
 |.append .. |.copy _=>true
 |_=>false
def wH1 (h:(doOp L lim n k l).isSome=true) (hk:Tn k=true):∃a,l=[a]:=by
 cases k<;>simp only[Tn]at hk<;>(try cases hk)<;>(match l with
  |[a]=>exact⟨a,rfl⟩
  |[]=>simp[doOp]at h
  |_::_::_=>simp[doOp]at h)
def wI1 (h:(doOp L lim n k l).isSome=true) (hk:Tp k=true):∃a b,l=[a,b]:=by
 cases k<;>simp only[Tp]at hk<;>(try cases hk)<;>(match l with
  |[a,b]=>exact⟨a,b,rfl⟩
  |[]=>simp[doOp]at h
  |[_]=>simp[doOp]at h
  |_::_::_::_=>simp[doOp]at h)
def Ot {l:aA α} (h:l.length=1):∃a,l=[a]:=by
 match l,h with
 |[a],_=>exact⟨a,rfl⟩
def eH1 {l:aA α} (h:l.length=2):∃a b,l=[a,b]:=by
 match l,h with
 |[a,b],_=>exact⟨a,b,rfl⟩
def Hq {b:Builtin} {args:Array Operand} {B:Array TypeId} (E:o.op=.call {callee:=.builtin b,args:=args,argTypes:=B}) (hk:kY P b B.toList ty=some k) (f:TR g xs (args.toList.map ρ))
  (hd:doOp L lim n k xs=some out) (u:HR P g L w) (A:WG g w) (hn:g.ι n=none) (hl:lim<=n):iL P g lim w L n out (execOp ρ o):=by
 have hlen:=wG1 f;have H:(doOp L lim n k xs).isSome=true:=by rw[hd];rfl
 have one:Tn k=true->∃x,args=#[x]:=fun h=>by
  obtain⟨a,rfl⟩:=wH1 H h;obtain⟨x,f⟩:=Ot (l:=args.toList) (by simpa using hlen.symm);exact⟨x,zP f⟩
 have U:Tp k=true->∃x y,args=#[x,y]:=fun h=>by
  obtain⟨a,b,rfl⟩:=wI1 H h;obtain⟨x,y,f⟩:=eH1 (l:=args.toList) (by simpa using hlen.symm);exact⟨x,y,Ij f⟩
 generalize d:B.toList=atl at hk;unfold kY at hk;split at hk
 ·
  rename_i t;have d:=zP d;split at hk<;>(try cases hk);rename_i e r;obtain⟨x,rfl⟩:=one rfl;exact Tf ρ o (by rw[E,d]) r (.inl ⟨rfl,_,rfl⟩) f hd u A;rename_i r;obtain⟨x,rfl⟩:=one rfl;exact Tf ρ o (by rw[E,d]) r (.inr (.inl ⟨rfl,rfl⟩)) f hd u A;rename_i r;obtain⟨x,rfl⟩:=one rfl;exact Tf ρ o (by rw[E,d]) r (.inr (.inr ⟨rfl,_,_,rfl⟩)) f hd u A
 ·
  rename_i s x;have d:=Ij d;split at hk;rename_i e r;split at hk;rename_i i z hi S;obtain⟨i',V,J,T,F,hg,D,X⟩:=nQ S;rw[hi]at J;cases J;split at hk;rename_i hb
  have C:∀zeros,k=.append e i.size i.bytes z zeros->(zeros=true->P.underlying x=some (.int .i64))->(zeros=false->(∃e',P.underlying x=some (.slice e'))\/P.underlying x=some .string)->
    iL P g lim w L n out (execOp ρ o):=by
   intro zeros O h1 h2;subst O;obtain⟨xo,Z,rfl⟩:=U rfl
   match xs,f with
   |[a,b],f=>
    simp only[doOp]at hd;split at hd;rename_i new c;split at hd;rename_i o' G
    have j:o'=out/\∀z id ver off len cap,out.v=.sl z id ver off len cap->len<=maxRoom:=by
     split at hd;rename_i z' id ver off len cap hv;split at hd;rename_i hc;cases hd;exact⟨rfl,fun z id ver off len cap h=>by rw[hv]at h;cases h;exact hc.1⟩;cases hd;rename_i hv;cases hd;exact⟨rfl,fun z id ver off len cap h=>absurd h (hv _ _ _ _ _ _)⟩
    obtain⟨rfl,j⟩:=j;have M:V.cells.size=i.size:=by rw[<-D,<-F];simp
    have K:∃news,zK P w x i V (ρ Z) zeros new.length news/\lW g i.size new news:=by
     cases zeros with
     |true=>
      simp only[appRows,gF3]at c;split at c;rename_i m N;split at c;rename_i hc;cases c;have hy:=f.tail.head
      obtain⟨q,rfl⟩:∃q,b=.v (.int q m):=by
       unfold intOf at N;split at N;cases N;exact⟨_,rfl⟩;cases N
      have W:=hy.ground;have:=Km (P:=P) (w:=w) (g:=g) (i:=i) (h1 rfl) (by rw[F];exact hg) M (k:=q) (m:=m.toNat) (by have:=hc.2;simp only[maxRoom]at this ⊢;omega);rw[F]at this;have R:(m.toNat:Int)=m:=Int.toNat_of_nonneg hc.1;rw[R]at this;rw[W];simpa using this;cases c;cases c
     |false=>
      simp only[appRows,fR3,gT3]at c;exact Oe (h2 rfl) u A (by omega) f.tail.head c
    obtain⟨news,s1,Y⟩:=K;exact Zp (ty':=ty) ρ o (by rw[E,d]) r hi T M (by omega) hb f.head s1 Y G j u A hn hl;cases hd;cases hd
   |[],f=>have:=f.1;simp at this
   |[_],f=>have:=f.1;simp at this
   |_::_::_::_,f=>have:=f.1;simp at this
  split at hk;rename_i p;cases hk;exact C true rfl (fun _=>p) (fun h=>by cases h);rename_i e' p;cases hk;exact C false rfl (fun h=>by cases h) (fun _=>.inl ⟨_,p⟩);rename_i p;cases hk;exact C false rfl (fun h=>by cases h) (fun _=>.inr p);cases hk;cases hk;cases hk;cases hk
 ·
  rename_i t;have d:=zP d;split at hk;rename_i e r;split at hk;rename_i z S;cases hk;obtain⟨x,rfl⟩:=one rfl;exact eF1 ρ o (by rw[E,d]) r S f hd u A;cases hk;cases hk
 cases hk;exact bX2 ρ o E f hd u A;cases hk;exact bY2 ρ o E f hd u A;cases hk
def Ik {d:TypeDesc} (a:P.underlying t=some d) (hd:(match d with|.struct _|.array _ _=>true|_=>false)=true):eN P t=true:=by
 unfold eN;rw[a];cases d<;>simp_all
def vQ (a:kR P o.op o.type=some (k,os)) (l:TR g xs (os.map ρ)) (hd:doOp L lim n k xs=some out) (h:HR P g L w) (j:WG g w) (hn:g.ι n=none) (hl:lim<=n):
  iL P g lim w L n out (execOp ρ o):=by
 generalize hop:o.op=op at a;unfold kR at a;split at a;cases a;exact dN1 ρ o (.inl hop) l hd h j;cases a;exact dN1 ρ o (.inr hop) l hd h j;cases a;exact lQ1 ρ o hop l hd h j;cases a;exact lP1 ρ o hop l hd h j;split at a;rename_i i hi;cases a;exact vZ1 ρ o hop hi l hd h j hn hl;cases a;simp only[fG3,gD3]at a;obtain⟨z,u,rfl,rfl⟩:=a;exact dO1 ρ o hop u l hd h j hn hl
 ·
  rename_i t parts;split at a;rename_i i hi;split at a;rename_i z u;split at a;rename_i hc;simp only[fF3]at hc;obtain⟨hg,s⟩:=hc;split at a;rename_i ps x;cases a;unfold dK1 at s;refine eE1 ρ o hop hi u hg ?_ x l hd ?_ ?_ ?_ h j;intro fs f;rw[f]at s;exact s;intro m e f;rw[f]at s;exact s;intro f;rw[f]at s;cases s;unfold eN;split at s;rfl;rfl;cases s;cases a;cases a;cases a;cases a
 ·
  split at a;rename_i e f;split at a;rename_i z u;split at a;rename_i hc;cases a;exact Td ρ o hop f u hc l hd h j hn hl;cases a;cases a;cases a
 ·
  split at a;rename_i d i f hi;simp only[fN3,gD3]at a;obtain⟨rfl,rfl⟩:=a;split at hd;rename_i r;exact dU1 ρ o hop (by rw[f];simp) r hi l hd h j;rename_i r;exact dT1 ρ o hop (by rw[f];simp) (by simpa using r) l hd h j;cases a
 split at a;rename_i i hi;cases a;exact dV1 ρ o hop hi l hd h j;cases a
 ·
  split at a;rename_i fs f;split at a;rename_i fd hf;split at a;rename_i i hi;split at a;rename_i h0;cases a;exact wA1 ρ o hop f hf hi h0 l hd h j;cases a;cases a;cases a;cases a
 ·
  split at a;rename_i e f;split at a;rename_i A hi;split at a;rename_i h0;cases a;exact wB1 ρ o hop f hi h0 l hd h j;cases a;cases a;rename_i m e f;split at a;rename_i A hi;cases a;exact lS1 ρ o hop f hi l hd h j;cases a;cases a
 ·
  split at a;rename_i f;cases a;exact Zo ρ o hop f l hd h j;rename_i m e f;split at a;rename_i d A y hi;cases a;exact lT1 ρ o hop f (by rw[y];simp) hi l hd h j;cases a;cases a
 ·
  split at a;cases a;exact dY1 ρ o hop l hd h j;cases a;exact dY1 ρ o hop l hd h j;rename_i f;split at a;cases a;exact dZ1 (neg:=false) ρ o hop rfl f l hd h j;cases a;exact dZ1 (neg:=true) ρ o hop rfl f l hd h j;cases a;rename_i fs f;split at a;rename_i ks p;split at a;cases a;rename_i hg;have r:=Ik f (by rfl);split at a;cases a;exact Kl (neg:=false) ρ o hop rfl p r (by simpa using hg) l hd h j;cases a;exact Kl (neg:=true) ρ o hop rfl p r (by simpa using hg) l hd h j;cases a;cases a;rename_i m e f;split at a;rename_i ks p;split at a;cases a;rename_i hg;have r:=Ik f (by rfl);split at a;cases a;exact Kl (neg:=false) ρ o hop rfl p r (by simpa using hg) l hd h j;cases a;exact Kl (neg:=true) ρ o hop rfl p r (by simpa using hg) l hd h j;cases a;cases a;rename_i d _ _ _ _ _ f;split at a;rename_i kd hkd
  have hk:Kn kd d=true:=by
   split at hkd<;>cases hkd<;>rfl
  split at a;cases a;exact Oj (neg:=false) ρ o hop rfl f hk l hd h j;cases a;exact Oj (neg:=true) ρ o hop rfl f hk l hd h j;cases a;cases a;cases a
 cases a;exact bW2 ρ o hop l hd h j
 ·
  split at a;rename_i h1 h2;cases a;exact eA1 ρ o hop h1 h2 l hd h j;rename_i e h1 h2;split at a;rename_i C;split at a;cases a;exact wE1 ρ o hop h1 h2 C l hd h j;cases a;cases a;cases a
 ·
  split at a;cases a;exact lU1 ρ o hop l hd h j;cases a
 split at a;cases a;exact eC1 ρ o hop l hd h j hn hl;cases a
 ·
  split at a;rename_i e f;split at a;rename_i i z hi u;split at a;rename_i hb;cases a;exact lV1 ρ o hop f hi u hb l hd h j hn hl;cases a;cases a;cases a
 ·
  split at a;rename_i e f;split at a;rename_i i hi;split at a;rename_i hc;cases a;exact wF1 ρ o hop f hi hc.1 hc.2 l hd h j;cases a;cases a;cases a
 ·
  split at a;rename_i kt e f;split at a;rename_i z agg ks u p;cases a;exact Zu ρ o hop f u p l hd h j;cases a;cases a
 split at a;rename_i kt e f;split at a;rename_i agg ks p;cases a;exact eG1 ρ o hop f p l hd h j;cases a;cases a;cases a;exact wD1 ρ o hop l hd h j
 ·
  rename_i c;obtain⟨callee,args,B⟩:=c;split at a;cases a;rw[Tl]at hd;cases hd;cases a;rw[Tm]at hd;cases hd;rename_i b q;simp only[fG3,gD3]at a;obtain⟨k',v,rfl,rfl⟩:=a;have q:callee=.builtin b:=q;subst q;exact Hq ρ o hop v l hd h j hn hl;cases a
 cases a
end
end Go.Sim
namespace Go.Sim
def Wf:aA mQ->Nat->Prop
 |[],_=>True
 |.mark::r,n=>Wf r n
 |.ob i _::r,n=>i<n/\Wf r i
def Wf.mono:∀{h} {n m},Wf h n->n<=m->Wf h m
 |[],_,_,_,_=>trivial
 |.mark::r,_,_,h,hm=>Wf.mono (h:=r) h hm
 |.ob i _::r,_,_,h,hm=>⟨gN3 h.1 hm,h.2⟩
def Wf.lt:∀{h} {n id} {o},Wf h n->look h id=some o->id<n
 |[],_,_,_,_,hl=>by cases hl
 |.mark::r,_,_,_,h,hl=>Wf.lt (h:=r) h hl
 |.ob i o::r,n,id,o',h,hl=>by
  simp only[look]at hl
  split at hl
  rename_i e;subst e;exact h.1
  exact Nat.lt_trans (Wf.lt (h:=r) h.2 hl) h.1
def look_upd:∀h id o j,look (upd h id o) j=if j=id/\(look h id).isSome then some o else look h j
 |[],id,o,j=>by simp[look,upd]
 |.mark::r,id,o,j=>look_upd r id o j
 |.ob i o'::r,id,o,j=>by
  by_cases h1:i=id
  subst h1
  simp only[upd,gF3,look]
  by_cases h2:i=j
  subst h2;simp
  grind
  simp only[upd,fM3 h1,look]
  by_cases h2:i=j
  subst h2;simp[h1]
  simp only[fM3 h2]
  exact look_upd r id o j
def Wf.upd:∀{h} {n} id o,Wf h n->Wf (Sim.upd h id o) n
 |[],_,_,_,_=>trivial
 |.mark::r,_,id,o,h=>Wf.upd (h:=r) id o h
 |.ob i o'::r,n,id,o,h=>by
  by_cases h1:i=id
  subst h1
  simp only[Sim.upd,gF3]
  exact⟨h.1,h.2⟩
  simp only[Sim.upd,fM3 h1]
  exact⟨h.1,Wf.upd (h:=r) id o h.2⟩
def Wf.pop:∀{h} {n},Wf h n->Wf (popMark h) n
 |[],_,_=>trivial
 |.mark::r,_,h=>h
 |.ob i o::r,n,h=>by
  have hr:=Wf.pop (h:=r) h.2
  cases o with
  |arr bx ty esz ver els=>
   cases bx
   exact⟨h.1,hr⟩
   exact hr.mono (gQ3 h.1)
  |map es=>exact⟨h.1,hr⟩
  |loop=>exact⟨h.1,hr⟩
def Ou:∀{h} {n id} {o},Wf h n->look (popMark h) id=some o->look h id=some o
 |[],_,_,_,_,hl=>hl
 |.mark::r,_,_,_,_,hl=>hl
 |.ob i o'::r,n,id,o,h,hl=>by
  have ih:=fun hl=>Ou (h:=r) (id:=id) (o:=o) h.2 hl
  have drop:look (popMark r) id=some o->look (.ob i o'::r) id=some o:=fun hl=>by
   have h1:=ih hl
   have h2:=Wf.lt h.2 h1
   simp only[look]
   rw[fM3 (by omega)]
   exact h1
  have keep:look (.ob i o'::popMark r) id=some o->look (.ob i o'::r) id=some o:=fun hl=>by
   simp only[look]at hl ⊢
   split at hl
   grind
   grind
  cases o' with
  |arr bx ty esz ver els=>
   cases bx
   exact keep hl
   exact drop hl
  |map es=>exact keep hl
  |loop=>exact keep hl
def Wf.rm:∀{h} {n} id,Wf h n->Wf (hide.rm id h) n
 |[],_,_,_=>trivial
 |.mark::r,_,id,h=>Wf.rm (h:=r) id h
 |.ob i o::r,n,id,h=>by
  simp only[hide.rm]
  split
  exact h.2.mono (gQ3 h.1)
  exact⟨h.1,Wf.rm (h:=r) id h.2⟩
def Ko:∀{h} {n id j} {o},Wf h n->look (hide.rm id h) j=some o->look h j=some o/\j≠id
 |[],_,_,_,_,_,hl=>by cases hl
 |.mark::r,_,_,_,_,h,hl=>Ko (h:=r) h hl
 |.ob i o'::r,n,id,j,o,h,hl=>by
  simp only[hide.rm]at hl
  split at hl
  rename_i e
  subst e
  have h2:=Wf.lt h.2 hl
  simp only[look]
  rw[fM3 (by omega)]
  exact⟨hl,by omega⟩
  rename_i e
  simp only[look]at hl ⊢
  split at hl
  grind
  rename_i e2;rw[fM3 e2];exact Ko (h:=r) h.2 hl
def Wf.hide:∀a {h} {n},Wf h n->Wf (Sim.hide a h) n
 |[],_,_,h=>h
 |id::a,_,_,h=>Wf.hide a (h.rm id)
def zQ:∀a {h} {n j} {o},Wf h n->look (hide a h) j=some o->look h j=some o/\j∉a
 |[],_,_,_,_,_,hl=>⟨hl,by simp⟩
 |id::a,h,n,j,o,hw,hl=>by
  obtain⟨h1,h2⟩:=zQ a (hw.rm id) hl
  obtain⟨b,c⟩:=Ko hw h1
  exact⟨b,by simp[c,h2]⟩
end Go.Sim
namespace Go.Sim
def fB {α β} {f}:∀{l:aA α} {r:aA β},mapO f l=some r->r.length=l.length/\∀(i:Nat) (y:β),r[i]? =some y->∃x,l[i]? =some x/\f x=some y
 |[],r,h=>by
  simp only[mapO,fN3]at h
  subst h
  exact⟨rfl,fun i y h=>by simp at h⟩
 |a::l,r,h=>by
  simp only[mapO]at h
  split at h
  rename_i b bs hb c
  cases h
  obtain⟨h1,h2⟩:=fB c
  refine⟨by simp[h1],fun i y hi=>?_⟩
  cases i with
  |zero=>simp at hi;subst hi;exact⟨a,rfl,hb⟩
  |succ i=>simp at hi;obtain⟨x,d,e⟩:=h2 i y hi;exact⟨x,by simpa using d,e⟩
  cases h
open Classical in
noncomputable def frz (g':Gh) (w':World) (n0:Nat) (ι0:Nat->aB Zk):Gh:=
 {G:=fun b=>if ∃id loc,n0<=id/\g'.ι id=some loc/\loc.b=b then w'.heap[b]? else g'.G b,ι:=ι0}
section
variable {P:Program} {g':Gh} {w':World} {n0:Nat} {ι0:Nat->Option Zk} {L:Nat->Option AO}
def xB (id:Nat) (loc:Zk) (h0:n0<=id) (hi:g'.ι id=some loc):(frz g' w' n0 ι0).G loc.b=w'.heap[loc.b]? :=by
 simp only[frz];rw[fJ3 ⟨id,loc,h0,hi,rfl⟩]
def tY1 (c:WG g' w') (b:Nat) (o:Obj) (h:g'.G b=some o):(frz g' w' n0 ι0).G b=some o:=by
 simp only[frz];split;rename_i he;obtain⟨id,loc,_,h2,a⟩:=he;have:=c.out id loc h2;rw[a,h]at this;cases this;exact h
def rN (a:WG g' w'):g'.still.le (frz g' w' n0 ι0).still:=⟨fun b o h=>tY1 a b o h,fun id loc h=>by simp[Gh.still]at h⟩
def VR.ip_still {g} {cs} {X} (h:VR g (.ip cs) X):VR g.still (.ip cs) X:=by
 cases h with
 |ip hs hc hv=>exact .ip hs hc hv
def VR.is_still {g} {e} {els} {X} (h:VR g (.is e els) X):VR g.still (.is e els) X:=by
 cases h with
 |is hs hl hr hc hv=>exact .is hs hl hr hc hv
 |is0=>exact .is0
def rO (D:HR P g' L w') (F:WG g' w'):∀(d:Nat) (x y:AV) (X:Value),VR g' x X->oQ L n0 d x=some y->VR (frz g' w' n0 ι0).still y X
 |0,_,_,_,_,h=>by simp[oQ]at h
 |d+1,x,y,X,k,h=>by
  have ih:=rO D F d
  simp only[oQ]at h
  split at h
  cases h
  cases k with
  |v h=>exact .v h
  cases h
  exact k.ip_still.mono (rN F)
  cases h
  exact k.is_still.mono (rN F)
  cases h
  cases k with
  |es=>exact .es
  rename_i esz id ver off len cap
  split at h
  rename_i bx ty e t els E
  split at h
  rename_i hc
  obtain⟨c1,rfl,c3⟩:=hc
  simp only[fG3]at h
  obtain⟨rows,r,rfl⟩:=h
  obtain⟨hlen,aK⟩:=fB r
  obtain⟨loc,cs,h1,h2,z,N,A,O,R,M,B⟩:=D id _ E
  have s:rows.length=len:=by rw[hlen];simp;omega
  cases k with
  |@sl _ _ _ _ _ _ _ loc' p c hi hver hlc hs hp=>
   rw[h1]at hi
   cases hi
   obtain⟨q1,q2,q3,q4,q5⟩:=hp z
   have C:(frz g' w' n0 ι0).still.G loc.b=some (.cells cs ty (0,0)):=(xB id loc c1 h1).trans A
   have l:∀(i:Nat) (row:aA AV),rows[i]? =some row->∃a,els[off+i]? =some a/\row.length=a.length/\∀(j:Nat) (x:AV),row[j]? =some x->∃g,a[j]? =some g/\oQ L n0 d g=some x:=by
    intro i row hr;obtain⟨a,r1,r2⟩:=aK i row hr;obtain⟨r3,r4⟩:=fB r2;refine⟨a,?_,r3,r4⟩;rw[gA3]at r1;split at r1
    rwa [gM3]at r1
    cases r1
   have f:∀(i:Nat) (row:aA AV) (j:Nat) (x:AV),rows[i]? =some row->row[j]? =some x->∃y g,(frz g' w' n0 ι0).still.cell p (i*e+j)=some y/\isCell y=true/\VR g' g y/\oQ L n0 d g=some x:=by
    intro i row j x hr k;obtain⟨a,r1,r2,r3⟩:=l i row hr;obtain⟨g,r4,r5⟩:=r3 j x k;obtain⟨y,H,J,K⟩:=B (off+i) a j g r1 r4;have S:i<len:=by rw[<-s];exact(fE3.1 hr).1
    have q:p=⟨loc.b,off*loc.esz,none⟩:=q2.resolve_left (by omega);refine⟨y,g,?_,J,K,r5⟩;subst q;simp only[Gh.cell,C,h2];rw[<-H];congr 1;rw[hK3];omega
   rw[<-s];refine .is hs (by omega) (fun i row hr=>?_) (fun i row j x hr k=>?_) (fun i row j x y hr k hy=>?_);obtain⟨a,r1,r2,_⟩:=l i row hr;rw[r2];exact M _ _ r1;obtain⟨y,g,m,e2,_,_⟩:=f i row j x hr k;exact⟨y,m,e2⟩;obtain⟨T,g,m,e2,u,w⟩:=f i row j x hr k;rw[hy]at m;cases m;exact ih g x y u w
  cases h;cases h;rename_i id ver e o;split at h;rename_i bx ty esz t els E;split at h;rename_i hc;obtain⟨c1,rfl⟩:=hc;split at h;rename_i row l;simp only[fG3]at h;obtain⟨cells,n,rfl⟩:=h;obtain⟨hlen,aK⟩:=fB n;obtain⟨loc,cs,h1,h2,z,N,A,O,R,M,B⟩:=D id _ E;cases k with
  |@ptr _ _ _ _ _ loc' p hi hver hp=>
   rw[h1]at hi;cases hi;have q:=hp z;subst q;have C:(frz g' w' n0 ι0).still.G loc.b=some (.cells cs ty (0,0)):=(xB id loc c1 h1).trans A
   have f:∀(j:Nat) (x:AV),cells[j]? =some x->∃y g,(frz g' w' n0 ι0).still.cell ⟨loc.b,e*loc.esz+o,none⟩ j=some y/\isCell y=true/\VR g' g y/\oQ L n0 d g=some x:=by
    intro j x k;obtain⟨g,r1,r2⟩:=aK j x k;rw[gM3]at r1;obtain⟨y,H,J,K⟩:=B e row (o+j) g l r1;refine⟨y,g,?_,J,K,r2⟩;simp only[Gh.cell,C,h2];rw[<-H];congr 1;omega
   refine .ip rfl (fun j x k=>?_) (fun j x y k hy=>?_);obtain⟨y,g,m,e2,_,_⟩:=f j x k;exact⟨y,m,e2⟩;obtain⟨T,g,m,e2,u,w⟩:=f j x k;rw[hy]at m;cases m;exact ih g x y u w
  cases h;cases h;cases h;cases h
def Kp (c:HR P g' L w') (d:WG g' w') {x y} {X} (a:VR g' x X) (h:Su L n0 x=some y):VR (frz g' w' n0 ι0).still y X:=by
 unfold Su at h;split at h;simp only[fG3]at h;obtain⟨cs,b,rfl⟩:=h;obtain⟨hlen,aK⟩:=fB b;cases a with
 |@agg _ _ Cs hl hc hv=>
  refine .agg (by rw[hlen];exact hl) hc (fun i x y a hy=>?_);obtain⟨e,r1,r2⟩:=aK i x a;exact rO c d 6 e x y (hv i e y r1 hy) r2
 exact rO c d 6 x y X a h
def eI1 (c:HR P g' L w') (d:WG g' w') (hι:∀id,id<n0->g'.ι id=ι0 id) {x y} {X} (b:VR g' x X) (h:fzC L n0 x=some y):VR (frz g' w' n0 ι0) y X:=by
 have up:∀{y:AV} {X:Value},VR (frz g' w' n0 ι0).still y X->VR (frz g' w' n0 ι0) y X:=fun h=>h.unstill;unfold fzC at h;split at h;rename_i esz id ver off len cap;split at h;rename_i a;cases h;cases b with
 |sl hi hver hlen hs hp=>exact .sl ((hι id a).symm.trans hi) hver hlen hs hp
 exact up (rO c d 6 _ y X b h);rename_i id ver e o;split at h;rename_i a;cases h;cases b with
 |ptr hi hver hp=>exact .ptr ((hι id a).symm.trans hi) hver hp
 exact up (rO c d 6 _ y X b h);rename_i id;split at h;rename_i a;cases h;cases b with
 |map hi hp=>exact .map ((hι id a).symm.trans hi) hp
 exact up (rO c d 6 _ y X b h);simp only[fG3]at h;obtain⟨cs,f,rfl⟩:=h;obtain⟨hlen,aK⟩:=fB f;cases b with
 |fn h1 h2 v1 v2=>exact .fn h1 (by rw[hlen];exact h2) (fun i x y h=>by simp at h) (fun i x y b hy=>by
   obtain⟨g,r1,r2⟩:=aK i x b;exact up (rO c d 6 g x y (v2 i g y r1 hy) r2))
 exact up (rO c d 6 _ y X b h)
def eJ1 (c:HR P g' L w') (d:WG g' w') (hι:∀id,id<n0->g'.ι id=ι0 id) {x y} {X} (a:VR g' x X) (h:fz1 L n0 x=some y):VR (frz g' w' n0 ι0) y X:=by
 unfold fz1 at h;split at h;simp only[fG3]at h;obtain⟨cs,b,rfl⟩:=h;obtain⟨hlen,aK⟩:=fB b;cases a with
 |@agg _ _ Cs hl hc hv=>
  refine .agg (by rw[hlen];exact hl) hc (fun i x y a hy=>?_);obtain⟨e,r1,r2⟩:=aK i x a;exact eI1 c d hι (hv i e y r1 hy) r2
 exact eI1 c d hι a h
def tZ1 (g:HR P g' L w') (j:WG g' w') (hι:∀id,id<n0->g'.ι id=ι0 id) {x y} {X} (d:VR g' x X) (h:fz L n0 x=some y):VR (frz g' w' n0 ι0) y X:=by
 unfold fz at h;split at h;simp only[fG3]at h;obtain⟨cs,l,rfl⟩:=h;obtain⟨hlen,aK⟩:=fB l;cases d with
 |@tup _ _ Cs hl hv=>
  refine .tup (by rw[hlen];exact hl) (fun i x y d hy=>?_);obtain⟨c,r1,r2⟩:=aK i x d;exact eJ1 g j hι (hv i c y r1 hy) r2
 rename_i id;split at h;rename_i n;cases h;cases d with
 |map hi hp=>exact .map ((hι id n).symm.trans hi) hp
 rename_i s;split at h;rename_i es r;simp only[fG3]at h;obtain⟨es',m,rfl⟩:=h;obtain⟨hlen,aK⟩:=fB m;obtain⟨loc,ents,clock,h1,h2,p,q,o⟩:=g id _ r;have a:∀(i:Nat) (k x:AV),es'[i]? =some (k,x)->∃f c,es[i]? =some (f,c)/\Su L n0 f=some k/\Su L n0 c=some x:=by grind
 cases d with
 |@map _ _ b loc' hi hp=>
  rw[h1]at hi;cases hi;rw[hp h2];refine .im (ents:=ents) (clock:=clock) ((xB id loc (by omega) h1).trans p) (by rw[hlen];exact q) (fun i k x e hi he=>?_) (fun i k x e hi he=>?_);obtain⟨f,c,r1,r2,r3⟩:=a i k x hi;exact Kp g j (o i f c e r1 he).1 r2;obtain⟨f,c,r1,r2,r3⟩:=a i k x hi;exact Kp g j (o i f c e r1 he).2 r3
 cases h;exact eJ1 g j hι d h
end
end Go.Sim
namespace Go.Sim
variable {L:Nat->aB AO} {P:Program} {g:Gh} {tmps:Array Value} {v:AV} {w:World}
structure oC (P:Program) (g:Gh) (w:World) (s:Hp):Prop where
 H:HR P g (look s.h) w
 W:WG g w
 dom:∀id,g.ι id≠none->id<s.n
 wf:Wf s.h s.n
def FW (r:aB Nat):Fence:={fn:=fun _=>True,depth:=none,alive:=false,round:=r}
def Eb {r} {n} {P} {f} {args} {w} {R} (h:CallsIn (FW none) n P f args w R):CallsIn (FW r) n P f args w R:=h
def kA (base:Nat) (g:Gh) (w:World):aA Deferred->Prop
 |[]=>True
 |d::a=>(∃r,d.target=.collected r/\base<=r/\w.heap[r]? =some (.deferred (some []))/\(∀id loc,g.ι id=some loc->loc.b≠r)/\g.G r=none/\∀c∈a,c.target≠.collected r)/\kA base g w a
def kA.ext {base lim} {g g'} {w w'} (a:sU lim g g' w w'):∀{b},kA base g w b->kA base g' w' b
 |[],_=>trivial
 |d::b,⟨⟨r,h1,h2,h3,h4,h5,h6⟩,h7⟩=>by
  have c:r<w.heap.size:=(gI3.1 h3).1
  refine⟨⟨r,h1,h2,(a.keep r c (fun id loc _ hi=>h4 id loc hi)).trans h3,fun id loc hi=>?_,?_,h6⟩,kA.ext a h7⟩
  rcases a.fresh id loc hi with⟨e,f,h⟩|k
  grind
  omega
  cases hG:g'.G r with
  |none=>rfl
  |some o=>
   rcases a.gfresh r o hG with k|k
   grind
   omega
def oC.shut {P} {g} {w} {s} (a:oC P g w s) {r} {o} (c:∀id loc,g.ι id=some loc->loc.b≠r) (d:g.G r=none):
  oC P g {w with heap:=w.heap.setIfInBounds r o} s where
 H:=fun id ao f=>(a.H id ao f).mono (.refl g) rfl (fun loc hl=>by simp[Ne.symm (c id loc hl)])
 W:=⟨fun b o' h=>by
   have:r≠b:=fun e=>by subst e;rw[d]at h;cases h
   simp[this]
   exact a.W.still b o' h,fun id loc h=>by simpa using a.W.lt id loc h,a.W.out,a.W.inj⟩
 dom:=a.dom
 wf:=a.wf
def kA.shut {base} {g} {w} {r} {o}:∀{a},kA base g w a->(∀b∈a,b.target≠.collected r)->kA base g {w with heap:=w.heap.setIfInBounds r o} a
 |[],_,_=>trivial
 |d::a,⟨⟨r',h1,h2,h3,h4,h5,h6⟩,h7⟩,hd=>by
  have f:r≠r':=fun e=>hd d (by simp) (by rw[h1,e])
  exact⟨⟨r',h1,h2,by simpa[f]using h3,h4,h5,h6⟩,kA.shut h7 (fun b c=>hd b (by simp[c]))⟩
def eK1 {lim} {g g'} {w w'} (a:sU lim g g' w w') {r} {o} (hr:w.heap.size<=r):sU lim g g' w {w' with heap:=w'.heap.setIfInBounds r o}:=
 ⟨a.le,by simpa using a.size,fun b hb hn=>by
  have:r≠b:=by omega
  simp[this]
  exact a.keep b hb hn,a.fresh,a.old,a.os,a.tape,a.output,a.gfresh,fun b R h=>by
  have c:b<w.heap.size:=(gI3.1 h).1
  obtain⟨R',h'⟩:=a.loops b R h
  have:r≠b:=by omega
  exact⟨R',by simp[this];exact h'⟩⟩
def Ov {P:Program} {α:Type} {w:World} {f:α->Sem Value}:∀(l:aA α) (vs:aA Value),l.length=vs.length->(∀(i:Nat) (x:α) (v:Value),l[i]? =some x->vs[i]? =some v->(f x).run P w=.ok v w)->(l.mapM f).run P w=.ok vs w
 |[],[],_,_=>by simp
 |[],_::_,h,_=>by simp at h
 |_::_,[],h,_=>by simp at h
 |x::l,v::vs,h,hx=>by
  have h0:=hx 0 x v rfl rfl
  have ih:=Ov (P:=P) (w:=w) (f:=f) l vs (by simpa using h) (fun i x v a b=>hx (i+1) x v (by simpa using a) (by simpa using b))
  simp[iU3,h0,ih]
def lW1 (l:HR P g L w) (m:WG g w) {t:aA AV} (n:TR g t tmps.toList) {k:ResultVar} {r:RV} (hc:compRes P k=some r) (hv:readRes L t r=some v):
  ∃V,(match k with
   |.tmp t=>pure (tmps.getD t undef)
   |.cell a t=>do loadVar t (<-asAddr (tmps.getD a undef)):Sem Value).run P w=.ok V w/\VR g v V:=by
 have get:∀i x,t[i]? =some x->∃X,tmps.getD i undef=X/\VR g x X:=by
  intro i x q;have e:i<tmps.size:=by have:=n.1;have:=(fE3.1 q).1;simp at *;omega
  refine⟨tmps[i],by simp[e],n.2 i x _ q (by simp[e])⟩
 cases k with
 |tmp i=>
  simp only[compRes,fN3]at hc;subst hc;obtain⟨X,h1,h2⟩:=get i v hv;exact⟨X,by simp[h1],h2⟩
 |cell a ty=>
  simp only[compRes]at hc;split at hc;rename_i d i o hi;simp only[fN3]at hc;subst hc;by_cases f:eN P ty=true;simp only[f,gF3,readRes]at hv;split at hv;rename_i p hp;simp only[fG3]at hv;obtain⟨out,j,rfl⟩:=hv;obtain⟨X,h1,h2⟩:=get a p hp;obtain⟨vs,s,ys,rfl,h,hl,b,c⟩:=dS1 h2 j l m;refine⟨.agg ys.toArray,?_,c⟩;simp[h1,h,asAddr,vI (by rw[o];simp) f hi hl b];cases hv;simp only[f,gT3,fR3,readRes]at hv;split at hv;rename_i p hp;simp only[fG3]at hv;obtain⟨out,j,rfl⟩:=hv;obtain⟨X,h1,h2⟩:=get a p hp;obtain⟨v',s,y,rfl,h,b,c⟩:=dR1 h2 j l m;refine⟨y,?_,c⟩;simp[h1,h,asAddr,vH (by rw[o];simp) (by simpa using f) b];cases hv;cases hc
def Ow (E:HR P g L w) (F:WG g w) {t:aA AV} (G:TR g t tmps.toList) {fn:Func} {u:aA RV} (hc:mapO (compRes P) fn.results.toList=some u) (hv:results L t u=some v):
  ∃V,(Go.results fn tmps).run P w=.ok V w/\VR g v V:=by
 obtain⟨hl,hg⟩:=fB hc;unfold Sim.results at hv
 have parts:∀(vs:aA AV),mapO (readRes L t) u=some vs->∃Vs:aA Value,Vs.length=vs.length/\(∀(i:Nat) (v:AV) (V:Value),vs[i]? =some v->Vs[i]? =some V->VR g v V)/\
   (fn.results.mapM fun
    |.tmp t=>pure (tmps.getD t undef)
    |.cell a t=>do loadVar t (<-asAddr (tmps.getD a undef)):Sem (Array Value)).run P w=.ok Vs.toArray w:=by
  intro vs b;obtain⟨p,o⟩:=fB b
  have c:∀(i:Nat) (v:AV),vs[i]? =some v->∃d V,fn.results.toList[i]? =some d/\VR g v V/\(match d with
   |.tmp t=>pure (tmps.getD t undef)
   |.cell a t=>do loadVar t (<-asAddr (tmps.getD a undef)):Sem Value).run P w=.ok V w:=by
   intro i v hi;obtain⟨r,h1,h2⟩:=o i v hi;obtain⟨d,m,B⟩:=hg i r h1;obtain⟨V,C,D⟩:=lW1 E F G B h2;exact⟨d,V,m,D,C⟩
  have A:∃Vs:aA Value,Vs.length=vs.length/\∀(i:Nat) (v:AV) (V:Value),vs[i]? =some v->Vs[i]? =some V->∃d,fn.results.toList[i]? =some d/\VR g v V/\(match d with
   |.tmp t=>pure (tmps.getD t undef)
   |.cell a t=>do loadVar t (<-asAddr (tmps.getD a undef)):Sem Value).run P w=.ok V w:=by
   refine⟨(List.range vs.length).pmap (fun i (hi:i<vs.length)=>Classical.choose (iM3 (c i vs[i] (by simp[hi])))) (fun i hi=>by simpa using hi),by simp,fun i v V hi f=>?_⟩;simp only[List.getElem?_pmap,Option.pmap_eq_some_iff]at f;obtain⟨j,J,n,rfl⟩:=f;have k:i<vs.length:=(fE3.1 hi).1;rw[iP3 k]at n;cases n;have e:vs[i]=v:=by simpa[k]using hi
   have h:=iM3 (iM3 (c i vs[i] (by simp[k])));refine⟨_,h.1,?_,h.2.2⟩;rw[<-e];exact h.2.1
  obtain⟨Vs,c1,c2⟩:=A;have hlen:Vs.length=fn.results.toList.length:=by rw[c1,p,hl]
  refine⟨Vs,c1,fun i v V hi f=>(c2 i v V hi f).elim (fun _ h=>h.2.1),?_⟩;rw[Array.mapM_eq_mapM_toList];simp only[Sem.run_bind,map_eq_pure_bind]
  rw[Ov (P:=P) (w:=w) fn.results.toList Vs hlen.symm (fun i x V s f=>by
   have hi:i<vs.length:=by rw[<-c1];exact(fE3.1 f).1
   obtain⟨d,z,_,H⟩:=c2 i vs[i] V (by simp[hi]) f;rw[s]at z;cases z;exact H)]
  simp
 split at hv;rename_i v' b;cases hv;obtain⟨Vs,h1,h2,m⟩:=parts _ b;obtain⟨V,rfl⟩:=Ot (l:=Vs) (by simpa using h1);refine⟨V,?_,h2 0 _ V rfl rfl⟩;unfold Go.results;refine(Sem.run_bind ..).trans ((congrArg (fun r=>Result.andThen r _) m).trans ?_);rfl;rename_i vs q b;cases hv;obtain⟨Vs,h1,h2,m⟩:=parts _ b;refine⟨.tuple Vs.toArray,?_,.tup (by simp[h1]) (fun i x y s hy=>h2 i x y s (by simpa using hy))⟩;unfold Go.results;refine(Sem.run_bind ..).trans ((congrArg (fun r=>Result.andThen r _) m).trans ?_);simp only[Result.andThen_ok]
 have:¬Vs.toArray.size=1:=by
  intro e;have e2:vs.length=1:=by rw[<-h1];simpa using e
  match vs,e2 with
  |[v],_=>exact q v rfl
 rw[dif_neg this];rfl;cases hv
end Go.Sim
namespace Go.Sim
section
variable {P:Program} {g':Gh} {w':World} {ι0:Nat->Option Zk} {L:Nat->Option AO}
def eL1 (q:HR P g' L w') (s:WG g' w'):∀(d:Nat) (x y:AV) (X:Value),VR g' x X->Cf L d x=some y->VR (frz g' w' 0 ι0).still y X
 |0,_,_,_,_,h=>by simp[Cf]at h
 |d+1,x,y,X,f,h=>by
  have ih:=eL1 q s d
  have dS:oQ L 0 6 x=some y->VR (frz g' w' 0 ι0).still y X:=fun h=>rO q s 6 x y X f h
  simp only[Cf]at h
  split at h
  split at h
  rename_i a b M hb
  cases h
  obtain⟨S,v⟩:=fB M
  obtain⟨T,e2⟩:=fB hb
  cases f with
  |fn h1 h2 v1 v2=>
   refine .fn (by rw[S];exact h1) (by rw[T];exact h2) (fun i x y f hy=>?_) (fun i x y f hy=>?_)
   grind
   grind
  cases h
  simp only[fG3]at h
  obtain⟨cs,A,rfl⟩:=h
  obtain⟨hlen,aK⟩:=fB A
  cases f with
  |@agg _ _ Cs hl hc hv=>
   refine .agg (by rw[hlen];exact hl) hc (fun i x y f hy=>?_)
   obtain⟨c,r1,r2⟩:=aK i x f
   exact ih c x y (hv i c y r1 hy) r2
  cases h
  cases f with
  |im hb hl hk hv=>exact(VR.im (g:=g') hb hl hk hv|>fun h=>(by cases h with|im hb hl hk hv=>exact VR.im hb hl hk hv:VR g'.still _ _)).mono (rN s)
  rename_i id
  split at h
  rename_i es z
  simp only[fG3]at h
  obtain⟨es',B,rfl⟩:=h
  obtain⟨hlen,aK⟩:=fB B
  obtain⟨loc,ents,clock,h1,h2,w,D,u⟩:=q id _ z
  have l:∀(i:Nat) (k x:AV),es'[i]? =some (k,x)->∃r c,es[i]? =some (r,c)/\Su L 0 r=some k/\Su L 0 c=some x:=by grind
  cases f with
  |@map _ _ b loc' hi hp=>
   rw[h1]at hi
   cases hi
   rw[hp h2]
   refine .im (ents:=ents) (clock:=clock) ((xB id loc (gU3 _) h1).trans w) (by rw[hlen];exact D) (fun i k x e hi he=>?_) (fun i k x e hi he=>?_)
   obtain⟨r,c,r1,r2,r3⟩:=l i k x hi
   exact Kp q s (u i r c e r1 he).1 r2
   obtain⟨r,c,r1,r2,r3⟩:=l i k x hi
   exact Kp q s (u i r c e r1 he).2 r3
  cases h
  rename_i id ver e o
  split at h
  rename_i bx ty esz E els z
  split at h
  rename_i hc
  subst hc
  split at h
  rename_i row t
  simp only[fG3]at h
  obtain⟨cells,m,rfl⟩:=h
  obtain⟨hlen,aK⟩:=fB m
  obtain⟨loc,cs,h1,h2,w,D,u,U,V,W,J⟩:=q id _ z
  cases f with
  |@ptr _ _ _ _ _ loc' p hi hver hp=>
   rw[h1]at hi
   cases hi
   have C:=hp w
   subst C
   have K:(frz g' w' 0 ι0).still.G loc.b=some (.cells cs ty (0,0)):=(xB id loc (gU3 _) h1).trans u
   have n:∀(j:Nat) (x:AV),cells[j]? =some x->∃y c,(frz g' w' 0 ι0).still.cell ⟨loc.b,e*loc.esz+o,none⟩ j=some y/\isCell y=true/\VR g' c y/\Cf L d c=some x:=by
    intro j x f;obtain⟨c,r1,r2⟩:=aK j x f;rw[gM3]at r1;obtain⟨y,N,O,R⟩:=J e row (o+j) c t r1;refine⟨y,c,?_,O,R,r2⟩;simp only[Gh.cell,K,h2];rw[<-N];congr 1;omega
   refine .ip rfl (fun j x f=>?_) (fun j x y f hy=>?_)
   grind
   obtain⟨Y,c,v,e2,F,H⟩:=n j x f;rw[hy]at v;cases v;exact ih c x y F H
  cases h;cases h;cases h;exact dS h
def Kq {g g2}:∀{d} {x} {X},gnd d x=true->VR g x X->VR g2 x X
 |0,_,_,h,_=>by simp[gnd]at h
 |d+1,x,X,h,a=>by
  cases a with
  |v hg=>exact .v hg
  |agg hl hc hv=>
   simp only[gnd,fH3]at h
   exact .agg hl hc (fun i x y a hy=>Kq (h x (fL3 a)) (hv i x y a hy))
  |tup hl hv=>
   simp only[gnd,fH3]at h
   exact .tup hl (fun i x y a hy=>Kq (h x (fL3 a)) (hv i x y a hy))
  |_=>simp[gnd]at h
end
end Go.Sim
namespace Go.Sim
def Ex.toExit:Ex->Exit
 |.normal=>.normal
 |.exit id=>.exit id
 |.ret=>.ret
structure Bj (P:Program) (base lim:Nat) (g:Gh) (w:World) (s:Hp) (t:List AV) (s':Hp) (g':Gh) (a':Act) (w':World):Prop where
 t:TR g' t a'.tmps.toList
 inv:oC P g' w' s'
 ext:sU lim g g' w w'
 n:s.n<=s'.n
 marks:kA base g' w' a'.defers
def Ec (P:Program) (base lim:Nat) (g:Gh) (w:World) (s:Hp) (e:Ex) (a:St):Exit->Act->World->Prop:=
 fun e' a' w'=>e'=e.toExit/\∃g',Bj P base lim g w s a.t a.s g' a' w'
def pY (r:aB Nat) (w:World):Prop:=∀b,r=some b->∃R:Loop,w.heap[b]? =some (Obj.loop R)
def pY.none (w:World):pY none w:=fun b h=>by cases h
def pY.ext {r} {lim} {g g'} {w w'} (h:pY r w) (a:sU lim g g' w w'):pY r w':=fun b hb=>by
 obtain⟨R,h1⟩:=h b hb
 exact a.loops b R h1
def qI (P:Program) (ex:Nat->Bool->IC->St->aB (Ex×St)):Prop:=
 ∀(lim:Nat) (rd:Bool) (c:IC) (σ:St) (e:Ex) (b:St),ex lim rd c σ=some (e,b)->∀code:Code,comp P code=some c->∀r:aB Nat,rd=r.isSome->
  ∀(g:Gh) (a:Act) (w:World) (n base:Nat),pY r w->TR g σ.t a.tmps.toList->oC P g w σ.s->lim<=σ.s.n->base<=w.heap.size->kA base g w a.defers->
   code.wpIn (FW r) n P (Ec P base lim g w σ.s e b) a w
section
variable {P:Program} {T:mO} {ex:Nat->Bool->IC->St->Option (Ex×St)} {lim n:Nat} {g:Gh} {w:World}
def zR {r} (h:w.heap[r]? =some (.deferred (some []))):(Instr.takeDeferred r).run P w=.ok [] {w with heap:=w.heap.setIfInBounds r (.deferred none)}:=by
 simp[Instr.takeDeferred,getObj,setObj,Sem.run,h]
def Il {fn} {tmps} {t} {rs} {v} {s} {g0} {w0} {g'} {F} {R} (c:TR g' t tmps.toList)
  (hc:mapO (compRes P) fn.results.toList=some rs) (hv:results (look s.h) t rs=some v)
  (b:∀V w',VR g' v V->oC P g' w' s->sU lim g0 g' w0 w'->R (.returned V) w'):
  ∀a w',kA w0.heap.size g' w' a->oC P g' w' s->sU lim g0 g' w0 w'->LeavesInM F n P fn tmps R a .returning w'
 |[],w',hm,hI,hE=>by
  obtain⟨V,h1,h2⟩:=Ow hI.H hI.W c hc hv
  exact⟨V,h1,b V w' h2 hI hE⟩
 |d::a,w',⟨⟨r,h1,h2,h3,h4,h5,h6⟩,h7⟩,hI,hE=>by
  refine⟨by simp,.inl ⟨r,_,h1,zR h3,?_⟩⟩
  exact Il c hc hv b a _ (h7.shut h6) (hI.shut h4 h5) (eK1 hE h2)
def Zv (g:Gh) (m:Nat):TR g (List.replicate m .undef) (List.replicate m undef):=by
 refine⟨by simp,fun i x y a hy=>?_⟩;simp only[iG3]at a hy;split at a;cases a;rename_i hi;rw[fJ3 hi]at hy;cases hy;exact .undef g;cases a
def TR.app {t t'} {v v'} (h:TR g t v) (h':TR g t' v'):TR g (t++t') (v++v'):=by
 refine⟨by simp[h.1,h'.1],fun i x y a hy=>?_⟩;rw[hG3]at a hy;rw[<-h.1]at hy;split at a;rename_i hi;rw[fJ3 hi]at hy;exact h.2 i x y a hy;rename_i hi;rw[fM3 hi]at hy;exact h'.2 _ x y a hy
def mJ (P:Program) (lim:Nat) (g:Gh) (w:World) (s:Hp) (v:AV) (s':Hp):Ending->World->Prop:=
 fun e w'=>∃V g',e=.returned V/\VR g' v V/\oC P g' w' s'/\sU lim g g' w w'/\s.n<=s'.n
def nM (P:Program) (f:FuncId) (args:aA AV) (v:AV):Prop:=∀{g:Gh} {w:World} {s:Hp} {n:Nat} {Args:Array Value},TR g args Args.toList->oC P g w s->CallsIn (FW none) n P f Args w (mJ P s.n g w s v s)
structure kJ (P:Program) (T:mO):Prop where
 fns:∀f ifn,T f=some ifn->∃fn,P.funcs[f]? =some fn/\nY P fn ifn.pure ifn.frz=some ifn
 memo:∀f args v,T.memo f args=some v->nM P f args v
def Cp (i:qI P ex) {f} {fn} {ifn} {pure frz} (hf:P.funcs[f]? =some fn) (hc:nY P fn pure frz=some ifn) {args} {Args} {s s'} {v}
  (h:body ex lim ifn args s=some (v,s')) (p:TR g args Args.toList) (r:oC P g w s) (hl:lim<=s.n):CallsIn (FW none) n P f Args w (mJ P lim g w s v s'):=by
 unfold nY at hc;split at hc;cases hc;rename_i c hb;split at hc;rename_i ic u j m;split at hc;rename_i k;cases hc;unfold body at h;simp only at h
 have key:∀e σ,ex lim false ic {t:=args++List.replicate (fn.ntmps-args.length) .undef,s:=s}=some (e,σ)->(∀id,e≠.exit id)->(results (look σ.s.h) σ.t u).map (fun v=>(v,σ.s))=some (v,s')->
   CallsIn (FW none) n P f Args w (mJ P lim g w s v s'):=by
  intro e σ he l a;simp only[fG3,gD3]at a;obtain⟨v',a,rfl,rfl⟩:=a;have o:Args.size=args.length:=by have:=p.1;simpa using this.symm
  refine callsIn_of_wp_marks hf hb trivial ?_;refine wpIn_mono (i lim false ic _ e σ he c j none rfl g {tmps:=Args++Array.replicate (fn.ntmps-Args.size) undef,defers:=[]} w n w.heap.size (.none w) ?_ r hl (fI3 _) trivial) ?_;have:(Args++Array.replicate (fn.ntmps-Args.size) undef).toList=Args.toList++List.replicate (fn.ntmps-args.length) undef:=by simp[o]
  simp only[this];exact p.app (Zv g _);rintro e' a' w' ⟨rfl,g',b⟩;have d:=Il (n:=n) (F:=FW none) (R:=mJ P lim g w s v' σ.s) (s:=σ.s) (g0:=g) (w0:=w) b.t m a (fun V w' h1 h2 q=>⟨V,g',rfl,h1,h2,q,b.n⟩) a'.defers w' b.marks b.inv b.ext;cases e with
  |normal=>exact d
  |ret=>exact d
  |exit id=>exact absurd rfl (l id)
 split at h;cases h
 grind
 cases h;cases hc;cases hc
def Im {n0} {g'} {w'} {s s'} {v v'} {V} (c:oC P g w s) (a:oC P g' w' s') (t:VR g' v V) (m:fz (look s'.h) n0 v=some v') (hι:∀id,id<n0->g'.ι id=g.ι id)
  (d:∀b,b<w.heap.size->w'.heap[b]? =w.heap[b]?) (r:∀b o,g.G b=some o->g'.G b=some o) (i:∀b o,g'.G b=some o->g.G b=some o\/w.heap.size<=b)
  (e:∀id loc,n0<=id->g'.ι id=some loc->w.heap.size<=loc.b) (q:w.heap.size<=w'.heap.size) (p:w'.os=w.os) (f:w'.tape=w.tape) (l:w'.output=w.output):
  mJ P s.n g w s v' s (.returned V) w':=by
 have j:g.le (frz g' w' n0 g.ι):=⟨fun b o h=>tY1 a.W b o (r b o h),fun id loc h=>⟨loc,h,fI3 _,fun _=>rfl⟩⟩
 have e:∀b,(∃id loc,n0<=id/\g'.ι id=some loc/\loc.b=b)->w.heap.size<=b:=by grind
 refine⟨V,frz g' w' n0 g.ι,rfl,tZ1 a.H a.W hι t m,⟨?_,⟨?_,?_,?_,?_⟩,c.dom,c.wf⟩,⟨j,q,?_,?_,fun _ _=>rfl,p,f,l,?_,fun b R h=>⟨R,(d b (gI3.1 h).1).trans h⟩⟩,fI3 _⟩;intro id ao u;exact(c.H id ao u).mono j rfl (fun loc hl=>d _ (c.W.lt id loc hl));intro b o h;simp only[frz]at h;split at h;exact h;exact a.W.still b o h;intro id loc h;have:=c.W.lt id loc h;omega;intro id loc h;have h:g.ι id=some loc:=h;have x:=c.W.lt id loc h;simp only[frz];rw[fM3 (fun he=>by have:=e _ he;omega)];cases hG':g'.G loc.b with
 |none=>rfl
 |some o=>
  rcases i _ _ hG' with k|k;rw[c.W.out id loc h]at k;cases k;omega
 exact c.W.inj
 grind
 intro id loc h;exact .inl ⟨loc,h,rfl⟩;intro b o h;simp only[frz]at h;split at h
 grind
 exact i b o h
def Wh (j:qI P ex) {f} {fn} {ifn} {pure frz} (hf:P.funcs[f]? =some fn) (hc:nY P fn pure frz=some ifn) {args} {Args} {s s'} {v v'}
  (h:body ex s.n ifn args s=some (v,s')) (l:fz (look s'.h) s.n v=some v') (p:TR g args Args.toList) (d:oC P g w s):CallsIn (FW none) n P f Args w (mJ P s.n g w s v' s):=by
 refine CallsIn.mono (Cp j hf hc h p d (fI3 _)) ?_;rintro e w' ⟨V,g',rfl,o,i,a,hn⟩
 refine Im d i o l (fun id c=>a.old id c) (fun b hb=>a.keep b hb (fun id loc c hi=>by
  have:=d.dom id (by rw[hi];simp);omega)) a.le.G a.gfresh (fun id loc h1 h2=>?_) a.size a.os a.tape a.output
 rcases a.fresh id loc h2 with⟨m,q,r⟩|k;have:=d.dom id (by rw[q];simp);omega;exact k
def mS:∀{d} {x} {X},closed d x=true->VR g x X->VR g.still x X
 |0,_,_,h,_=>by simp[closed]at h
 |d+1,x,X,h,a=>by
  cases a with
  |v hg=>exact .v hg
  |ip hs hc hv=>exact .ip hs hc hv
  |is hs hl hr hc hv=>exact .is hs hl hr hc hv
  |is0=>exact .is0
  |es=>exact .es
  |im hb hl hk hv=>exact .im hb hl hk hv
  |fn h1 h2 v1 v2=>
   simp only[closed,fF3,fH3]at h
   exact .fn h1 h2 (fun i x y a hy=>mS (h.1 x (fL3 a)) (v1 i x y a hy)) (fun i x y a hy=>mS (h.2 x (fL3 a)) (v2 i x y a hy))
  |agg hl hc hv=>
   simp only[closed,fH3]at h
   exact .agg hl hc (fun i x y a hy=>mS (h x (fL3 a)) (hv i x y a hy))
  |tup hl hv=>
   simp only[closed,fH3]at h
   exact .tup hl (fun i x y a hy=>mS (h x (fL3 a)) (hv i x y a hy))
  |ptr=>simp[closed]at h
  |sl=>simp[closed]at h
  |map=>simp[closed]at h
  |yield=>simp[closed]at h
def zS (m:qI P ex) (r:kJ P T) {f} {ifn} (hf:T f=some ifn) {args} {Args} {s} {v'} (l:args.all (closed 4)=true)
  (h:runP T ex f ifn args=some v') (p:TR g args Args.toList) (c:oC P g w s):CallsIn (FW none) n P f Args w (mJ P s.n g w s v' s):=by
 unfold runP at h;split at h;rename_i v A;cases h;exact r.memo _ _ _ A p c;split at h;rename_i v s' hb;obtain⟨fn,hf,hc⟩:=r.fns f ifn hf;have q:TR g.still args Args.toList:=⟨p.1,fun i x y t hy=>mS (fH3.1 l x (fL3 t)) (p.2 i x y t hy)⟩
 have j:oC P g.still w {h:=[],n:=0}:=⟨fun id ao h=>by simp[look]at h,⟨c.W.still,fun id loc h=>by simp[Gh.still]at h,fun id loc h=>by simp[Gh.still]at h,fun id id' loc loc' h=>by simp[Gh.still]at h⟩,fun id h=>by simp[Gh.still]at h,trivial⟩
 refine CallsIn.mono (Cp m hf hc hb q j (fI3 _)) ?_;rintro e w' ⟨V,g',rfl,z,d,a,hn⟩;refine Im c d z h (fun id o=>by omega) (fun b hb=>a.keep b hb (fun id loc o hi=>by simp[Gh.still]at hi)) a.le.G a.gfresh (fun id loc h1 h2=>?_) a.size a.os a.tape a.output;rcases a.fresh id loc h2 with⟨u,B,C⟩|k;simp[Gh.still]at B;exact k;cases h
def Io (r:qI P ex) (B:kJ P T) {f} {ifn} (hf:T f=some ifn) {args as} {Args} {s} {v} (t:mapO (Cf (look s.h) 6) args=some as)
  (h:runP T ex f ifn as=some v) (hg:gnd 4 v=true) (C:TR g args Args.toList) (c:oC P g w s):CallsIn (FW none) n P f Args w (mJ P s.n g w s v s):=by
 let p:Gh:=Sim.frz g w 0 (fun _=>none)
 have m:TR p as Args.toList:=by
  obtain⟨h1,h2⟩:=fB t;refine⟨by rw[h1];exact C.1,fun i x y A hy=>?_⟩;obtain⟨D,r1,r2⟩:=h2 i x A;exact eL1 (ι0:=fun _=>none) c.H c.W 6 D x y (C.2 i D y r1 hy) r2
 have k:oC P p w {h:=[],n:=0}:=by
  refine⟨fun id ao h=>by simp[look]at h,⟨fun b o h=>?_,fun id loc h=>(by cases h),fun id loc h=>(by cases h),fun id id' loc loc' h=>(by cases h)⟩,fun id h=>absurd rfl h,trivial⟩;simp only[p,Sim.frz]at h;split at h;exact h;exact c.W.still b o h
 have fin:∀e w' x s',mJ P 0 p w {h:=[],n:=0} x s' e w'->(∀V g',VR g' x V->HR P g' (look s'.h) w'->WG g' w'->VR g v V)->mJ P s.n g w s v s e w':=by
  rintro e w' x s' ⟨V,g',rfl,l,j,d,hn⟩ A;have a:∀b,b<w.heap.size->w'.heap[b]? =w.heap[b]? :=fun b hb=>d.keep b hb (fun id loc u hi=>(by cases hi));have z:∀b o,g.G b=some o->b<w.heap.size:=fun b o h=>(gI3.1 (c.W.still b o h)).1;refine⟨V,g,rfl,A V g' l j.H j.W,⟨fun id ao J=>(c.H id ao J).mono (.refl g) rfl (fun loc hl=>a _ (c.W.lt id loc hl)),⟨fun b o h=>?_,fun id loc h=>?_,c.W.out,c.W.inj⟩,c.dom,c.wf⟩,⟨.refl g,d.size,fun b hb _=>a b hb,fun id loc h=>.inl ⟨loc,h,rfl⟩,fun _ _=>rfl,d.os,d.tape,d.output,fun _ _ h=>.inl h,fun b R h=>⟨R,(a b (gI3.1 h).1).trans h⟩⟩,fI3 _⟩;rw[a b (z b o h)];exact c.W.still b o h;have:=c.W.lt id loc h;have:=d.size;omega
 unfold runP at h;split at h;rename_i v1 K;cases h;exact CallsIn.mono (B.memo _ _ _ K m k) (fun e w' q=>fin e w' _ _ q (fun V g' l _ _=>Kq hg l));split at h;rename_i x s' hb;obtain⟨fn,hf,hc⟩:=B.fns f ifn hf;exact CallsIn.mono (Cp r hf hc hb m k (fI3 _)) (fun e w' q=>fin e w' _ _ q (fun V g' l E F=>Kq hg (tZ1 (ι0:=g'.ι) (n0:=0) E F (fun id u=>by omega) l h)));cases h
def mJ.mono {lim'} {s s'} {v} (hl:lim<=lim') {e} {w'} (h:mJ P lim' g w s v s' e w'):mJ P lim g w s v s' e w':=by
 obtain⟨V,g',h1,h2,a,b,c⟩:=h;exact⟨V,g',h1,h2,a,b.mono hl,c⟩
def xC (b:qI P ex) (i:kJ P T) {f} {args} {Args} {s s'} {v} (h:callF T ex lim f args s=some (v,s')) (d:TR g args Args.toList) (c:oC P g w s)
  (hl:lim<=s.n):CallsIn (FW none) n P f Args w (mJ P lim g w s v s'):=by
 unfold callF at h;split at h;cases h;rename_i ifn a;obtain⟨fn,hf,hc⟩:=i.fns f ifn a;split at h;split at h;rename_i j;simp only[fG3,gD3]at h;obtain⟨v1,hr,rfl,rfl⟩:=h;exact CallsIn.mono (zS b i a j hr d c) (fun e w' h=>h.mono hl);split at h;split at h;rename_i as k;split at h;rename_i m hb;split at h;rename_i hg;cases h;exact CallsIn.mono (Io b i a k hb hg d c) (fun e w' h=>h.mono hl);cases h;cases h;cases h;split at h;rename_i m s0 hb;simp only[fG3,gD3]at h;obtain⟨v1,l,rfl,rfl⟩:=h;exact CallsIn.mono (Wh b hf hc hb l d c) (fun e w' h=>h.mono hl);cases h;exact Cp b hf hc h d c hl
def Ed (b:qI P ex) (d:kJ P T) {f} {ifn} (a:T f=some ifn) (hp:ifn.pure=true) {args} {Args} {s s'} {v} (h:callF T ex lim f args s=some (v,s')) (k:TR g args Args.toList) (c:oC P g w s):
  s'=s/\CallsIn (FW none) n P f Args w (mJ P s.n g w s v s):=by
 unfold callF at h;rw[a]at h;simp only[hp,gF3]at h;obtain⟨fn,hf,hc⟩:=d.fns f ifn a;split at h;rename_i e;simp only[fG3,gD3]at h;obtain⟨v1,hr,rfl,rfl⟩:=h;exact⟨rfl,zS b d a e hr k c⟩;split at h;split at h;rename_i as i;split at h;rename_i l hb;split at h;rename_i hg;cases h;exact⟨rfl,Io b d a i hb hg k c⟩;cases h;cases h;cases h;split at h;rename_i l s0 hb;simp only[fG3,gD3]at h;obtain⟨v1,j,rfl,rfl⟩:=h;exact⟨rfl,Wh b hf hc hb j k c⟩;cases h
end
end Go.Sim
namespace Go.Sim
def eM1 (k:Nat):rsv (k+1)=rsv k+1048576:=hQ3 _ _
def wJ1 {a b} (h:a<=b):rsv a<=rsv b:=gS3 _ h
def vR {α:Type} {f:α->α->Bool} (hf:∀a b,f a b=true->a=b):∀{l r},Ia f l r=true->l=r
 |[],[],_=>rfl
 |[],_::_,h=>by simp[Ia]at h
 |_::_,[],h=>by simp[Ia]at h
 |a::l,b::r,h=>by
  simp only[Ia,fF3]at h
  rw[hf a b h.1,vR hf h.2]
def wK1 {x y} (h:eqV x y=true):x=y:=by
 unfold eqV at h;split at h;rw[eq_of_beq h]
 grind
 rename_i a b;have:=eq_of_beq h;congr 1;cases a;cases b;simp only at this;congr 1;exact Array.toList_inj.1 this;rfl;rfl;rfl;rfl;rfl;cases h
def xD:∀d x y,wT d x y=true->x=y
 |0,_,_,h=>by simp[wT]at h
 |d+1,x,y,h=>by
  have ih:=xD d
  have c:∀{l r},Ia (wT d) l r=true->l=r:=fun h=>vR ih h
  unfold wT at h
  have e:∀{a b},Nat.beq a b=true->a=b:=fun h=>fY3 h
  split at h
  rw[wK1 h]
  rw[c h]
  simp only[fF3]at h
  rw[e h.1,vR (fun _ _ h=>c h) h.2]
  grind
  grind
  rfl
  rw[e h]
  grind
  rw[c h]
  rw[c h]
  cases h
def lX1 {x y:AO} (h:vX1 x y=true):x=y:=by
 unfold vX1 at h;split at h;simp only[fF3,hX3]at h;have c:∀{a b},Nat.beq a b=true->a=b:=fun h=>fY3 h;rw[h.1.1.1.1,c h.1.1.1.2,c h.1.1.2,c h.1.2,vR (fun _ _ h=>vR (xD 12) h) h.2]
 rw[vR (fun p q h=>by
  simp only[fF3]at h;exact Prod.ext (xD 12 _ _ h.1) (xD 12 _ _ h.2)) h]
 cases h
def changed_spec {L}:∀{h} {w},changed L h=some w->
  (∀id ao,look h id=some ao->id∉w.map (·.1)->L id=some ao)/\(∀e∈w,L e.1=some e.2)
 |[],w,h=>by
  simp only[changed,fN3]at h
  subst h
  exact⟨fun id ao h=>(by cases h),fun e he=>(by simp at he)⟩
 |.mark::r,w,h=>changed_spec (h:=r) h
 |.ob i o::r,w,h=>by
  simp only[changed]at h
  split at h
  rename_i o' l hi hl
  obtain⟨h1,h2⟩:=changed_spec hl
  split at h
  rename_i a
  cases h
  have:o=o':=by
   rcases Bool.or_eq_true_iff.1 a with e|e;exact lX1 e;exact @of_decide_eq_true _ (Classical.propDecidable _) e
  subst this;refine⟨fun id ao hk hn=>?_,h2⟩;simp only[look]at hk;split at hk
  grind
  exact h1 id ao hk hn;cases h;refine⟨fun id ao hk hn=>?_,fun e he=>?_⟩;simp only[look]at hk;split at hk
  grind
  grind
  grind
  cases h
def changed_mem {L}:∀{h} {w} {n},Wf h n->changed L h=some w->∀e∈w,e.1<n/\(look h e.1).isSome=true
 |[],w,n,_,h=>by
  simp only[changed,fN3]at h
  subst h
  intro e he;simp at he
 |.mark::r,w,n,hw,h=>changed_mem (h:=r) hw h
 |.ob i o::r,w,n,hw,h=>by
  simp only[changed]at h
  split at h
  rename_i o' l hi hl
  have h2:=changed_mem hw.2 hl
  have up:∀e∈l,e.1<n/\(look (.ob i o::r) e.1).isSome=true:=fun e he=>by
   obtain⟨a,b⟩:=h2 e he
   refine⟨Nat.lt_trans a hw.1,?_⟩
   simp only[look]
   split
   rfl
   exact b
  split at h
  cases h;exact up
  cases h
  intro e he
  rcases fT3.1 he with rfl|he
  exact⟨hw.1,by simp[look]⟩
  exact up e he
  cases h
def look_updAll:∀w h id ao,look (updAll w h) id=some ao->(look h id=some ao/\id∉w.map (·.1))\/(id,ao)∈w
 |[],h,id,ao,hl=>.inl ⟨hl,by simp⟩
 |(i,o)::w,h,id,ao,hl=>by
  simp only[updAll]at hl
  rcases look_updAll w _ id ao hl with⟨h1,h2⟩|h1
  rw[look_upd]at h1
  split at h1
  grind
  grind
  grind
def look_updAll_ne:∀w h id,id∉w.map (·.1)->look (updAll w h) id=look h id
 |[],h,id,_=>rfl
 |(i,o)::w,h,id,hn=>by
  simp only[iA3,fT3,iH3]at hn
  simp only[updAll]
  rw[look_updAll_ne w _ id hn.2,look_upd,fM3 (fun hc=>hn.1 hc.1)]
def Wf.updAll:∀w {h} {n},Wf h n->Wf (Sim.updAll w h) n
 |[],_,_,h=>h
 |(i,o)::w,_,_,h=>Wf.updAll w (h.upd i o)
def gG {n} {r}:∀{h} {id} {ao},look (newEnts n h++r) id=some ao->(n<=id/\look h id=some ao/\.ob id ao∈newEnts n h)\/look r id=some ao
 |[],id,ao,hl=>.inr hl
 |.mark::h,id,ao,hl=>.inr hl
 |.ob i o::h,id,ao,hl=>by
  simp only[newEnts]at hl ⊢
  split at hl
  rename_i hn
  rw[fJ3 hn]
  simp only[hT3,look]at hl ⊢
  split at hl
  grind
  rename_i e
  rcases gG hl with⟨h1,h2,a⟩|h1
  grind
  exact .inr h1
  exact .inr hl
def Wf.new {n} {r} (hr:Wf r n):∀{h} {m},Wf h m->n<=m->Wf (newEnts n h++r) m
 |[],m,_,hm=>hr.mono hm
 |.mark::h,m,_,hm=>hr.mono hm
 |.ob i o::h,m,hw,hm=>by
  simp only[newEnts]
  split
  rename_i hn
  exact⟨hw.1,Wf.new hr hw.2 hn⟩
  exact hr.mono hm
def vS:∀{h} {id j},j≠id->look (hide.rm id h) j=look h j
 |[],_,_,_=>rfl
 |.mark::r,id,j,hn=>vS (h:=r) hn
 |.ob i o'::r,id,j,hn=>by
  simp only[hide.rm]
  split
  rename_i e
  subst e
  simp only[look]
  rw[fM3 (fun e=>hn e.symm)]
  simp only[look]
  split
  rfl
  exact vS hn
def xE:∀a {h} {j},j∉a->look (hide a h) j=look h j
 |[],_,_,_=>rfl
 |id::a,h,j,hn=>by
  simp only[fT3,iH3]at hn
  simp only[hide]
  rw[xE a hn.2,vS hn.1]
def nT (a:aA Nat) (n:Nat):Nat->Bool:=fun id=>Nat.blt id n&& !a.contains id
def xF (a:aA Nat) (n n':Nat):Nat->Bool:=fun id=>nT a n id||(Nat.ble n id&&Nat.blt id n')
def Ee {n} {r} {q}:∀{h} {m},Wf h m->∀{id} {ao},look (newOK q n h++r) id=some ao->(n<=id/\look h id=some ao/\gC q ao=true)\/look r id=some ao
 |[],_,_,id,ao,hl=>.inr hl
 |.mark::h,_,_,id,ao,hl=>.inr hl
 |.ob i o::h,m,hw,id,ao,hl=>by
  have ih:=fun h1=>Ee (r:=r) (q:=q) (n:=n) (h:=h) hw.2 (id:=id) (ao:=ao) h1
  have up:(n<=id/\look h id=some ao/\gC q ao=true)->(n<=id/\look (.ob i o::h) id=some ao/\gC q ao=true):=fun⟨h1,h2,a⟩=>by
   have:=hw.2.lt h2
   refine⟨h1,?_,a⟩
   simp only[look]
   rw[fM3 (by omega)]
   exact h2
  unfold newOK at hl ih
  simp only[newEnts]at hl
  split at hl
  rename_i hn
  rw[List.filter_cons]at hl
  cases hq:gC q o with
  |false=>
   simp only[hq,fR3,gT3]at hl
   exact(ih hl).imp_left up
  |true=>
   simp only[hq,gF3,hT3,look]at hl
   split at hl
   rename_i e
   subst e
   cases hl
   exact .inl ⟨hn,by simp[look],hq⟩
   grind
  exact .inr hl
def look_newOK_lt {n} {r} {q}:∀{h} {id},id<n->look (newOK q n h++r) id=look r id
 |[],id,hl=>rfl
 |.mark::h,id,hl=>rfl
 |.ob i o::h,id,hl=>by
  have ih:=look_newOK_lt (r:=r) (q:=q) (h:=h) hl
  unfold newOK at ih ⊢
  simp only[newEnts]
  split
  rename_i hn
  rw[List.filter_cons]
  cases hq:gC q o with
  |false=>simp only[hq,fR3,gT3];exact ih
  |true=>
   simp only[hq,gF3,hT3,look]
   rw[fM3 (by omega)]
   exact ih
  rfl
def Wf.newOK {n} {r} {q} (hr:Wf r n):∀{h} {m},Wf h m->n<=m->Wf (Sim.newOK q n h++r) m
 |[],m,_,hm=>hr.mono hm
 |.mark::h,m,_,hm=>hr.mono hm
 |.ob i o::h,m,hw,hm=>by
  unfold Sim.newOK
  simp only[newEnts]
  split
  rename_i hn
  have ih:=Wf.newOK (q:=q) hr hw.2 hn
  unfold Sim.newOK at ih
  rw[List.filter_cons]
  cases hq:gC q o with
  |false=>simp only[hq,fR3,gT3];exact ih.mono (gQ3 hw.1)
  |true=>simp only[hq,gF3,hT3];exact⟨hw.1,ih⟩
  exact hr.mono hm
def vT:aA mQ->aA Nat
 |[]=>[]
 |.mark::r=>vT r
 |.ob i _::r=>i::vT r
def Ip:∀a r,hide a (.mark::r)=.mark::hide a r
 |[],_=>rfl
 |id::a,r=>by
  show hide a (hide.rm id (.mark::r))=_
  show hide a (.mark::hide.rm id r)=_
  rw[Ip a]
  rfl
def Ef:∀a,hide a []=[]
 |[]=>rfl
 |_::a=>Ef a
def Cq {R} {id} (a:R.contains id=false):∀h:aA mQ,hide.rm id (jR R h)=jR R h
 |[]=>rfl
 |.mark::r=>by simp only[jR,hide.rm,Cq a r]
 |.ob i o::r=>by
  simp only[jR]
  cases hi:R.contains i with
  |false=>exact Cq a r
  |true=>
   simp only[fS3,hide.rm]
   rw[fM3 (fun e=>by subst e;rw[hi]at a;cases a),Cq a r]
def Iq {R}:∀a,(∀id∈a,R.contains id=false)->∀h,hide a (jR R h)=jR R h
 |[],_,_=>rfl
 |id::a,hi,h=>by
  show hide a (hide.rm id (jR R h))=_
  rw[Cq (hi id (by simp)),Iq a fun x b=>hi x (by simp[b])]
def Wi {i} {o}:∀a r,i∉a->hide a (.ob i o::r)=.ob i o::hide a r
 |[],_,_=>rfl
 |id::a,r,hi=>by
  simp only[fT3,iH3]at hi
  show hide a (hide.rm id (.ob i o::r))=_
  simp only[hide.rm,fM3 (Ne.symm hi.1),hide,fM3 hi.1]
  exact Wi a _ hi.2
def uM {R}:∀h,hide ((vT h).filter fun i=> !R.contains i) h=jR R h
 |[]=>Ef _
 |.mark::r=>by rw[show vT (.mark::r)=vT r from rfl,Ip,uM r];rfl
 |.ob i o::r=>by
  simp only[vT,jR]
  cases hi:R.contains i with
  |false=>
   rw[List.filter_cons_of_pos (by rw[hi];rfl)]
   show hide _ (hide.rm i (.ob i o::r))=_
   rw[show hide.rm i (.ob i o::r)=r by simp[hide.rm],uM r];rfl
  |true=>
   rw[List.filter_cons_of_neg (by rw[hi];simp),Wi _ _ (fun a=>by have:=(List.mem_filter.1 a).2;rw[hi]at this;cases this),uM r];rfl
def sX:∀a b h,hide (a++b) h=hide b (hide a h)
 |[],_,_=>rfl
 |x::a,b,h=>sX a b (hide.rm x h)
def rP {nb} {run} {b} {xs} {s s1} {v} {W} (h:callX nb run b xs s=some (v,s1,W)):
  ∃a s' w,(∀i,i∈b->i∈a)/\run {h:=hide a s.h,n:=s.n}=some (v,s')/\changed (look s'.h) (hide a s.h)=some w/\s1={h:=newOK (xF a s.n s'.n) s.n s'.h++updAll w s.h,n:=s'.n}/\W=w.map (·.1)/\
   entsOK (nT a s.n) (hide a s.h)=true/\xs.all (nameOK (nT a s.n) 6)=true/\nameOK (xF a s.n s'.n) 6 v=true/\
   w.all (fun e=>gC (xF a s.n s'.n) e.2)=true/\(nb=false->s'.n<=s.n+1048576):=by
 unfold callX at h;simp only at h;generalize rchX (look s.h) xs=R at h
 obtain⟨a,d,f,hp⟩:∃a,(∀i,i∈b->i∈a)/\hide b (jR R s.h)=hide a s.h/\∀id,(R.contains id&&(Nat.blt id s.n&& !b.contains id))=nT a s.n id:=by
  refine⟨((vT s.h).filter fun i=> !R.contains i)++(((List.range s.n).filter fun i=> !R.contains i)++b),fun i hi=>by simp[hi],?_,fun id=>?_⟩;rw[sX,sX,uM,Iq ((List.range s.n).filter fun i=> !R.contains i) fun id hi=>by simpa using(List.mem_filter.1 hi).2];simp only[nT];cases hlt:Nat.blt id s.n with
  |false=>simp
  |true=>
   simp only[hR3]at hlt;cases hr:R.contains id with
   |false=>simp only[gL3,gO3]at hr;simp[hlt,hr]
   |true=>simp only[gL3,fO3]at hr;simp[hr]
 simp only[f,hp]at h;split at h;rename_i h1;split at h;rename_i v' s' c;split at h;rename_i w hw;split at h;rename_i h2;simp only[fN3,gD3]at h;obtain⟨rfl,rfl,rfl⟩:=h;simp only[fF3,fW3]at h1 h2;exact⟨a,s',w,d,c,hw,rfl,rfl,h1.1,h1.2,h2.1.1,h2.1.2,fun hn=>fK3 (h2.2.resolve_left (by rw[hn];simp))⟩;cases h;cases h;cases h;cases h
def Tq {nb} {run run'} (hr:∀s r,run s=some r->run' s=some r) {hid} {xs} {s} {r} (h:callX nb run hid xs s=some r):callX nb run' hid xs s=some r:=by
 unfold callX at h ⊢;simp only at h ⊢;generalize hide hid (jR (rchX (look s.h) xs) s.h)=H at h ⊢;split at h
 grind
 cases h
def pZ {p}:∀{h},entsOK p h=true->∀id ao,look h id=some ao->gC p ao=true
 |[],_,id,ao,hl=>by cases hl
 |.mark::r,h,id,ao,hl=>pZ (h:=r) h id ao hl
 |.ob i o::r,h,id,ao,hl=>by
  simp only[entsOK,fF3]at h
  simp only[look]at hl
  split at hl
  cases hl;exact h.1
  exact pZ h.2 id ao hl
section
variable {P:Program} {g g2:Gh} {p:Nat->Bool}
def VR.names (l:g2.G=g.G) (hι:∀id,p id=true->g2.ι id=g.ι id):∀{d} {x} {X},nameOK p d x=true->VR g x X->VR g2 x X:=by
 have f:g2.still=g.still:=by simp[Gh.still,l]
 have b:∀a j,g2.cell a j=g.cell a j:=fun a j=>by simp[Gh.cell,l]
 intro d
 induction d with
 |zero=>intro x X h;simp[nameOK]at h
 |succ d ih=>
  intro x X h c;cases c with
  |v hg=>exact .v hg
  |ip hs hc hv=>exact .ip hs (fun j x c=>by rw[b];exact hc j x c) (fun j x y c hy=>by rw[f];rw[b]at hy;exact hv j x y c hy)
  |is hs hl hr hc hv=>exact .is hs hl hr (fun i row j x h1 h2=>by rw[b];exact hc i row j x h1 h2) (fun i row j x y h1 h2 hy=>by rw[f];rw[b]at hy;exact hv i row j x y h1 h2 hy)
  |is0=>exact .is0
  |es=>exact .es
  |ptr hi hver hp=>exact .ptr ((hι _ (by simpa[nameOK]using h)).trans hi) hver hp
  |sl hi hver hlen hs hp=>exact .sl ((hι _ (by simpa[nameOK]using h)).trans hi) hver hlen hs hp
  |map hi hp=>exact .map ((hι _ (by simpa[nameOK]using h)).trans hi) hp
  |im hb hl hk hv=>exact .im (by rw[l];exact hb) hl (fun i k x e h1 h2=>by rw[f];exact hk i k x e h1 h2) (fun i k x e h1 h2=>by rw[f];exact hv i k x e h1 h2)
  |fn h1 h2 v1 v2=>
   simp only[nameOK,fF3,fH3]at h;exact .fn h1 h2 (fun i x y c hy=>ih (h.1.2 x (fL3 c)) (v1 i x y c hy)) (fun i x y c hy=>ih (h.2 x (fL3 c)) (v2 i x y c hy))
  |yield hi hp=>
   simp only[nameOK,fF3]at h;exact .yield ((hι _ h.1.1).trans hi) hp
  |agg hl hc hv=>
   simp only[nameOK,fH3]at h;exact .agg hl hc (fun i x y c hy=>ih (h x (fL3 c)) (hv i x y c hy))
  |tup hl hv=>
   simp only[nameOK,fH3]at h;exact .tup hl (fun i x y c hy=>ih (h x (fL3 c)) (hv i x y c hy))
def TR.names (c:g2.G=g.G) (hι:∀id,p id=true->g2.ι id=g.ι id) {d} {l} {vs} (h:l.all (nameOK p d)=true) (a:TR g l vs):TR g2 l vs:=
 ⟨a.1,fun i x y b hy=>VR.names c hι (fH3.1 h x (fL3 b)) (a.2 i x y b hy)⟩
def OR.names (m:g2.G=g.G) (hι:∀id,p id=true->g2.ι id=g.ι id) {w} {id} {ao} (c:g2.ι id=g.ι id) (h:gC p ao=true) (s:OR P g w id ao):OR P g2 w id ao:=by
 cases ao with
 |arr bx ty esz ver els=>
  obtain⟨loc,cs,h1,h2,f,l,d,n,o,q,r⟩:=s;simp only[gC,fH3]at h;refine⟨loc,cs,c.trans h1,h2,f,l,d,n,o,q,fun i row j x a b=>?_⟩;obtain⟨y,t,u,v⟩:=r i row j x a b;exact⟨y,t,u,VR.names m hι (h row (fL3 a) x (fL3 b)) v⟩
 |map es=>
  obtain⟨loc,ents,clock,h1,h2,f,l,d⟩:=s;simp only[gC,fH3,fF3]at h;refine⟨loc,ents,clock,c.trans h1,h2,f,l,fun i k x e a b=>?_⟩;have:=h (k,x) (fL3 a);exact⟨VR.names m hι this.1 (d i k x e a b).1,VR.names m hι this.2 (d i k x e a b).2⟩
 |loop st pend tmps params assign body=>
  obtain⟨loc,L,h1,h2,f,l,d,n,o,q,r⟩:=s;simp only[gC]at h;exact⟨loc,L,c.trans h1,h2,f,l,d,TR.names m hι h n,o,q,r⟩
def OR.some {w} {id} {ao} (h:OR P g w id ao):g.ι id≠none:=by
 cases ao with
 |arr bx ty esz ver els=>obtain⟨loc,cs,h1,_⟩:=h;rw[h1];simp
 |map es=>obtain⟨loc,ents,clock,h1,_⟩:=h;rw[h1];simp
 |loop st pend tmps params assign body=>obtain⟨loc,L,h1,_⟩:=h;rw[h1];simp
def nU {q} (c:∀i,p i=true->q i=true):∀{d} {x},nameOK p d x=true->nameOK q d x=true
 |0,_,h=>by simp[nameOK]at h
 |d+1,x,h=>by
  have ih:∀{x},nameOK p d x=true->nameOK q d x=true:=fun h=>nU c h
  cases x with
  |fn f a b=>
   simp only[nameOK,fF3,fH3]at h ⊢
   refine⟨⟨?_,fun x e=>ih (h.1.2 x e)⟩,fun x e=>ih (h.2 x e)⟩
   cases f<;>simp_all
  |agg cs=>simp only[nameOK,fH3]at h ⊢;exact fun x e=>ih (h x e)
  |tup cs=>simp only[nameOK,fH3]at h ⊢;exact fun x e=>ih (h x e)
  |ptr=>exact c _ (by simpa[nameOK]using h)
  |sl=>exact c _ (by simpa[nameOK]using h)
  |map=>exact c _ (by simpa[nameOK]using h)
  |_=>simp[nameOK]
def Ts {q} (a:∀i,p i=true->q i=true) {ao} (h:gC p ao=true):gC q ao=true:=by
 cases ao with
 |arr bx ty esz ver els=>simp only[gC,fH3]at h ⊢;exact fun r hr x b=>nU a (h r hr x b)
 |map es=>simp only[gC,fH3,fF3]at h ⊢;exact fun r hr=>⟨nU a (h r hr).1,nU a (h r hr).2⟩
 |loop st pend tmps params assign body=>simp only[gC,fH3]at h ⊢;exact fun x b=>nU a (h x b)
def Gh.only (g:Gh) (p:Nat->Bool):Gh:={G:=g.G,ι:=fun id=>if p id then g.ι id else none}
def Gh.only_pos {id} (h:p id=true):(g.only p).ι id=g.ι id:=fJ3 h
def WG.only {w} (h:WG g w):WG (g.only p) w:=by
 have up:∀id loc,(g.only p).ι id=some loc->g.ι id=some loc:=fun id loc h=>by
  simp only[Gh.only]at h;split at h;exact h;cases h
 exact⟨h.still,fun id loc hi=>h.lt id loc (up id loc hi),fun id loc hi=>h.out id loc (up id loc hi),fun id id' loc loc' h1 h2=>h.inj id id' loc loc' (up id loc h1) (up id' loc' h2)⟩
open Classical in
noncomputable def Gh.back (g g':Gh) (p:Nat->Bool) (n:Nat):Gh:={G:=g'.G,ι:=fun id=>if p id=false/\(id<n\/g.ι id≠none)then g.ι id else g'.ι id}
def xG {g'} {id n} (h:p id=true):(g.back g' p n).ι id=g'.ι id:=by
 simp only[Gh.back];rw[fM3 (fun hc=>by rw[h]at hc;cases hc.1)]
def Eg {g'} {id n} (h:p id=false) (hi:g.ι id≠none):(g.back g' p n).ι id=g.ι id:=fJ3 ⟨h,.inr hi⟩
def lY1 {g'} {n} (h:(g.only p).le g'):g.le (g.back g' p n):=by
 refine⟨h.G,fun id loc hi=>?_⟩;cases hp:p id with
 |true=>
  rw[xG hp];exact h.ι id loc ((Gh.only_pos hp).trans hi)
 |false=>
  rw[Eg hp (by rw[hi];simp)];exact⟨loc,hi,fI3 _,fun _=>rfl⟩
def eN1 {lim n} {g'} {w w'} (h:sU lim (g.only p) g' w w') (d:WG g w) (c:WG g' w'):sU lim g (g.back g' p n) w w'/\WG (g.back g' p n) w':=by
 have up:∀id loc,(g.only p).ι id=some loc->g.ι id=some loc:=fun id loc h=>by
  simp only[Gh.only]at h;split at h;exact h;cases h
 have a:∀id loc,(g.back g' p n).ι id=some loc->(p id=false/\g.ι id=some loc)\/g'.ι id=some loc:=fun id loc hi=>by
  simp only[Gh.back]at hi;split at hi
  grind
  exact .inr hi
 refine⟨⟨lY1 h.le,h.size,fun b hb hn=>h.keep b hb (fun id loc hl hi=>hn id loc hl (up id loc hi)),fun id loc hi=>?_,fun id hl=>?_,h.os,h.tape,h.output,h.gfresh,h.loops⟩,⟨c.still,fun id loc hi=>?_,fun id loc hi=>?_,fun id id' loc loc' h1 h2 e=>?_⟩⟩;rcases a id loc hi with⟨_,h1⟩|h1
 grind
 rcases h.fresh id loc h1 with⟨t,h2,m⟩|h2
 grind
 exact .inr h2;cases hp:p id with
 |true=>rw[xG hp,h.old id hl,Gh.only_pos hp]
 |false=>
  by_cases hi:g.ι id=none;simp only[Gh.back];split;rfl;rw[h.old id hl,hi];simp[Gh.only,hp];exact Eg hp hi
 rcases a id loc hi with⟨_,h1⟩|h1;exact gN3 (d.lt id loc h1) h.size;exact c.lt id loc h1;show g'.G loc.b=none
 rcases a id loc hi with⟨_,h1⟩|h1;cases hG:g'.G loc.b with
 |none=>rfl
 |some o=>
  rcases h.gfresh _ _ hG with k|k;have k:g.G loc.b=some o:=k;rw[d.out id loc h1]at k;cases k;have:=d.lt id loc h1;omega
 exact c.out id loc h1
 have u:∀i j l l',p i=false->g.ι i=some l->g'.ι j=some l'->l.b=l'.b->i=j:=by
  intro i j l l' hp h1 h2 e;rcases h.fresh j l' h2 with⟨s,m,v⟩|m;exact d.inj i j l s h1 (up j s m) (by omega);have:=d.lt i l h1;omega
 rcases a id loc h1 with⟨hp,r⟩|r;rcases a id' loc' h2 with⟨q,f⟩|f;exact d.inj id id' loc loc' r f e
 grind
 rcases a id' loc' h2 with⟨q,f⟩|f
 grind
 exact c.inj id id' loc loc' r f e
end
end Go.Sim
namespace Go.Sim
section
variable {P:Program} {T:mO} {ex:Nat->Bool->IC->St->Option (Ex×St)} {lim n:Nat} {g:Gh} {w:World}
def sY {l} {s} {st} {pend} {tmps} {params} {assign bd} (a:oC P g w s) (c:look s.h l=some (.loop st pend tmps params assign bd)):
  ∃loc R,g.ι l=some loc/\loc.ver=0/\w.heap[loc.b]? =some (.loop R)/\R.state=st/\
   Wa pend R.pending/\TR g tmps R.tmps.toList/\R.params=params.toArray/\comp P R.assign=some assign/\comp P R.body=some bd:=a.H l _ c
def Eh {l} {s} {st st'} {pend pend'} {tmps} {params} {assign bd} (c:oC P g w s) (p:look s.h l=some (.loop st pend tmps params assign bd)) (f:lim<=l)
  {loc} {R R'} (hi:g.ι l=some loc) (hb:w.heap[loc.b]? =some (.loop R)) (h1:R'.state=st')
  (h2:Wa pend' R'.pending) (t:R'.tmps=R.tmps) (u:R'.params=R.params) (v:R'.assign=R.assign) (x:R'.body=R.body):
  oC P g {w with heap:=w.heap.setIfInBounds loc.b (.loop R')} {h:=upd s.h l (.loop st' pend' tmps params assign bd),n:=s.n}/\sU lim g g w {w with heap:=w.heap.setIfInBounds loc.b (.loop R')}:=by
 obtain⟨loc',R0,q,z,r,E,F,A,B,C,D⟩:=sY c p;rw[hi]at q;cases q;rw[hb]at r;cases r;have i:=c.W.lt l loc hi;have a:∀b,b≠loc.b->(w.heap.setIfInBounds loc.b (.loop R'))[b]? =w.heap[b]? :=fun b hb=>by simp[Ne.symm hb]
 refine⟨⟨?_,⟨?_,?_,c.W.out,c.W.inj⟩,c.dom,c.wf.upd _ _⟩,⟨.refl g,by simp,?_,fun id loc h=>.inl ⟨loc,h,rfl⟩,fun _ _=>rfl,rfl,rfl,rfl,fun _ _ h=>.inl h,fun b R1 h=>by
  by_cases e:b=loc.b;exact⟨R',by rw[e];simp[i]⟩;exact⟨R1,(a b e).trans h⟩⟩⟩
 intro id ao j;simp only[look_upd]at j;split at j;rename_i hc;obtain⟨rfl,_⟩:=hc;cases j;exact⟨loc,R',hi,z,by simp[i],h1,h2,by rw[t];exact A,by rw[u];exact B,by rw[v];exact C,by rw[x];exact D⟩;rename_i hc;have m:id≠l:=fun e=>hc ⟨e,by rw[p];rfl⟩;exact(c.H id ao j).mono (.refl g) rfl (fun d k=>a _ (fun e=>m (c.W.inj id l d loc k hi e)));intro b o h;rw[a b (fun e=>by subst e;rw[c.W.out l loc hi]at h;cases h)];exact c.W.still b o h;intro id d h;simpa using c.W.lt id d h;intro b y hn;exact a b (fun e=>hn l loc f hi e.symm)
def nV {b} {R} (hb:w.heap[b]? =some (.loop R)):(Instr.getLoop b).run P w=.ok R w:=by
 simp[Instr.getLoop,getObj,Sem.run,hb]
def sZ {b} {R} (hb:w.heap[b]? =some (.loop R)) (o:Obj):(setObj b o).run P w=.ok () {w with heap:=w.heap.setIfInBounds b o}:=by
 simp[setObj,Sem.run,hb]
def Ei {b} {R} (hb:w.heap[b]? =some (.loop R)) (hr:R.state=.ready):(Instr.beginRound b).run P w=.ok () {w with heap:=w.heap.setIfInBounds b (.loop {R with state:=.busy})}:=by
 simp[Instr.beginRound,nV hb,sZ hb,hr]
def Kr {b} {R} (hb:w.heap[b]? =some (.loop R)) (jump:aB Code):
  (Instr.endRound b jump).run P w=.ok (.bool jump.isNone) {w with heap:=w.heap.setIfInBounds b (.loop {R with state:=if jump.isNone then .ready else .done,pending:=jump})}:=by
 simp[Instr.endRound,nV hb,sZ hb]
def Ir:∀(ps:aA Nat) (t args:aA AV) (tmps:Array Value) (Args:aA Value),TR g t tmps.toList->TR g args Args->
  TR g (putAll t ps args) ((ps.zip Args).foldl (fun tmps (p:Nat×Value)=>tmps.setIfInBounds p.1 p.2) tmps).toList
 |[],t,args,tmps,Args,ht,ha=>by
  simpa[putAll]using ht
 |p::ps,t,[],tmps,[],ht,ha=>by simpa[putAll]using ht
 |p::ps,t,[],tmps,_::_,ht,ha=>by have:=ha.1;simp at this
 |p::ps,t,_::_,tmps,[],ht,ha=>by have:=ha.1;simp at this
 |p::ps,t,x::args,tmps,y::Args,ht,ha=>by
  simp only[putAll,List.zip_cons_cons,List.foldl_cons]
  refine Ir ps _ args _ Args ?_ ha.tail
  simpa using ht.set ha.head p
def qJ {l} {s s'} {st} {pend} (h:endRound l s st pend=some s'):
  ∃b a tmps params assign bd,look s.h l=some (.loop b a tmps params assign bd)/\s'={h:=upd s.h l (.loop st pend tmps params assign bd),n:=s.n}:=by
 unfold Sim.endRound at h;split at h
 grind
 cases h
def eO1 (C:qI P ex) {l} {args} {Args} {s s'} {v} (h:round ex lim l args s=some (v,s')) (ht:TR g args Args.toList) (Z:oC P g w s) (hl:lim<=s.n):
  ∃(loc:Zk) (R:Loop),g.ι l=some loc/\loc.ver=0/\w.heap[loc.b]? =some (.loop R)/\R.params.size=Args.size/\
   ∀(r:aB Nat) (n:Nat),RoundIn (FW r) n P loc.b R.fn ((R.params.zip Args).foldl (fun tmps (p:Tmp×Value)=>tmps.setIfInBounds p.1 p.2) R.tmps) R.assign R.body w (mJ P lim g w s v s'):=by
 unfold Sim.round at h;split at h;rename_i b5 W tmps params assign bd hL;split at h;rename_i hc;obtain⟨o,b4⟩:=hc;obtain⟨loc,R,k1,k2,k3,k4,k5,k6,k7,k8,k9⟩:=sY Z hL;have O:R.params.size=Args.size:=by rw[k7];have:=ht.1;simp at this ⊢;omega
 refine⟨loc,R,k1,k2,k3,O,fun r n=>?_⟩;split at h;rename_i σ i;split at h;rename_i k x j f G A
 have T:TR g (putAll tmps params args) ((R.params.zip Args).foldl (fun tmps (p:Tmp×Value)=>tmps.setIfInBounds p.1 p.2) R.tmps).toList:=by
  have:=Ir params tmps args R.tmps Args.toList k6 ht;rw[k7]
  have e:(params.toArray.zip Args).foldl (fun tmps (p:Tmp×Value)=>tmps.setIfInBounds p.1 p.2) R.tmps=(params.zip Args.toList).foldl (fun tmps (p:Nat×Value)=>tmps.setIfInBounds p.1 p.2) R.tmps:=by
   rw[<-Array.foldl_toList];simp
  rw[e];exact this
 refine roundIn_of_wpIn trivial ?_;refine wpIn_mono (C lim true assign _ .normal σ i R.assign k8 (some loc.b) rfl g {tmps:=_,defers:=[]} w n w.heap.size (fun b hb=>by cases hb;exact⟨R,k3⟩) T Z hl (fI3 _) trivial) ?_;rintro e1 a1 w1 ⟨rfl,g1,m⟩;simp only[Ex.toExit,Exit.then];obtain⟨a,R1,U,m2,V,m4,m5,m6,m7,m8,m9⟩:=sY m.inv A
 have M:a=loc:=by
  obtain⟨loc',q1,q2,q3⟩:=m.ext.le.ι l loc k1;rw[U]at q1;cases q1;exact q3 (by omega)
 subst M;obtain⟨J,q⟩:=Eh (lim:=lim) (st':=.busy) (pend':=k) (R':={R1 with state:=.busy}) m.inv A o U V rfl m5 rfl rfl rfl rfl;refine⟨_,Ei V m4,?_⟩
 have d:∀(e:Ex) (τ:St),ex lim true bd {t:=σ.t,s:={h:=upd σ.s.h l (.loop .busy k x j f G),n:=σ.s.n}}=some (e,τ)->∀(st:LoopState) (pend:aB IC) (jump:aB Code) (b:Bool),
   endRound l τ.s st pend=some s'->v=.bool b->b=jump.isNone->st=(if jump.isNone then .ready else .done)->
   Wa pend jump->
   (∀(a':Act) (w':World),(∃v' F,(Instr.endRound a.b jump).run P w'=.ok v' F/\mJ P lim g w s v s' (.returned v') F)->roundPost P a.b (mJ P lim g w s v s') e.toExit a' w')->
   R.body.wpIn (FW (some a.b)) n P (roundPost P a.b (mJ P lim g w s v s')) a1 {w1 with heap:=w1.heap.setIfInBounds a.b (.loop {R1 with state:=.busy})}:=by
  intro e τ hb st pend jump b c hv L S N u;refine wpIn_mono (C lim true bd _ e τ hb R.body k9 (some a.b) rfl g1 a1 _ n w.heap.size (fun b hb=>by cases hb;exact q.loops _ _ V) m.t J (gH3 hl m.n) (by have:=m.ext.size;simpa using this) (m.marks.ext q)) ?_;rintro e2 a2 w2 ⟨rfl,g2,z⟩;refine u a2 w2 ?_;obtain⟨b6,X,Y,params3,y,b0,B,rfl⟩:=qJ c;obtain⟨E,R3,q1,q2,q3,q4,q5,q6,q7,q8,q9⟩:=sY z.inv B
  have D:E=a:=by
   obtain⟨loc',p1,p2,p3⟩:=z.ext.le.ι l a U;rw[q1]at p1;cases p1;exact p3 (by omega)
  subst D
  obtain⟨K,H⟩:=Eh (lim:=lim) (st':=st) (pend':=pend) (R':={R3 with state:=if jump.isNone then .ready else .done,pending:=jump}) z.inv B o q1 q3 S.symm
   N rfl rfl rfl rfl
  refine⟨_,_,Kr q3 jump,_,g2,rfl,?_,K,((m.ext.trans q).trans z.ext).trans H,?_⟩;rw[hv,L];exact .v rfl;have h1:s.n<=σ.s.n:=m.n;have h2:σ.s.n<=τ.s.n:=z.n;simp only at h2 ⊢;omega
 split at h;rename_i τ hb;simp only[fG3,gD3]at h;obtain⟨s2,c,rfl,rfl⟩:=h;exact d .normal τ hb .ready none none true c rfl rfl rfl rfl (fun a' w' h=>h);rename_i τ hb;simp only[fG3,gD3]at h;obtain⟨s2,c,rfl,rfl⟩:=h;exact d .ret τ hb .done (some .ret) (some .ret) false c rfl rfl rfl rfl (fun a' w' h=>h);rename_i id τ hb;simp only[fG3,gD3]at h;obtain⟨s2,c,rfl,rfl⟩:=h;exact d (.exit id) τ hb .done (some (.exit id)) (some (.exit id)) false c rfl rfl rfl rfl (fun a' w' h=>h);cases h;cases h;cases h;cases h;cases h
end
end Go.Sim
namespace Go.Sim
variable {a:Act} {k:iV} {o:Oper} {os:aA Operand} {s:Hp} {v:AV} {xs:aA AV}
section
variable {P:Program} {T:mO} {ex:Nat->Bool->IC->St->Option (Ex×St)} {lim n:Nat} {g:Gh} {w:World} {r:Option Nat}
def Bk {fn} {pure frz} {ifn} (h:nY P fn pure frz=some ifn):(∃c,fn.body=some c)/\(fn.name== "runtime.NumGoroutine")=false:=by
 unfold nY at h;split at h;cases h
 grind
def Zw {ρ} {o} {fv} {args} {at_} {f} {F C} {fn} {c} (e:o.op=.call {callee:=.value fv,args:=args,argTypes:=at_}) (d:ρ fv=.func (.func f) F C)
  (hf:P.funcs[f]? =some fn) (hb:fn.body=some c) (b:(fn.name== "runtime.NumGoroutine")=false):(execOp ρ o).run P w=.ok (.enter f (F++args.map ρ++C)) w:=by
 have a:¬fn.name= "runtime.NumGoroutine":=by simpa using b
 simp[execOp,e,resolve,d,Deferred.ofValue,invoke,callFunc,hf,a,hb]
def Zx {ρ} {o} {fv} {args} {at_} {b} {R} (d:o.op=.call {callee:=.value fv,args:=args,argTypes:=at_}) (c:ρ fv=.func (.yield b) #[] #[])
  (hb:w.heap[b]? =some (.loop R)) (a:R.params.size=args.size):(execOp ρ o).run P w=.ok (.round b R.fn ((R.params.zip (args.map ρ)).foldl (fun tmps (p:Tmp×Value)=>tmps.setIfInBounds p.1 p.2) R.tmps) R.assign R.body) w:=by
 simp[execOp,d,resolve,c,Deferred.ofValue,invoke,Instr.yield,nV hb,a]
def rQ {o} {ρ} (r:aB Nat) (h:∀c,o.op≠.defer c):Oper.semAt r ρ o=execOp ρ o:=by
 cases r with
 |none=>exact Oper.semAt_none ..
 |some l=>
  unfold Oper.semAt;cases ho:o.op<;>first|rfl|exact absurd ho (h _)
def xH {o} {ty} {k} {os} (h:kR P o ty=some (k,os)):∀c,o≠.defer c:=by
 rintro c rfl;simp[kR]at h
def eP1 {out:Out} (x:kR P o.op o.type=some (k,os)) (hd:doOp (look s.h) lim s.n k xs=some out) (A:TR g xs (os.map a.eval)) (d:oC P g w s)
  (hl:lim<=s.n) {next:Act->World->Prop} {Q:Exit->Act->World->Prop} (b:∀V g' w',VR g' out.v V->oC P g' w' (out.apply s)->sU lim g g' w w'->s.n<=(out.apply s).n->next (a.put o.dst V) w'):
  o.wpIn (FW r) n P a w next Q:=by
 have hn:g.ι s.n=none:=by
  cases h:g.ι s.n with
  |none=>rfl
  |some l=>have:=d.dom s.n (by rw[h];simp);omega
 obtain⟨V,nx,g',w',m,t,hv,y,z,u,f⟩:=vQ a.eval o x A hd d.H d.W hn hl
 have e:oC P g' w' (out.apply s):=by
  have q:∀id ao,look (out.apply s).h id=some ao->out.after (look s.h) s.n id=some ao:=by
   intro id ao h;cases c:out.up with
   |none=>
    cases hw:out.new with
    |none=>simpa[Out.apply,Out.after,Out.base,c,hw]using h
    |some ob=>
     simp only[Out.apply,c,hw,look]at h;simp only[Out.after,Out.base,c,hw];split at h
     .grind
     .grind
   |some p=>
    obtain⟨i,ob'⟩:=p
    have h2:∀id ao,look (upd s.h i ob') id=some ao->(if id=i then some ob' else look s.h id)=some ao:=by
     intro id ao h;rw[look_upd]at h;split at h
     .grind
     .grind
    cases hw:out.new with
    |none=>
     simp only[Out.apply,c,hw]at h;simpa only[Out.after,Out.base,c,hw]using h2 id ao h
    |some ob=>
     simp only[Out.apply,c,hw,look]at h;simp only[Out.after,Out.base,c,hw];split at h
     .grind
     .grind
  refine⟨fun id ao h=>y id ao (q id ao h),z,fun id h=>?_,?_⟩
  .rcases f id h with h1|⟨rfl,h2⟩
   .have:=d.dom id h1
    simp only[Out.apply];split
    .simp only;omega
    .exact this
   .simp only[Out.apply]
    split
    .simp
    .grind
  .have c:Wf (match out.up with|some (id,ob)=>upd s.h id ob|none=>s.h) s.n:=by
    split
    .exact d.wf.upd _ _
    .exact d.wf
   simp only[Out.apply];split
   .exact ⟨by simp,c⟩
   .exact c
 have j:s.n<=(out.apply s).n:=by
  simp only[Out.apply];split
  .simp
  .exact fI3 _
 refine⟨fun _ _=>trivial,?_⟩;rw[rQ _ (xH x),m];rcases t with rfl|⟨rfl,rfl⟩
 .exact b V g' w' hv e u j
 .exact b undef g' w' hv e u j
def qA {o} {ty} {os} {k} (h:kR P o ty=some (k,os)) (hk:k=.callV\/∃f,k=.callF f):
  ∃c d,o=.call c/\c.callee=.value d/\((∃f,k=.callF f/\d=.func f/\os=c.args.toList)\/(k=.callV/\os=d::c.args.toList)):=by
 have e:∀b a ty,kY P b a ty≠some .callV/\∀f,kY P b a ty≠some (.callF f):=by
  intro b a ty;constructor
  .intro h
   unfold kY at h;split at h<;>(repeat' split at h)<;>cases h
  .intro f h
   unfold kY at h;split at h<;>(repeat' split at h)<;>cases h
 cases o
 case call c=>
  simp only[kR]at h;split at h
  .grind
  .grind
  .rename_i b hc
   simp only[fG3,gD3]at h;obtain⟨k',h1,rfl,rfl⟩:=h;rcases hk with rfl|⟨f,rfl⟩
   .grind
   .grind
  .cases h
 all_goals (rcases hk with rfl|⟨f,rfl⟩<;>exfalso<;>simp only[kR]at h<;>(repeat' split at h)<;>simp_all)
def uN (p:kJ P T) {c:Call} {j:Operand} {f:FuncId} {first cap:Array Value} {ifn:IFn} (k:o.op=.call c) (hc:c.callee=.value j) (q:a.eval j=.func (.func f) first cap) (g:T f=some ifn)
  {R:Ending->World->Prop} (b:CallsIn (FW none) (n-1) P f (first++c.args.map a.eval++cap) w R) {next:Act->World->Prop} {Q:Exit->Act->World->Prop} (m:∀e w',R e w'->∃V,e=.returned V/\next (a.put o.dst V) w'):
  o.wpIn (FW r) n P a w next Q:=by
 obtain⟨fn,hf,i⟩:=p.fns f ifn g;obtain⟨⟨s,hb⟩,d⟩:=Bk i;obtain⟨callee,args,l⟩:=c;simp only at hc;subst hc;refine⟨fun _ _=>trivial,?_⟩;rw[rQ _ (fun c h=>by rw[k]at h;cases h),Zw k q hf hb d];refine⟨fun h=>(by cases h),CallsIn.mono (Eb b) ?_⟩;intro e w' he;obtain⟨V,rfl,h⟩:=m e w' he;exact h
def Ks (u:qI P ex) (K:kJ P T) {s':Hp} (L:(kR P o.op o.type).getD (.fail,[])=(k,os)) (h:step T ex lim k xs s=some (v,s'))
  (E:TR g xs (os.map a.eval)) (J:oC P g w s) (hl:lim<=s.n) {next:Act->World->Prop} {Q:Exit->Act->World->Prop}
  (m:∀V g' w',VR g' v V->oC P g' w' s'->sU lim g g' w w'->s.n<=s'.n->next (a.put o.dst V) w'):o.wpIn (FW r) n P a w next Q:=by
 cases hco:kR P o.op o.type with
 |none=>
  rw[hco]at L;cases L;simp only[step,zO]at h;cases h
 |some p=>
  rw[hco]at L;cases L
  have plain:∀out,doOp (look s.h) lim s.n k xs=some out->(out.v,out.apply s)=(v,s')->o.wpIn (FW r) n P a w next Q:=by
   intro out hd he;cases he;exact eP1 hco hd E J hl m
  unfold step at h;split at h
  .rename_i f
   obtain⟨c,N,h1,h2,O⟩:=qA hco (.inr ⟨f,rfl⟩);rcases O with⟨f',B,Z,S⟩|⟨B,_⟩
   .cases B
    subst Z
    have d:∃ifn,T f=some ifn:=by
     unfold callF at h;split at h
     .cases h
     .grind
    obtain⟨ifn,d⟩:=d;have j:TR g xs (#[]++c.args.map a.eval++#[]).toList:=by rw[S]at E;simpa using E
    exact uN K h1 h2 rfl d (xC u K h j J hl) (fun e w' he=>by
     obtain⟨V,g',rfl,z,G,H,A⟩:=he;exact⟨V,rfl,m V g' w' z G H A⟩)
   .cases B
  .obtain ⟨c,N,h1,h2,O⟩:=qA hco (.inl rfl)
   rcases O with⟨f',B,_⟩|⟨_,S⟩
   .cases B
   .subst S
    split at h
    .rename_i fa args
     have t:=E.head;have j:=E.tail;unfold callV at h;split at h
     .rename_i f first cap
      generalize hV:a.eval N=V at t;cases t with
      |@fn _ _ _ _ F C l1 l2 v1 v2=>
       have d:∃ifn,T f=some ifn:=by
        unfold callF at h;split at h
        .cases h
        .grind
       obtain⟨ifn,d⟩:=d;have hF:TR g first F.toList:=⟨by simpa using l1,fun i x y W hy=>v1 i x y W (by simpa using hy)⟩
       have hC:TR g cap C.toList:=⟨by simpa using l2,fun i x y W hy=>v2 i x y W (by simpa using hy)⟩
       have D:TR g (first++args++cap) (F++c.args.map a.eval++C).toList:=by
        have:=(hF.app j).app hC;simpa using this
       exact uN K h1 h2 hV d (xC u K h D J hl) (fun e w' he=>by
        obtain⟨V,g',rfl,z,G,H,A⟩:=he;exact⟨V,rfl,m V g' w' z G H A⟩)
     .rename_i l
      generalize hV:a.eval N=V at t;cases t with
      |@yield _ _ b loc hi hp=>
       have q:TR g args (c.args.map a.eval).toList:=by simpa using j
       obtain⟨loc',R,z,G,H,A,X⟩:=eO1 u h q J hl;rw[hi]at z;cases z;have U:=hp G;subst U;obtain⟨callee,M,Y⟩:=c;simp only at h2 A X;subst h2;refine⟨fun _ _=>trivial,?_⟩;rw[rQ _ (fun c h=>by rw[h1]at h;cases h),Zx h1 hV H (by simpa using A)];refine⟨fun h=>(by cases h),RoundIn.mono (X r (n-1)) ?_⟩;rintro e w' ⟨V,g',rfl,q1,q2,q3,q4⟩;exact m V g' w' q1 q2 q3 q4
     .cases h
    .cases h
  .grind
def uA1 {t:aA AV} {i:Nat} (b:TR g t a.tmps.toList) (hv:t[i]? =some v):i<a.tmps.size:=by
 have h1:t.length=a.tmps.size:=by simpa using b.1
 have h2:=(fE3.1 hv).1;omega
def Kt {t:aA AV} {x:Operand} {j:IX} (e:TR g t a.tmps.toList) (b:Hm x=some j) (hv:j.ev t=some v):VR g v (a.eval x):=by
 cases x with
 |tmp i=>
  simp only[Hm,fN3]at b;subst b;simp only[IX.ev]at hv;have d:i<a.tmps.size:=uA1 e hv;have:a.eval (.tmp i)=a.tmps[i]:=by simp[Act.eval,d]
  rw[this];exact e.2 i v _ hv (by simp[d])
 |const c=>
  simp only[Hm,fG3]at b;obtain⟨k,h1,rfl⟩:=b;simp only[IX.ev,fN3]at hv;subst hv;show VR g k c
  unfold AV.ofValue at h1;split at h1;rename_i cs;split at h1;rename_i hc;cases h1
  refine .agg (by simp) (fun i y hy=>nL (fH3.1 hc y (by
   rw[<-hJ3]at hy;exact fQ3.2 ⟨i,hy⟩))) (fun i x y b hy=>?_)
  rw[<-hJ3]at hy;simp only[gG3,hy,gB3,fN3]at b;subst b;exact .v (fH3.1 hc y (fQ3.2 ⟨i,hy⟩));cases h1;rename_i cs;split at h1;rename_i hc;cases h1;have:cs=#[]:=by grind
  subst this;exact .tup (by simp) (fun i x y b=>by simp at b);cases h1;split at h1;rename_i hc;cases h1;exact .v hc;cases h1
 |global g=>simp[Hm]at b
 |func f=>
  simp only[Hm,fN3]at b;subst b;simp only[IX.ev,fN3]at hv;subst hv;exact .fn (by simp) (by simp) (fun i x y h=>by simp at h) (fun i x y h=>by simp at h)
def tA {a:Act} {t:aA AV} (c:TR g t a.tmps.toList):∀{os} {b} {xs},Nu os=some b->evs t b=some xs->TR g xs (os.map a.eval)
 |[],b,xs,h,hx=>by
  simp only[Nu,mapO,fN3]at h
  subst h
  simp only[evs,fN3]at hx
  subst hx
  exact .nil g
 |o::os,b,xs,h,hx=>by
  simp only[Nu,mapO]at h
  split at h
  rename_i f dS h1 h2
  cases h
  simp only[evs]at hx
  split at hx
  rename_i v vs d e
  cases hx
  exact .cons (Kt c h1 d) (tA c h2 e)
  cases hx
  cases h
def Tt {t:aA AV} (b:TR g t a.tmps.toList) {V:Value} (hv:VR g v V) (d:aB Nat):TR g (put t d v) (a.put d V).tmps.toList:=by
 cases d with
 |none=>exact b
 |some i=>simpa[put,Act.put]using b.set hv i
def qK {ops} {o} {io} (h:mR P ops o=some io):
    ∃os,(kR P o.op o.type).getD (.fail,[])=(io.k,os)/\Nu os=some io.xs/\io.dst=o.dst/\
      (match o.guard with
       |none=>io.guard=none
       |some (j,b)=>∃a d,ops[j]? =some a/\a.dst=some d/\io.guard=some (d,b)):=by
  unfold mR at h;generalize hc:(kR P o.op o.type).getD (.fail,[])=kx at h;obtain⟨k,xs⟩:=kx;simp only at h;split at h;cases h
  grind
def Wj:Value->aB Bool
 |.bool b=>some b
 |_=>none
def eQ1:AV->aB Bool
 |.v x=>Wj x
 |_=>none
def VR.boolCell {x} {X} (h:VR g x X):Wj X=eQ1 x:=by
 cases h<;>rfl
def Is {t:aA AV} (f:TR g t a.tmps.toList) {ops:Array Oper} {io:Sim.Op1} (h:mR P ops.toList o=some io):Region.wanted o (yielded ops a.tmps)=Sim.wanted t io.guard:=by
 obtain⟨os,h1,h2,q,c⟩:=qK h;unfold Region.wanted;cases hg:o.guard with
 |none=>rw[hg]at c;simp only at c;rw[c];rfl
 |some p=>
  obtain⟨j,b⟩:=p;rw[hg]at c;obtain⟨n,d,k,l,m⟩:=c;rw[m];simp only[Sim.wanted,yielded];have:ops[j]? =some n:=by simpa using k
  rw[this];simp only[fD3,l];cases hx:t[d]? with
  |none=>
   have:a.tmps[d]? =none:=by
    have h1:t.length=a.tmps.size:=by simpa using f.1
    rw[List.getElem?_eq_none_iff]at hx;simp;omega
   rw[this];rfl
  |some x=>
   have e:d<a.tmps.size:=uA1 f hx;have i:a.tmps[d]? =some a.tmps[d]:=by simp[e]
   have hv:=f.2 d x a.tmps[d] hx (by simp[e]);rw[i];have hb:=hv.boolCell;generalize a.tmps[d]=X at hb;revert hb;cases x with
   |v y=>cases X<;>cases y<;>simp[eQ1,Wj]<;>(intro h;subst h;rfl)
   |_=>cases X<;>simp[eQ1,Wj]
def zT (f:qI P ex) (q:kJ P T) {ops:Array Oper} {base:Nat} {Q:Exit->Act->World->Prop}:
  ∀dS ios k σ l g w a,mapO (mR P ops.toList) dS=some ios->(∀j,dS[j]? =ops[k+j]?)->runOps T ex lim ios σ=some l->
   TR g σ.t a.tmps.toList->oC P g w σ.s->lim<=σ.s.n->kA base g w a.defers->
   (∀g' a' w',Bj P base lim g w σ.s l.t l.s g' a' w'->Q .normal a' w')->wpOpsIn (FW r) n P ops Q (List.range' k dS.length) a w
 |[],ios,k,σ,l,g,w,a,hc,hops,h,ht,hI,hl,hm,hQ=>by
  simp only[mapO,fN3]at hc
  subst hc
  simp only[runOps,fN3]at h
  subst h
  exact hQ g a w ⟨ht,hI,.refl lim g w,fI3 _,hm⟩
 |o::dS,ios,k,σ,l,g,w,a,hc,hops,h,ht,hI,hl,hm,hQ=>by
  simp only[mapO]at hc
  split at hc
  rename_i io e hio d
  cases hc
  have h0:ops[k]? =some o:=by simpa using(hops 0).symm
  have c:∀j,dS[j]? =ops[(k+1)+j]? :=fun j=>by have:=hops (j+1);simpa[gY3,hV3 1 j]using this
  simp only[gR3,List.range'_succ,wpOpsIn,h0]
  rw[Is ht hio]
  obtain⟨os,c1,c2,c3,c4⟩:=qK hio
  simp only[runOps]at h
  split at h
  rename_i hw
  rw[fJ3 hw]
  split at h
  rename_i xs x
  split at h
  rename_i v s u
  refine Ks f q c1 u (tA ht c2 x) hI hl (fun V g' w' B C y A=>?_)
  have b:=Tt (ht.mono y.le) B io.dst
  rw[c3]at b
  have i:kA base g' w' (a.put o.dst V).defers:=by
   have:(a.put o.dst V).defers=a.defers:=by cases o.dst<;>rfl
   rw[this];exact hm.ext y
  refine zT f q dS e (k+1) _ l g' w' (a.put o.dst V) d c h (by rw[c3];exact b) C (gH3 hl A) i (fun p a'' z m=>?_);exact hQ p a'' z ⟨m.t,m.inv,y.trans m.ext,gH3 A m.n,m.marks⟩;cases h;cases h;rename_i hw;rw[fM3 hw];refine⟨fun _ _=>trivial,?_⟩;have b:=Tt ht (.undef g) io.dst;rw[c3]at b
  have i:kA base g w (a.put o.dst undef).defers:=by
   have:(a.put o.dst undef).defers=a.defers:=by cases o.dst<;>rfl
   rw[this];exact hm
  exact zT f q dS e (k+1) _ l g w (a.put o.dst undef) d c h (by rw[c3];exact b) hI hl i hQ;cases hc
end
end Go.Sim
