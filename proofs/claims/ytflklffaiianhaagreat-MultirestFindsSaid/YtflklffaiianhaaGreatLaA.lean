import Derived.Below
import Derived.ChangeKeysEq
import Derived.Great.BuildSlice
import Derived.Laws.AppendOwn
import Derived.Laws.MakeOwn
import Derived.Laws.StructEq
import Derived.Laws.Tables
import Derived.RangeFuncIn
import Derived.RangeFuncLeaves
import Derived.WideKeyRuns
import GoSem.Step
/- A text of the proof of MultirestFinds. -/
namespace Go.Sim
inductive AV where
  | v (x : Value)
  | ip (cells : List AV)
  | is (esz : Nat) (els : List (List AV))
  | ptr (id ver e o : Nat)
  | sl (esz id ver off len : Nat) (cap : Option Nat)
  | es
  | map (id : Nat)
  | im (es : List (AV × AV))
  | fn (f : Fn) (first cap : List AV)
  | agg (cells : List AV)
  | tup (vs : List AV)
  deriving Inhabited
abbrev AV.undef : AV := .tup []
abbrev AV.int (n : Int) : AV := .v (.int .i64 n)
abbrev AV.bool (b : Bool) : AV := .v (.bool b)
abbrev AV.nils : AV := .v (.slice none 0 0)
inductive IX where
  | t (i : Nat)
  | c (x : AV)
  deriving Inhabited
inductive CK where
  | i | b | s
  deriving DecidableEq, Inhabited
inductive OpK where
  | mov
  | nilc
  | pick
  | box (ty : TypeId) (size : Nat)
  | alloc (ty : TypeId) (zero : List Value)
  | build (zero : List Value) (parts : List (Nat × Nat))
  | buildSl (ty : TypeId) (esz len : Nat) (zero : List Value) (parts : List Nat)
  | loadS
  | loadA (n : Nat)
  | store (n : Nat)
  | fad (off : Nat)
  | iad (esz : Nat)
  | iadA (len esz : Nat)
  | fldS (off : Nat)
  | fldA (off n : Nat)
  | idxStr
  | idxA (len esz : Nat) (agg : Bool)
  | bin (op : BinOp)
  | eqB (neg : Bool)
  | eqA (neg : Bool) (ks : List CK)
  | eqNil (neg : Bool) (kd : Nat)
  | un (op : UnOp)
  | convI (k : IntKind)
  | convS
  | s2b (ty : TypeId)
  | b2s
  | mkfn (f : Fn) (nfirst : Nat)
  | mkmap
  | mksl (ty : TypeId) (esz bytes : Nat) (zero : List Value)
  | slc (esz : Nat) (lo hi mx : Bool)
  | slcStr (lo hi : Bool)
  | lookup (agg : Bool) (ks : List CK) (zero : AV) (ok : Bool)
  | mapup (agg : Bool) (ks : List CK)
  | callF (f : FuncId)
  | callV
  | len (kd : Nat)
  | cap
  | append (ty : TypeId) (esz bytes : Nat) (zero : List Value) (zeros : Bool)
  | copy (esz : Nat)
  | clear (esz : Nat) (zero : List Value)
  | mn
  | mx
  | ext (i : Nat)
  | fail
  deriving Inhabited
structure Op1 where
  dst : Option Nat
  k : OpK
  xs : List IX
  guard : Option (Nat × Bool) := none
  deriving Inhabited
inductive IC where
  | skip
  | reg (ops : List Sim.Op1)
  | regD (ops : List Sim.Op1) (before : List Nat)
  | seq (a b : IC)
  | cond (c : IX) (a b : IC)
  | block (id : Nat) (c : IC)
  | loop (c : IC)
  | rangeF (f : IX) (params : List Nat) (assign body : IC)
  | exit (id : Nat)
  | ret
  deriving Inhabited
inductive RV where
  | tmp (t : Nat)
  | cellS (t : Nat)
  | cellA (t n : Nat)
  deriving Inhabited
structure IFn where
  ntmps : Nat
  res : List RV
  body : IC
  pure : Bool
  frz : Bool := false
  deriving Inhabited
inductive AO where
  | arr (bx : Bool) (ty : TypeId) (esz ver : Nat) (els : List (List AV))
  | map (es : List (AV × AV))
  | loop (st : LoopState) (pend : Option IC) (tmps : List AV) (params : List Nat) (assign body : IC)
  deriving Inhabited
inductive Ent where
  | mark
  | ob (id : Nat) (o : AO)
  deriving Inhabited
structure Hp where
  h : List Ent
  n : Nat
  deriving Inhabited
def look : List Ent → Nat → Option AO
  | [], _ => none
  | .mark :: r, id => look r id
  | .ob i o :: r, id => if i = id then some o else look r id
def upd : List Ent → Nat → AO → List Ent
  | [], _, _ => []
  | .mark :: r, id, o => .mark :: upd r id o
  | .ob i o' :: r, id, o => if i = id then .ob i o :: r else .ob i o' :: upd r id o
def popMark : List Ent → List Ent
  | [] => []
  | .mark :: r => r
  | .ob i o :: r => match o with
    | .arr true _ _ _ _ => popMark r
    | _ => .ob i o :: popMark r
def Value.ground : Value → Bool
  | .bool _ | .int .. | .string _ | .pointer none | .slice none 0 0 | .map none | .nilFunc | .nilIface => true
  | _ => false
def AV.ofValue : Value → Option AV
  | .agg cs => if cs.toList.all Value.ground then some (.agg (cs.toList.map .v)) else none
  | .tuple cs => if cs.toList.isEmpty then some (.tup []) else none
  | x => if Value.ground x then some (.v x) else none
def AV.cells : AV → Option (List AV)
  | .agg cs => some cs
  | .tup _ => none
  | x => some [x]
def setL {α : Type} : List α → Nat → List α → List α
  | l, _, [] => l
  | l, o, c :: cs => setL (l.set o c) (o + 1) cs
def IX.ev (t : List AV) : IX → Option AV
  | .t i => t[i]?
  | .c x => some x
def evs (t : List AV) : List IX → Option (List AV)
  | [] => some []
  | x :: xs => match x.ev t, evs t xs with
    | some a, some as => some (a :: as)
    | _, _ => none
def binS (op : BinOp) : Value → Value → Option Value
  | .int k a, .int k' b =>
    match op with
    | .shl => if b < 0 then none else some (.int k (k.wrap (a * 2 ^ min b.toNat k.bits)))
    | .shr => if b < 0 then none else some (.int k (a.fdiv (2 ^ min b.toNat k.bits)))
    | _ => if k = k' then match op with
      | .add => some (.int k (k.wrap (a + b)))
      | .sub => some (.int k (k.wrap (a - b)))
      | .mul => some (.int k (k.wrap (a * b)))
      | .quo => if b = 0 then none else some (.int k (k.wrap (a.tdiv b)))
      | .rem => if b = 0 then none else some (.int k (a.tmod b))
      | .and => some (.int k (k.wrap (BitVec.ofInt k.bits a &&& BitVec.ofInt k.bits b).toNat))
      | .or => some (.int k (k.wrap (BitVec.ofInt k.bits a ||| BitVec.ofInt k.bits b).toNat))
      | .xor => some (.int k (k.wrap (BitVec.ofInt k.bits a ^^^ BitVec.ofInt k.bits b).toNat))
      | .andNot => some (.int k (k.wrap (BitVec.ofInt k.bits a &&& ~~~ BitVec.ofInt k.bits b).toNat))
      | .eql => some (.bool (a == b))
      | .neq => some (.bool (a != b))
      | .lss => some (.bool (a < b))
      | .leq => some (.bool (a ≤ b))
      | .gtr => some (.bool (a > b))
      | .geq => some (.bool (a ≥ b))
      | _ => none
    else none
  | .string a, .string b =>
    match op with
    | .add => if a.size + b.size ≤ 2 ^ 62 then some (.string (a ++ b)) else none
    | .eql => some (.bool (a.toList == b.toList))
    | .neq => some (.bool !(a.toList == b.toList))
    | .lss => some (.bool (Op.bytesLess a.toList b.toList))
    | .leq => some (.bool (Op.bytesLess a.toList b.toList || a.toList == b.toList))
    | .gtr => some (.bool !(Op.bytesLess a.toList b.toList || a.toList == b.toList))
    | .geq => some (.bool !(Op.bytesLess a.toList b.toList))
    | _ => none
  | _, _ => none
def unS (op : UnOp) : Value → Option Value
  | .int k n => match op with
    | .neg => some (.int k (k.wrap (0 - n)))
    | .xor => some (.int k (k.wrap (BitVec.ofInt k.bits (if k.signed then -1 else k.max) ^^^ BitVec.ofInt k.bits n).toNat))
    | _ => none
  | .bool b => match op with
    | .not => some (.bool !b)
    | _ => none
  | _ => none
def cellEq : CK → AV → AV → Option Bool
  | .i, .v (.int k a), .v (.int k' b) => if k = k' then some (a == b) else none
  | .b, .v (.bool a), .v (.bool b) => some (a == b)
  | .s, .v (.string a), .v (.string b) => some (a == b)
  | _, _, _ => none
def cellsEq : List CK → List AV → List AV → Option Bool
  | [], [], [] => some true
  | k :: ks, a :: as, b :: bs => match cellEq k a b with
    | some true => cellsEq ks as bs
    | some false => some false
    | none => none
  | _, _, _ => none
def keyEq (agg : Bool) (ks : List CK) (a b : AV) : Option Bool :=
  if agg then match a, b with
    | .agg as, .agg bs => if as.length = ks.length ∧ bs.length = ks.length then cellsEq ks as bs else none
    | _, _ => none
  else cellsEq ks [a] [b]
def keyOK (agg : Bool) (ks : List CK) : AV → Bool
  | .agg as => !agg || as.length == ks.length
  | _ => !agg
def findKey (agg : Bool) (ks : List CK) (k : AV) : List (AV × AV) → Nat → Option (Option (Nat × AV))
  | [], _ => some none
  | (k', x) :: r, i => match keyEq agg ks k k' with
    | some true => some (some (i, x))
    | some false => findKey agg ks k r (i + 1)
    | none => none
def fillParts : List AV → List (Nat × Nat) → List AV → Option (List AV)
  | cells, [], [] => some cells
  | cells, (off, n) :: ps, x :: xs => match x.cells with
    | some cs => if cs.length = n ∧ off + n ≤ cells.length then fillParts (setL cells off cs) ps xs else none
    | none => none
  | _, _, _ => none
def byteRows (s : ByteArray) : List (List AV) := s.data.toList.map fun b => [.v (.int .u8 b.toNat)]
def rowsOf (L : Nat → Option AO) (esz : Nat) : AV → Option (List (List AV))
  | .is e els => if e = esz then some els else none
  | .v (.slice none 0 0) => some []
  | .es => some []
  | .v (.string s) => if esz = 1 then some (byteRows s) else none
  | .sl _ id ver off len _ => match L id with
    | some (.arr _ _ e ver' els) => if e = esz ∧ ver' = ver ∧ off + len ≤ els.length then some ((els.drop off).take len) else none
    | _ => none
  | _ => none
def intOf : AV → Option Int
  | .v (.int _ n) => some n
  | _ => none
structure Out where
  v : AV
  up : Option (Nat × AO) := none
  new : Option AO := none
def bytesOfRows : List (List AV) → Option (List UInt8)
  | [] => some []
  | [.v (.int .u8 n)] :: r => (bytesOfRows r).map (UInt8.ofNat n.toNat :: ·)
  | _ => none
def zeroRow (zero : List Value) : List AV := zero.map .v
def appendTo (L : Nat → Option AO) (lim n : Nat) (ty : TypeId) (esz : Nat) (s : AV) (new : List (List AV)) : Option Out :=
  match s with
  | .v (.slice none 0 0) => if new.isEmpty then some { v := s } else some { v := .sl esz n 0 0 new.length none, new := some (.arr false ty esz 0 new) }
  | .es => if new.isEmpty then some { v := s } else some { v := .sl esz n 0 0 new.length none, new := some (.arr false ty esz 0 new) }
  | .is e _ => if new.isEmpty ∧ e = esz then some { v := s } else none
  | .sl z id ver off len cap =>
    match L id with
    | some (.arr bx ty' e ver' els) =>
      if ver' = ver ∧ e = esz ∧ ty' = ty ∧ off + len ≤ els.length then
        if new.isEmpty then some { v := s } else
        match cap with
        | none =>
          if off + len = els.length then
            if off = 0 ∧ lim ≤ id ∧ bx = false then some { v := .sl z id (ver + 1) 0 (len + new.length) none, up := some (id, .arr false ty e (ver + 1) (els ++ new)) } else none
          else if off + len + new.length ≤ els.length ∧ lim ≤ id then
            some { v := .sl z id ver off (len + new.length) none, up := some (id, .arr bx ty e ver (setL els (off + len) new)) }
          else none
        | some c =>
          if len + new.length ≤ c then
            if off + len + new.length ≤ els.length ∧ lim ≤ id then
              some { v := .sl z id ver off (len + new.length) (some c), up := some (id, .arr bx ty e ver (setL els (off + len) new)) }
            else none
          else some { v := .sl esz n 0 0 (len + new.length) none, new := some (.arr false ty esz 0 ((els.drop off).take len ++ new)) }
      else none
    | _ => none
  | _ => none
def maxRoom : Nat := 2 ^ 30
def foldMn (k : IntKind) : Int → List AV → Option Int
  | a, [] => some a
  | a, x :: r => match x with
    | .v (.int k' b) => if k = k' then foldMn k (if b < a then b else a) r else none
    | _ => none
def foldMx (k : IntKind) : Int → List AV → Option Int
  | a, [] => some a
  | a, x :: r => match x with
    | .v (.int k' b) => if k = k' then foldMx k (if b > a then b else a) r else none
    | _ => none
def mapO {α β : Type} (f : α → Option β) : List α → Option (List β)
  | [] => some []
  | a :: as => match f a, mapO f as with
    | some b, some bs => some (b :: bs)
    | _, _ => none
def bounds (lo hi : Bool) (len : Nat) (bs : List AV) : Option (Int × Int) :=
  match lo, hi, bs with
  | false, false, [] => some (0, len)
  | true, false, [l] => (intOf l).map fun l => (l, (len : Int))
  | false, true, [h] => (intOf h).map fun h => (0, h)
  | true, true, [l, h] => match intOf l, intOf h with
    | some l, some h => some (l, h)
    | _, _ => none
  | _, _, _ => none
def roomOf (cap : Option Nat) (len off : Nat) : Int :=
  match cap with
  | some c => c
  | none => (len : Int) - off
def sliceOp (L : Nat → Option AO) (esz : Nat) (lo hi mx : Bool) (xs : List AV) : Option AV :=
  match xs with
  | [] => none
  | x :: bs =>
    let (bs, m) : List AV × Option Int := if mx then (bs.dropLast, bs.getLast?.bind intOf) else (bs, some 0)
    match m with
    | none => none
    | some m =>
    match x with
    | .v (.slice none 0 0) => match bounds lo hi 0 bs with
      | some (0, 0) => if m = 0 then some x else none
      | _ => none
    | .es => match bounds lo hi 0 bs with
      | some (0, 0) => if m = 0 then some x else none
      | _ => none
    | .is e els => match bounds lo hi els.length bs with
      | some (l, h) =>
        if e = esz ∧ 0 ≤ l ∧ l ≤ h ∧ h ≤ els.length then
          if mx then (if l = h ∧ m = h then some .es else none)
          else some (.is e ((els.drop l.toNat).take (h.toNat - l.toNat)))
        else none
      | none => none
    | .sl z id ver off len cap => match L id with
      | some (.arr _ _ e ver' els) => match bounds lo hi len bs with
        | some (l, h) =>
          if ver' = ver ∧ e = esz ∧ 0 ≤ l ∧ l ≤ h ∧ h ≤ roomOf cap els.length off ∧ off + len ≤ els.length then
            if mx then (if h ≤ m ∧ m ≤ roomOf cap els.length off then some (.sl z id ver (off + l.toNat) (h.toNat - l.toNat) (some (m.toNat - l.toNat))) else none)
            else some (.sl z id ver (off + l.toNat) (h.toNat - l.toNat) (cap.map (· - l.toNat)))
          else none
        | none => none
      | _ => none
    | _ => none
def isNilv (kd : Nat) (x : AV) : Option Bool :=
  match kd, x with
  | 0, .v (.slice none 0 0) | 1, .v (.pointer none) | 2, .v (.map none) | 3, .v .nilFunc => some true
  | 0, .is .. | 0, .sl .. | 1, .ptr .. | 1, .ip .. | 2, .map .. | 2, .im .. | 3, .fn .. => some false
  | _, _ => none
def appRows (L : Nat → Option AO) (esz : Nat) (zeros : Bool) (zero : List Value) (x : AV) : Option (List (List AV)) :=
  if zeros then match intOf x with
    | some m => if 0 ≤ m ∧ m ≤ maxRoom then some (List.replicate m.toNat (zeroRow zero)) else none
    | none => none
  else rowsOf L esz x
def entsOf (L : Nat → Option AO) : AV → Option (List (AV × AV))
  | .v (.map none) => some []
  | .map id => match L id with
    | some (.map es) => some es
    | _ => none
  | .im es => some es
  | _ => none
def doOp (L : Nat → Option AO) (lim n : Nat) (k : OpK) (xs : List AV) : Option Out :=
  match k, xs with
  | .mov, [x] => some { v := x }
  | .nilc, [x] => match x with
    | .ptr .. | .ip .. | .fn (.func _) _ _ | .fn (.yield _) _ _ => some { v := x }
    | _ => none
  | .pick, [c, a, b] => match c with
    | .v (.bool t) => some { v := if t then a else b }
    | _ => none
  | .box ty size, [x] => match x.cells with
    | some cs => if cs.length = size ∧ size ≠ 0 then some { v := .ptr n 0 0 0, new := some (.arr true ty size 0 [cs]) } else none
    | none => none
  | .alloc ty zero, [] => some { v := .ptr n 0 0 0, new := some (.arr true ty zero.length 0 [zeroRow zero]) }
  | .build zero parts, xs => (fillParts (zeroRow zero) parts xs).map fun cs => { v := .agg cs }
  | .buildSl ty esz len zero parts, xs =>
    (fillParts ((List.range len).flatMap fun _ => zeroRow zero) (parts.map fun i => (i * esz, esz)) xs).map fun cs =>
      { v := .sl esz n 0 0 len none, new := some (.arr false ty esz 0 ((List.range len).map fun i => (cs.drop (i * esz)).take esz)) }
  | .loadS, [p] => match p with
    | .ip (c :: _) => some { v := c }
    | .ptr id ver e o => match L id with
      | some (.arr _ _ _ ver' els) => if ver' = ver then match els[e]? with
          | some row => match row[o]? with
            | some x => some { v := x }
            | none => none
          | none => none
        else none
      | _ => none
    | _ => none
  | .loadA n, [p] => match p with
    | .ip cells => if n ≤ cells.length then some { v := .agg (cells.take n) } else none
    | .ptr id ver e o => match L id with
      | some (.arr _ _ _ ver' els) => if ver' = ver then match els[e]? with
          | some row => if o + n ≤ row.length then some { v := .agg ((row.drop o).take n) } else none
          | none => none
        else none
      | _ => none
    | _ => none
  | .store n, [p, x] => match p, x.cells with
    | .ptr id ver e o, some cs => match L id with
      | some (.arr bx ty esz ver' els) => if ver' = ver ∧ lim ≤ id ∧ cs.length = n then match els[e]? with
          | some row => if o + n ≤ row.length then some { v := .undef, up := some (id, .arr bx ty esz ver (els.set e (setL row o cs))) } else none
          | none => none
        else none
      | _ => none
    | _, _ => none
  | .fad off, [p] => match p with
    | .ip cells => some { v := .ip (cells.drop off) }
    | .ptr id ver e o => some { v := .ptr id ver e (o + off) }
    | _ => none
  | .iad esz, [x, i] => match intOf i with
    | some i => match x with
      | .is e els => if e = esz ∧ 0 ≤ i then match els[i.toNat]? with
          | some row => some { v := .ip row }
          | none => none
        else none
      | .sl z id ver off len _ => if z = esz ∧ 0 ≤ i ∧ i < len then some { v := .ptr id ver (off + i.toNat) 0 } else none
      | _ => none
    | none => none
  | .iadA len esz, [p, i] => match intOf i with
    | some i => if 0 ≤ i ∧ i < len then match p with
      | .ip cells => some { v := .ip (cells.drop (i.toNat * esz)) }
      | .ptr id ver e o => some { v := .ptr id ver e (o + i.toNat * esz) }
      | _ => none
      else none
    | none => none
  | .fldS off, [x] => match x with
    | .agg cs => match cs[off]? with
      | some c => some { v := c }
      | none => none
    | _ => none
  | .fldA off n, [x] => match x with
    | .agg cs => some { v := .agg ((cs.drop off).take n) }
    | _ => none
  | .idxStr, [x, i] => match x, intOf i with
    | .v (.string s), some i => if 0 ≤ i then match s.data.toList[i.toNat]? with
        | some b => some { v := .v (.int .u8 b.toNat) }
        | none => none
      else none
    | _, _ => none
  | .idxA len esz agg, [x, i] => match x, intOf i with
    | .agg cs, some i => if 0 ≤ i ∧ i < len then
        if agg then some { v := .agg ((cs.drop (i.toNat * esz)).take esz) } else match cs[i.toNat * esz]? with
        | some c => some { v := c }
        | none => none
      else none
    | _, _ => none
  | .bin op, [x, y] => match x, y with
    | .v a, .v b => (binS op a b).map fun r => { v := .v r }
    | _, _ => none
  | .eqB neg, [x, y] => match x, y with
    | .v (.bool a), .v (.bool b) => some { v := .v (.bool ((a == b) != neg)) }
    | _, _ => none
  | .eqA neg ks, [x, y] => match x, y with
    | .agg as, .agg bs => if as.length = ks.length ∧ bs.length = ks.length then match cellsEq ks as bs with
        | some r => some { v := .v (.bool (r != neg)) }
        | none => none
      else none
    | _, _ => none
  | .eqNil neg kd, [x, y] => match isNilv kd x, isNilv kd y with
    | some a, some true => some { v := .v (.bool (a != neg)) }
    | some true, some b => some { v := .v (.bool (b != neg)) }
    | _, _ => none
  | .un op, [x] => match x with
    | .v a => (unS op a).map fun r => { v := .v r }
    | _ => none
  | .convI k, [x] => match x with
    | .v (.int _ n) => some { v := .v (.int k (k.wrap n)) }
    | _ => none
  | .convS, [x] => match x with
    | .v (.string s) => some { v := .v (.string s) }
    | _ => none
  | .s2b _, [x] => match x with
    | .v (.string s) => some { v := .is 1 (byteRows s) }
    | _ => none
  | .b2s, [x] => match rowsOf L 1 x with
    | some rows => (bytesOfRows rows).map fun l => { v := .v (.string ⟨l.toArray⟩) }
    | none => none
  | .mkfn f nf, xs => some { v := .fn f (xs.take nf) (xs.drop nf) }
  | .mkmap, [] => some { v := .map n, new := some (.map []) }
  | .mksl ty esz _ zero, [l, c] => match intOf l, intOf c with
    | some l, some c => if 0 ≤ l ∧ l ≤ c ∧ c ≤ maxRoom then
        some { v := .sl esz n 0 0 l.toNat none, new := some (.arr false ty esz 0 (List.replicate c.toNat (zeroRow zero))) }
      else none
    | _, _ => none
  | .slc esz lo hi mx, xs => (sliceOp L esz lo hi mx xs).map fun v => { v := v }
  | .slcStr lo hi, x :: bs => match x with
    | .v (.string s) => match bounds lo hi s.size bs with
      | some (l, h) => if 0 ≤ l ∧ l ≤ h ∧ h ≤ s.size then some { v := .v (.string (s.extract l.toNat h.toNat)) } else none
      | none => none
    | _ => none
  | .lookup agg ks zero ok, [m, k] =>
    if keyOK agg ks k then
      match entsOf L m with
      | some es => match findKey agg ks k es 0 with
        | some (some (_, x)) => some { v := if ok then .tup [x, .v (.bool true)] else x }
        | some none => some { v := if ok then .tup [zero, .v (.bool false)] else zero }
        | none => none
      | none => none
    else none
  | .mapup agg ks, [m, k, x] => match m with
    | .map id => match L id with
      | some (.map es) => if lim ≤ id ∧ keyOK agg ks k then match findKey agg ks k es 0 with
          | some (some (i, _)) => some { v := .undef, up := some (id, .map (es.set i (k, x))) }
          | some none => some { v := .undef, up := some (id, .map (es ++ [(k, x)])) }
          | none => none
        else none
      | _ => none
    | _ => none
  | .len kd, [x] => match kd, x with
    | 0, .is _ els => some { v := .int els.length }
    | 0, .sl _ _ _ _ len _ => some { v := .int len }
    | 0, .v (.slice none 0 0) => some { v := .int 0 }
    | 0, .es => some { v := .int 0 }
    | 1, .v (.string s) => some { v := .int s.size }
    | 2, .v (.map none) => some { v := .int 0 }
    | 2, .map id => match L id with
      | some (.map es) => some { v := .int es.length }
      | _ => none
    | 2, .im es => some { v := .int es.length }
    | _, _ => none
  | .cap, [x] => match x with
    | .v (.slice none 0 0) => some { v := .int 0 }
    | .es => some { v := .int 0 }
    | _ => none
  | .append ty esz _ zero zeros, [s, x] =>
    match appRows L esz zeros zero x with
    | some new => match appendTo L lim n ty esz s new with
      | some o => (match o.v with | .sl _ _ _ _ len _ => if len ≤ maxRoom ∧ new.length ≤ maxRoom then some o else none | _ => some o)
      | none => none
    | none => none
  | .copy esz, [d, s] => match rowsOf L esz s with
    | some rows => match d with
      | .v (.slice none 0 0) => some { v := .int 0 }
      | .es => some { v := .int 0 }
      | .sl _ id ver off len _ => match L id with
        | some (.arr bx ty e ver' els) => if ver' = ver ∧ e = esz ∧ off + len ≤ els.length ∧ lim ≤ id then
            some { v := .int (min rows.length len), up := some (id, .arr bx ty e ver (setL els off (rows.take (min rows.length len)))) }
          else none
        | _ => none
      | _ => none
    | none => none
  | .clear esz zero, [x] => match x with
    | .v (.slice none 0 0) => some { v := .undef }
    | .es => some { v := .undef }
    | .sl _ id ver off len _ => match L id with
      | some (.arr bx ty e ver' els) => if ver' = ver ∧ e = esz ∧ off + len ≤ els.length ∧ lim ≤ id then
          some { v := .undef, up := some (id, .arr bx ty e ver (setL els off (List.replicate len (zeroRow zero)))) }
        else none
      | _ => none
    | _ => none
  | .mn, x :: xs => match x with
    | .v (.int k a) => (foldMn k a xs).map fun r => { v := .v (.int k r) }
    | _ => none
  | .mx, x :: xs => match x with
    | .v (.int k a) => (foldMx k a xs).map fun r => { v := .v (.int k r) }
    | _ => none
  | .ext i, [x] => match x with
    | .tup vs => match vs[i]? with
      | some v => some { v := v }
      | none => none
    | _ => none
  | _, _ => none
def Out.apply (o : Out) (s : Hp) : Hp :=
  let h := match o.up with
    | some (id, ob) => upd s.h id ob
    | none => s.h
  match o.new with
  | some ob => { h := .ob s.n ob :: h, n := s.n + 1 }
  | none => { h := h, n := s.n }
structure St where
  t : List AV
  s : Hp
inductive Ex where
  | normal
  | exit (id : Nat)
  | ret
  deriving DecidableEq
abbrev Tab := FuncId → Option IFn
def fzI (L : Nat → Option AO) (n0 : Nat) : Nat → AV → Option AV
  | 0, _ => none
  | d + 1, x => match x with
    | .v y => some (.v y)
    | .ip cs => some (.ip cs)
    | .is e els => some (.is e els)
    | .es => some .es
    | .sl _ id ver off len _ => match L id with
      | some (.arr _ _ e ver' els) =>
        if n0 ≤ id ∧ ver' = ver ∧ off + len ≤ els.length then (mapO (fun row => mapO (fzI L n0 d) row) ((els.drop off).take len)).map fun rows => AV.is e rows else none
      | _ => none
    | .ptr id ver e o => match L id with
      | some (.arr _ _ _ ver' els) =>
        if n0 ≤ id ∧ ver' = ver then match els[e]? with
          | some row => (mapO (fzI L n0 d) (row.drop o)).map fun cs => AV.ip cs
          | none => none
        else none
      | _ => none
    | _ => none
def fzM (L : Nat → Option AO) (n0 : Nat) : AV → Option AV
  | .agg cs => (mapO (fzI L n0 6) cs).map AV.agg
  | x => fzI L n0 6 x
def fzC (L : Nat → Option AO) (n0 : Nat) (x : AV) : Option AV :=
  match x with
  | .sl _ id .. | .ptr id .. | .map id => if id < n0 then some x else fzI L n0 6 x
  | .fn (.func f) [] [] => some (.fn (.func f) [] [])
  | x => fzI L n0 6 x
def fz1 (L : Nat → Option AO) (n0 : Nat) : AV → Option AV
  | .agg cs => (mapO (fzC L n0) cs).map AV.agg
  | x => fzC L n0 x
def fz (L : Nat → Option AO) (n0 : Nat) : AV → Option AV
  | .tup vs => (mapO (fz1 L n0) vs).map AV.tup
  | .map id => if id < n0 then some (.map id) else match L id with
    | some (.map es) => (mapO (fun (k, x) => match fzM L n0 k, fzM L n0 x with | some k, some x => some (k, x) | _, _ => none) es).map AV.im
    | _ => none
  | x => fz1 L n0 x
def readRes (L : Nat → Option AO) (t : List AV) : RV → Option AV
  | .tmp i => t[i]?
  | .cellS i => match t[i]? with
    | some p => (doOp L 0 0 .loadS [p]).map (·.v)
    | none => none
  | .cellA i n => match t[i]? with
    | some p => (doOp L 0 0 (.loadA n) [p]).map (·.v)
    | none => none
def results (L : Nat → Option AO) (t : List AV) (rs : List RV) : Option AV :=
  match mapO (readRes L t) rs with
  | some [v] => some v
  | some vs => some (.tup vs)
  | none => none
def closed : Nat → AV → Bool
  | 0, _ => false
  | d + 1, x => match x with
    | .v _ | .ip _ | .is _ _ | .es | .im _ => true
    | .fn (.func _) first cap => first.all (closed d) && cap.all (closed d)
    | .agg cs => cs.all (closed d)
    | .tup cs => cs.all (closed d)
    | _ => false
def fzA (L : Nat → Option AO) : Nat → AV → Option AV
  | 0, _ => none
  | d + 1, x => match x with
    | .fn (.func f) first cap => match mapO (fzA L d) first, mapO (fzA L d) cap with
      | some a, some b => some (.fn (.func f) a b)
      | _, _ => none
    | .agg cs => (mapO (fzA L d) cs).map AV.agg
    | .im es => some (.im es)
    | .map id => match L id with
      | some (.map es) => (mapO (fun (k, x) => match fzM L 0 k, fzM L 0 x with | some k, some x => some (k, x) | _, _ => none) es).map AV.im
      | _ => none
    | .ptr id ver e o => match L id with
      | some (.arr _ _ _ ver' els) =>
        if ver' = ver then match els[e]? with
          | some row => (mapO (fzA L d) (row.drop o)).map AV.ip
          | none => none
        else none
      | _ => none
    | x => fzI L 0 6 x
def gnd : Nat → AV → Bool
  | 0, _ => false
  | d + 1, x => match x with
    | .v _ => true
    | .agg cs => cs.all (gnd d)
    | .tup cs => cs.all (gnd d)
    | _ => false
section
variable (T : Tab) (ex : Nat → Bool → IC → St → Option (Ex × St))
def body (lim : Nat) (fn : IFn) (args : List AV) (s : Hp) : Option (AV × Hp) :=
  match ex lim false fn.body { t := args ++ List.replicate (fn.ntmps - args.length) .undef, s := s } with
  | some (.exit _, _) => none
  | some (_, σ) => (results (look σ.s.h) σ.t fn.res).map fun v => (v, σ.s)
  | none => none
def callF (lim : Nat) (f : FuncId) (args : List AV) (s : Hp) : Option (AV × Hp) :=
  match T f with
  | none => none
  | some fn =>
    if fn.pure then
      if args.all (closed 4) then
        match body ex 0 fn args { h := [], n := 0 } with
        | some (v, s') => (fz (look s'.h) 0 v).map fun v => (v, s)
        | none => none
      else if fn.frz then
        match mapO (fzA (look s.h) 6) args with
        | some as => match body ex 0 fn as { h := [], n := 0 } with
          | some (v, _) => if gnd 4 v then some (v, s) else none
          | none => none
        | none => none
      else
        match body ex s.n fn args s with
        | some (v, s') => (fz (look s'.h) s.n v).map fun v => (v, s)
        | none => none
    else body ex lim fn args s
def putAll : List AV → List Nat → List AV → List AV
  | t, p :: ps, a :: as => putAll (t.set p a) ps as
  | t, _, _ => t
def endRound (l : Nat) (s : Hp) (st : LoopState) (pend : Option IC) : Option Hp :=
  match look s.h l with
  | some (.loop _ _ tmps params assign bd) => some { h := upd s.h l (.loop st pend tmps params assign bd), n := s.n }
  | _ => none
def round (lim : Nat) (l : Nat) (args : List AV) (s : Hp) : Option (AV × Hp) :=
  match look s.h l with
  | some (.loop _ _ tmps params assign bd) =>
    if lim ≤ l ∧ params.length = args.length then
      match ex lim true assign { t := putAll tmps params args, s := s } with
      | some (.normal, σ) =>
        match look σ.s.h l with
        | some (.loop .ready pend2 tmps2 params2 assign2 bd2) =>
          match ex lim true bd { t := σ.t, s := { h := upd σ.s.h l (.loop .busy pend2 tmps2 params2 assign2 bd2), n := σ.s.n } } with
          | some (.normal, τ) => (endRound l τ.s .ready none).map fun s => (.bool true, s)
          | some (.ret, τ) => (endRound l τ.s .done (some .ret)).map fun s => (.bool false, s)
          | some (.exit id, τ) => (endRound l τ.s .done (some (.exit id))).map fun s => (.bool false, s)
          | none => none
        | _ => none
      | _ => none
    else none
  | _ => none
def callV (lim : Nat) (f : AV) (args : List AV) (s : Hp) : Option (AV × Hp) :=
  match f with
  | .fn (.func g) first cap => callF T ex lim g (first ++ args ++ cap) s
  | .fn (.yield l) [] [] => round ex lim l args s
  | _ => none
def step (lim : Nat) (k : OpK) (xs : List AV) (s : Hp) : Option (AV × Hp) :=
  match k with
  | .callF f => callF T ex lim f xs s
  | .callV => match xs with
    | f :: args => callV T ex lim f args s
    | [] => none
  | k => match doOp (look s.h) lim s.n k xs with
    | some o => some (o.v, o.apply s)
    | none => none
def put (t : List AV) (d : Option Nat) (v : AV) : List AV :=
  match d with
  | some i => t.set i v
  | none => t
def wanted (t : List AV) : Option (Nat × Bool) → Bool
  | none => true
  | some (i, w) => match t[i]? with
    | some (.v (.bool b)) => b == w
    | _ => false
def runOps (lim : Nat) : List Sim.Op1 → St → Option St
  | [], σ => some σ
  | o :: os, σ =>
    if wanted σ.t o.guard then
      match evs σ.t o.xs with
      | some xs => match step T ex lim o.k xs σ.s with
        | some (v, s) => runOps lim os { t := put σ.t o.dst v, s := s }
        | none => none
      | none => none
    else runOps lim os { t := put σ.t o.dst .undef, s := σ.s }
structure Foot where
  rd : List Nat := []
  wr : List Nat := []
  al : List Nat := []       -- the numbers of the objects that it makes
  all : Nat := 0            -- 1: it may read everything; 2: it may do anything
def idOf : AV → List Nat
  | .ptr id .. | .sl _ id .. | .map id => [id]
  | _ => []
def foot (k : OpK) (xs : List AV) : Foot :=
  match k, xs with
  | .loadS, [p] | .loadA _, [p] => { rd := idOf p }
  | .store _, p :: _ => { wr := idOf p }
  | .lookup .., m :: _ => { rd := idOf m }
  | .mapup .., m :: _ => { wr := idOf m }
  | .append .., [s, x] => { rd := idOf x, wr := idOf s }
  | .copy _, [d, s] => { rd := idOf s, wr := idOf d }
  | .clear .., [x] => { wr := idOf x }
  | .len _, [x] => { rd := idOf x }
  | .slc .., x :: _ => { rd := idOf x }
  | .b2s, [x] => { rd := idOf x }
  | .callF f, _ => { all := match T f with | some fn => if fn.pure then 1 else 2 | none => 2 }
  | .callV, f :: _ => { all := match f with | .fn (.func g) _ _ => (match T g with | some fn => if fn.pure then 1 else 2 | none => 2) | _ => 2 }
  | .callV, [] => { all := 2 }
  | _, _ => {}
def compat (i j : Foot) : Bool :=
  i.all + j.all ≤ 1 &&
  i.wr.all (fun x => !j.rd.contains x && !j.wr.contains x) && j.wr.all (fun x => !i.rd.contains x) &&
  i.al.all (fun x => !j.rd.contains x && !j.wr.contains x) &&
  (i.all == 0 || j.wr.isEmpty) && (j.all == 0 || i.wr.isEmpty)
def hide : List Nat → List Ent → List Ent
  | [], h => h
  | id :: ids, h => hide ids (rm id h)
  where
  rm (id : Nat) : List Ent → List Ent
    | [] => []
    | .mark :: r => .mark :: rm id r
    | .ob i o :: r => if i = id then r else .ob i o :: rm id r
def unseen (mask : Nat) : Nat → List Foot → List Nat
  | _, [] => []
  | j, f :: fs => (if mask.testBit (j - 1) then [] else f.al) ++ unseen mask (j - 1) fs
def runFoot (lim : Nat) (before : List Nat) : List Sim.Op1 → Nat → List Foot → St → Option (St × List Foot)
  | [], _, fs, σ => some (σ, fs)
  | o :: os, j, fs, σ =>
    if wanted σ.t o.guard then
      match evs σ.t o.xs with
      | some xs =>
        let ft := foot T o.k xs
        if ft.all = 1 then
          match step T ex lim o.k xs { h := hide (unseen (before.getD j 0) j fs) σ.s.h, n := σ.s.n + (os.length + 1) } with
          | some (v, _) => runFoot lim before os (j + 1) (ft :: fs) { t := put σ.t o.dst v, s := σ.s }
          | none => none
        else
          match step T ex lim o.k xs σ.s with
          | some (v, s) => runFoot lim before os (j + 1) ({ ft with al := List.range' σ.s.n (s.n - σ.s.n) } :: fs) { t := put σ.t o.dst v, s := s }
          | none => none
      | none => none
    else runFoot lim before os (j + 1) ({} :: fs) { t := put σ.t o.dst .undef, s := σ.s }
def drawOK (before : List Nat) : List Foot → Nat → Bool
  | [], _ => true
  | f :: fs, j => okAgainst (before.getD (j - 1) 0) f fs (j - 1) && drawOK before fs (j - 1)
  where
  okAgainst (mask : Nat) (f : Foot) : List Foot → Nat → Bool
    | [], _ => true
    | g :: gs, i => (mask.testBit (i - 1) || compat g f) && okAgainst mask f gs (i - 1)
end
def exec (T : Tab) : Nat → Nat → Bool → IC → St → Option (Ex × St)
  | 0, _, _, _, _ => none
  | d + 1, lim, rd, c, σ =>
    match c with
    | .skip => some (.normal, σ)
    | .reg ops => (runOps T (exec T d) lim ops σ).map fun σ => (.normal, σ)
    | .regD ops before => match runFoot T (exec T d) lim before ops 0 [] σ with
      | some (τ, fs) => if drawOK before fs fs.length then some (.normal, τ) else none
      | none => none
    | .seq a b => match exec T d lim rd a σ with
      | some (.normal, σ) => exec T d lim rd b σ
      | r => r
    | .cond c a b => match c.ev σ.t with
      | some (.v (.bool t)) => exec T d lim rd (if t then a else b) σ
      | _ => none
    | .block id c => match exec T d lim rd c σ with
      | some (.exit i, σ) => if i = id then some (.normal, σ) else some (.exit i, σ)
      | r => r
    | .loop c => match exec T d lim rd c { t := σ.t, s := { h := .mark :: σ.s.h, n := σ.s.n } } with
      | some (.normal, σ) => exec T d lim rd (.loop c) { t := σ.t, s := { h := popMark σ.s.h, n := σ.s.n } }
      | some (e, σ) => some (e, { t := σ.t, s := { h := popMark σ.s.h, n := σ.s.n } })
      | none => none
    | .rangeF f params assign bd =>
      if rd then none else
      match f.ev σ.t with
      | some (.fn (.func g) first cap) =>
        match callF T (exec T d) lim g (first ++ [.fn (.yield σ.s.n) [] []] ++ cap) { h := .ob σ.s.n (.loop .ready none σ.t params assign bd) :: σ.s.h, n := σ.s.n + 1 } with
        | some (_, s) => match look s.h σ.s.n with
          | some (.loop st pend _ _ _ _) => if st = .busy then none else
            match endRound σ.s.n s .exhausted pend with
            | none => none
            | some s => match pend with
              | none => some (.normal, { t := σ.t, s := s })
              | some .ret => some (.ret, { t := σ.t, s := s })
              | some (.exit id) => some (.exit id, { t := σ.t, s := s })
              | _ => none
          | _ => none
        | none => none
      | _ => none
    | .exit id => some (.exit id, σ)
    | .ret => some (.ret, σ)
end Go.Sim
namespace Go.Sim
def opnd : Operand → Option IX
  | .tmp t => some (.t t)
  | .const v => (AV.ofValue v).map .c
  | .global _ => none
  | .func f => some (.c (.fn (.func f) [] []))
def opnds (xs : List Operand) : Option (List IX) := mapO opnd xs
def isAggB (P : Program) (t : TypeId) : Bool :=
  match P.underlying t with
  | some (.struct _) | some (.array _ _) => true
  | _ => false
def isSeqB (P : Program) (t : TypeId) : Bool :=
  match P.underlying t with
  | some (.slice _) | some .string => true
  | _ => false
def partsB (P : Program) (t : TypeId) : Bool :=
  match P.underlying t with
  | some (.struct fs) => fs.toList.all fun f => (P.info? f.type).isSome
  | some (.array _ e) => (P.info? e).isSome
  | _ => false
def zeroOf (P : Program) (t : TypeId) : Option (List Value) :=
  match P.info? t with
  | some i => match i.zero with
    | some z => let cs := z.cells.toList; if cs.all Value.ground && cs.length == i.size && i.size != 0 then some cs else none
    | none => none
  | none => none
def zeroAV (P : Program) (t : TypeId) : Option AV :=
  match P.info? t with
  | some i => match i.zero with
    | some z => AV.ofValue z
    | none => none
  | none => none
def kindsFs (f : TypeId → Option (List CK)) (P : Program) : List Field → Nat → Option (List CK)
  | [], _ => some []
  | x :: xs, off =>
    if x.offset = off ∧ x.name ≠ "_" then
      match f x.type, P.info? x.type with
      | some ks, some i => if i.size = ks.length ∧ ks.length ≠ 0 then match kindsFs f P xs (off + ks.length) with
          | some r => some (ks ++ r)
          | none => none
        else none
      | _, _ => none
    else none
def kindsOf (P : Program) : Nat → TypeId → Option (List CK)
  | 0, _ => none
  | d + 1, t =>
    match P.underlying t with
    | some .bool => some [.b]
    | some (.int _) => some [.i]
    | some .string => some [.s]
    | some (.struct fs) => if P.stoodInHeld t then none else kindsFs (kindsOf P d) P fs.toList 0
    | some (.array n e) => match kindsOf P d e, P.info? e with
      | some ks, some i => if i.size = ks.length ∧ ks.length ≠ 0 then some ((List.replicate n ks).flatten) else none
      | _, _ => none
    | _ => none
def keyKinds (P : Program) (t : TypeId) : Option (Bool × List CK) :=
  match P.underlying t with
  | some .bool | some (.int _) | some .string => (kindsOf P 1 t).map fun ks => (false, ks)
  | some (.struct fs) => if (fs.toList.all fun f => match P.underlying f.type with | some .bool | some (.int _) | some .string => true | _ => false) then (kindsOf P 2 t).map fun ks => (true, ks) else none
  | _ => none
def compBuiltin (P : Program) (b : Builtin) (at_ : List TypeId) (type : TypeId) : Option OpK :=
  match b, at_ with
  | .len, [t] => match P.underlying t with
    | some (.slice _) => some (.len 0)
    | some .string => some (.len 1)
    | some (.map _ _) => some (.len 2)
    | _ => none
  | .cap, [t] => match P.underlying t with
    | some (.slice _) => some .cap
    | _ => none
  | .append, [s, x] => match P.underlying s with
    | some (.slice e) => match P.info? e, zeroOf P e with
      | some i, some z => if i.bytes ≤ 2 ^ 16 then
          (match P.underlying x with
           | some (.int .i64) => some (.append e i.size i.bytes z true)
           | some (.slice _) | some .string => some (.append e i.size i.bytes z false)
           | _ => none) else none
      | _, _ => none
    | _ => none
  | .copy, [d, s] => match P.underlying d with
    | some (.slice e) => match P.info? e with
      | some i => if i.size ≠ 0 ∧ isSeqB P s = true then some (.copy i.size) else none
      | none => none
    | _ => none
  | .clear, [t] => match P.underlying t with
    | some (.slice e) => match zeroOf P e with
      | some z => some (.clear z.length z)
      | none => none
    | _ => none
  | .min, _ => some .mn
  | .max, _ => some .mx
  | _, _ => let _ := type; none
def fieldsOf (P : Program) (t : TypeId) : Option (List Field) :=
  match P.underlying t with
  | some (.struct fs) => some fs.toList
  | _ => none
def compParts (P : Program) (t : TypeId) : List Nat → Option (List (Nat × Nat))
  | [] => some []
  | i :: is => match compParts P t is with
    | none => none
    | some r => match P.underlying t with
      | some (.struct fs) => match fs[i]? with
        | some f => match P.info? f.type with
          | some fi => some ((f.offset, fi.size) :: r)
          | none => none
        | none => none
      | some (.array _ e) => match P.info? e with
        | some ei => some ((i * ei.size, ei.size) :: r)
        | none => none
      | _ => none
def compOp (P : Program) (o : Op) (type : TypeId) : Option (OpK × List Operand) :=
  match o with
  | .move x | .assign x => some (.mov, [x])
  | .nilCheck x => some (.nilc, [x])
  | .pick c a b => some (.pick, [c, a, b])
  | .box ty x => match P.info? ty with
    | some i => some (.box ty i.size, [x])
    | none => none
  | .alloc ty => (zeroOf P ty).map fun z => (.alloc ty z, [])
  | .build t parts => match P.info? t with
    | some i => match i.zero with
      | some z => if z.cells.toList.all Value.ground && partsB P t then
          match compParts P t (parts.toList.map (·.1)) with
          | some ps => some (.build z.cells.toList ps, parts.toList.map (·.2))
          | none => none
        else none
      | none => none
    | none => none
  | .buildSlice t len parts => match P.underlying t with
    | some (.slice e) => match zeroOf P e with
      | some z => if len * z.length ≤ 2 ^ 24 then some (.buildSl e z.length len z (parts.toList.map (·.1)), parts.toList.map (·.2)) else none
      | none => none
    | _ => none
  | .load t a => match P.underlying t, P.info? t with
    | some _, some i => some (if isAggB P t then .loadA i.size else .loadS, [a])
    | _, _ => none
  | .store t a v => match P.info? t with
    | some i => some (.store i.size, [a, v])
    | none => none
  | .fieldAddr s x f => match P.underlying s with
    | some (.struct fs) => match fs[f]? with
      | some fd => match P.info? fd.type with
        | some i => if i.size ≠ 0 then some (.fad fd.offset, [x]) else none
        | none => none
      | none => none
    | _ => none
  | .indexAddr t x i => match P.underlying t with
    | some (.slice e) => match P.info? e with
      | some ei => if ei.size ≠ 0 then some (.iad ei.size, [x, i]) else none
      | none => none
    | some (.array n e) => match P.info? e with
      | some ei => some (.iadA n ei.size, [x, i])
      | none => none
    | _ => none
  | .field t x f => match P.underlying t with
    | some (.struct fs) => match fs[f]? with
      | some fd => match P.underlying fd.type, P.info? fd.type with
        | some _, some i => some (if isAggB P fd.type then .fldA fd.offset i.size else .fldS fd.offset, [x])
        | _, _ => none
      | none => none
    | _ => none
  | .index t x i => match P.underlying t with
    | some .string => some (.idxStr, [x, i])
    | some (.array n e) => match P.underlying e, P.info? e with
      | some _, some ei => some (.idxA n ei.size (isAggB P e), [x, i])
      | _, _ => none
    | _ => none
  | .binOp op t x y _ => match P.underlying t with
    | some (.int _) | some .string => some (.bin op, [x, y])
    | some .bool => match op with
      | .eql => some (.eqB false, [x, y])
      | .neq => some (.eqB true, [x, y])
      | _ => none
    | some (.struct _) | some (.array _ _) => match kindsOf P 20 t with
      | some ks => if P.eqGuardType P.depth t then none else
        (match op with
         | .eql => some (.eqA false ks, [x, y])
         | .neq => some (.eqA true ks, [x, y])
         | _ => none)
      | none => none
    | some d => match (match d with | .slice _ => some 0 | .pointer _ => some 1 | .map _ _ => some 2 | .func _ _ _ => some 3 | _ => none : Option Nat) with
      | some kd => (match op with
         | .eql => some (.eqNil false kd, [x, y])
         | .neq => some (.eqNil true kd, [x, y])
         | _ => none)
      | none => none
    | _ => none
  | .unOp op _ x => some (.un op, [x])
  | .convert src dst x => match P.underlying src, P.underlying dst with
    | some (.int _), some (.int k) => some (.convI k, [x])
    | some .string, some .string => some (.convS, [x])
    | some .string, some (.slice e) => match P.underlying e with
      | some (.int .u8) => if P.cellsOf e = 1 then some (.s2b e, [x]) else none
      | _ => none
    | _, _ => none
  | .makeFunc fn first captured => match fn with
    | .func _ => some (.mkfn fn first.size, first.toList ++ captured.toList)
    | _ => none
  | .makeMap t none => match P.underlying t with
    | some (.map _ _) => some (.mkmap, [])
    | _ => none
  | .makeSlice t l c => match P.underlying t with
    | some (.slice e) => match P.info? e, zeroOf P e with
      | some i, some z => if i.bytes ≤ 2 ^ 16 then some (.mksl e i.size i.bytes z, [l, c]) else none
      | _, _ => none
    | _ => none
  | .slice t x l h m => match P.underlying t with
    | some .string => if m.isNone then some (.slcStr l.isSome h.isSome, x :: (l.toList ++ h.toList)) else none
    | some (.slice e) => match P.info? e with
      | some i => if i.size ≠ 0 ∧ (m.isSome → h.isSome) then some (.slc i.size l.isSome h.isSome m.isSome, x :: (l.toList ++ h.toList ++ m.toList)) else none
      | none => none
    | _ => none
  | .lookup t x i ok => match P.underlying t with
    | some (.map k e) => match zeroAV P e, keyKinds P k with
      | some z, some (agg, ks) => some (.lookup agg ks z ok, [x, i])
      | _, _ => none
    | _ => none
  | .mapUpdate t m k x => match P.underlying t with
    | some (.map kt _) => match keyKinds P kt with
      | some (agg, ks) => some (.mapup agg ks, [m, k, x])
      | none => none
    | _ => none
  | .extract x i => some (.ext i, [x])
  | .call c => match c.callee with
    | .value (.func f) => some (.callF f, c.args.toList)
    | .value f => some (.callV, f :: c.args.toList)
    | .builtin b => (compBuiltin P b c.argTypes.toList type).map fun k => (k, c.args.toList)
    | .invoke .. => none
  | _ => none
def compOper (P : Program) (ops : List Oper) (o : Oper) : Option Sim.Op1 :=
  match (compOp P o.op o.type).getD (.fail, []) with
  | (k, xs) => match opnds xs with
    | none => none
    | some ixs => match o.guard with
      | none => some { dst := o.dst, k, xs := ixs, guard := none }
      | some (j, w) => match ops[j]? with
        | some oj => match oj.dst with
          | some d => some { dst := o.dst, k, xs := ixs, guard := some (d, w) }
          | none => none
        | none => none
def maskOf (acc : List Nat) : List Edge → Nat
  | [] => 0
  | e :: es => if Region.binds .any e then (2 ^ e.on ||| acc.getD e.on 0) ||| maskOf acc es else maskOf acc es
def masksFrom (acc : List Nat) : List Oper → List Nat
  | [] => acc
  | o :: os => masksFrom (acc ++ [maskOf acc o.after.toList]) os
def Op1.reads (o : Sim.Op1) : List Nat :=
  (o.xs.filterMap fun | .t i => some i | .c _ => none) ++ (match o.guard with | some (i, _) => [i] | none => [])
def tmpsOK (j : Nat) (o : Sim.Op1) (mask : Nat) : List Sim.Op1 → Nat → Bool
  | [], _ => true
  | p :: ps, i => (i ≥ j || mask.testBit i || (match p.dst with
      | some d => o.dst != some d && !o.reads.contains d
      | none => true) && (match o.dst with
      | some d => !p.reads.contains d
      | none => true)) && tmpsOK j o mask ps (i + 1)
def regOK (ops : List Oper) (ios : List Sim.Op1) (masks : List Nat) : Bool :=
  (ops.zipIdx.all fun (o, i) => o.after.toList.all fun e => !Region.binds .any e || decide (e.on < i)) &&
  (ios.zipIdx.all fun (o, j) => tmpsOK j o (masks.getD j 0) ios 0)
def comp (P : Program) : Code → Option IC
  | .skip => some .skip
  | .region _ ops d =>
    match mapO (compOper P ops.toList) ops.toList with
    | none => none
    | some os => if d then
        (if regOK ops.toList os (masksFrom [] ops.toList) then some (.regD os (masksFrom [] ops.toList)) else none)
      else some (.reg os)
  | .seq a b => match comp P a, comp P b with
    | some x, some y => some (.seq x y)
    | _, _ => none
  | .cond c a b => match opnd c, comp P a, comp P b with
    | some o, some x, some y => some (.cond o x y)
    | _, _, _ => none
  | .block id c => (comp P c).map (.block id)
  | .loop c => (comp P c).map .loop
  | .rangeFunc f ps a b => match opnd f, comp P a, comp P b with
    | some o, some x, some y => some (.rangeF o ps.toList x y)
    | _, _, _ => none
  | .exit id => some (.exit id)
  | .ret => some .ret
  | _ => none
def compRes (P : Program) : ResultVar → Option RV
  | .tmp t => some (.tmp t)
  | .cell a t => match P.underlying t, P.info? t with
    | some _, some i => some (if isAggB P t then .cellA a i.size else .cellS a)
    | _, _ => none
def compFn (P : Program) (fn : Func) (pure frz : Bool) : Option IFn :=
  match fn.body with
  | none => none
  | some c => match comp P c, mapO (compRes P) fn.results.toList with
    | some ic, some rs => if fn.name != "runtime.NumGoroutine" then some { ntmps := fn.ntmps, res := rs, body := ic, pure, frz } else none
    | _, _ => none
end Go.Sim
set_option linter.unusedVariables false
namespace Go.Sim
structure Loc where
  b : Nat
  esz : Nat
  ct : Nat
  ver : Nat
structure Gh where
  G : Nat → Option Obj
  ι : Nat → Option Loc
def Gh.still (g : Gh) : Gh := { G := g.G, ι := fun _ => none }
def Gh.cell (g : Gh) (a : Addr) (j : Nat) : Option Value :=
  match g.G a.block with
  | some (.cells c _ _) => c[a.off + j]?
  | _ => none
def isCell : Value → Bool
  | .agg _ | .tuple _ => false
  | _ => true
inductive VR : Gh → AV → Value → Prop
  | v {g : Gh} {x : Value} (h : Value.ground x = true) : VR g (.v x) x
  | ip {g : Gh} {cells : List AV} {a : Addr} (hs : a.spot = none)
      (hc : ∀ (j : Nat) (x : AV), cells[j]? = some x → ∃ y, g.cell a j = some y ∧ isCell y = true)
      (hv : ∀ (j : Nat) (x : AV) (y : Value), cells[j]? = some x → g.cell a j = some y → VR g.still x y) : VR g (.ip cells) (.pointer (some a))
  | is {g : Gh} {esz : Nat} {els : List (List AV)} {a : Addr} {cap : Nat} (hs : a.spot = none) (hl : els.length ≤ cap)
      (hr : ∀ (i : Nat) (row : List AV), els[i]? = some row → row.length = esz)
      (hc : ∀ (i : Nat) (row : List AV) (j : Nat) (x : AV), els[i]? = some row → row[j]? = some x → ∃ y, g.cell a (i * esz + j) = some y ∧ isCell y = true)
      (hv : ∀ (i : Nat) (row : List AV) (j : Nat) (x : AV) (y : Value), els[i]? = some row → row[j]? = some x → g.cell a (i * esz + j) = some y → VR g.still x y) :
      VR g (.is esz els) (.slice (some a) els.length cap)
  | is0 {g : Gh} {esz cap : Nat} {p : Addr} : VR g (.is esz []) (.slice (some p) 0 cap)
  | es {g : Gh} {a : Option Addr} : VR g .es (.slice a 0 0)
  | ptr {g : Gh} {id ver e o : Nat} {loc : Loc} {p : Addr} (hi : g.ι id = some loc) (hver : ver ≤ loc.ver)
      (hp : loc.ver = ver → p = ⟨loc.b, e * loc.esz + o, none⟩) : VR g (.ptr id ver e o) (.pointer (some p))
  | sl {g : Gh} {esz id ver off len : Nat} {cap : Option Nat} {loc : Loc} {p : Addr} {c : Nat} (hi : g.ι id = some loc) (hver : ver ≤ loc.ver) (hlen : len ≤ c) (hs : p.spot = none)
      (hp : loc.ver = ver → loc.esz = esz ∧ (c = 0 ∨ p = ⟨loc.b, off * loc.esz, none⟩) ∧ off + c ≤ loc.ct ∧ (cap = none → off + c = loc.ct) ∧ (∀ k, cap = some k → c = k)) :
      VR g (.sl esz id ver off len cap) (.slice (some p) len c)
  | map {g : Gh} {id b : Nat} {loc : Loc} (hi : g.ι id = some loc) (hp : loc.ver = 0 → b = loc.b) : VR g (.map id) (.map (some b))
  | im {g : Gh} {es : List (AV × AV)} {b clock : Nat} {ents : Array MapEntry} (hb : g.G b = some (.map ents clock)) (hl : ents.size = es.length)
      (hk : ∀ (i : Nat) (k x : AV) (e : MapEntry), es[i]? = some (k, x) → ents[i]? = some e → VR g.still k e.key)
      (hv : ∀ (i : Nat) (k x : AV) (e : MapEntry), es[i]? = some (k, x) → ents[i]? = some e → VR g.still x e.val) : VR g (.im es) (.map (some b))
  | fn {g : Gh} {f : FuncId} {first cap : List AV} {first' cap' : Array Value} (h1 : first.length = first'.size) (h2 : cap.length = cap'.size)
      (v1 : ∀ (i : Nat) (x : AV) (y : Value), first[i]? = some x → first'[i]? = some y → VR g x y) (v2 : ∀ (i : Nat) (x : AV) (y : Value), cap[i]? = some x → cap'[i]? = some y → VR g x y) :
      VR g (.fn (.func f) first cap) (.func (.func f) first' cap')
  | yield {g : Gh} {l b : Nat} {loc : Loc} (hi : g.ι l = some loc) (hp : loc.ver = 0 → b = loc.b) : VR g (.fn (.yield l) [] []) (.func (.yield b) #[] #[])
  | agg {g : Gh} {cs : List AV} {Cs : Array Value} (hl : cs.length = Cs.size) (hc : ∀ (i : Nat) (y : Value), Cs[i]? = some y → isCell y = true)
      (hv : ∀ (i : Nat) (x : AV) (y : Value), cs[i]? = some x → Cs[i]? = some y → VR g x y) : VR g (.agg cs) (.agg Cs)
  | tup {g : Gh} {cs : List AV} {Cs : Array Value} (hl : cs.length = Cs.size)
      (hv : ∀ (i : Nat) (x : AV) (y : Value), cs[i]? = some x → Cs[i]? = some y → VR g x y) : VR g (.tup cs) (.tuple Cs)
structure Gh.le (g g' : Gh) : Prop where
  G : ∀ b o, g.G b = some o → g'.G b = some o
  ι : ∀ id loc, g.ι id = some loc → ∃ loc', g'.ι id = some loc' ∧ loc.ver ≤ loc'.ver ∧ (loc.ver = loc'.ver → loc' = loc)
theorem Gh.le.refl (g : Gh) : g.le g := ⟨fun _ _ h => h, fun _ loc h => ⟨loc, h, Nat.le_refl _, fun _ => rfl⟩⟩
theorem Gh.le.trans {a b c : Gh} (h : a.le b) (k : b.le c) : a.le c where
  G := fun x o hx => k.G x o (h.G x o hx)
  ι := fun id loc hi => by
    obtain ⟨l1, h1, v1, e1⟩ := h.ι id loc hi
    obtain ⟨l2, h2, v2, e2⟩ := k.ι id l1 h1
    refine ⟨l2, h2, Nat.le_trans v1 v2, fun e => ?_⟩
    have : l1.ver = loc.ver := by omega
    have h3 := e1 this.symm
    have h4 := e2 (by omega)
    rw [h4, h3]
theorem Gh.le.still {g g' : Gh} (h : g.le g') : g.still.le g'.still := ⟨h.G, fun _ _ h => by simp [Gh.still] at h⟩
theorem Gh.le.cell {g g' : Gh} (h : g.le g') {a : Addr} {j : Nat} {y : Value} (hy : g.cell a j = some y) : g'.cell a j = some y := by
  unfold Gh.cell at hy ⊢
  split at hy
  · rename_i c ty fr he
    rw [h.G _ _ he]
    exact hy
  · cases hy
theorem Gh.cell_still (g : Gh) (a : Addr) (j : Nat) : g.still.cell a j = g.cell a j := rfl
theorem VR.mono {g : Gh} {x : AV} {V : Value} (h : VR g x V) : ∀ {g' : Gh}, g.le g' → VR g' x V := by
  induction h with
  | v h => intro g' _; exact .v h
  | ip hs hc hv ih =>
    intro g' hg
    refine .ip hs (fun j x hx => ?_) (fun j x y hx hy => ?_)
    · obtain ⟨y, h1, h2⟩ := hc j x hx
      exact ⟨y, hg.cell h1, h2⟩
    · obtain ⟨y', h1, _⟩ := hc j x hx
      have h2 := hg.cell h1
      rw [h2] at hy
      cases hy
      exact ih j x _ hx h1 hg.still
  | is hs hl hr hc hv ih =>
    intro g' hg
    refine .is hs hl hr (fun i row j x h1 h2 => ?_) (fun i row j x y h1 h2 hy => ?_)
    · obtain ⟨y, h3, h4⟩ := hc i row j x h1 h2
      exact ⟨y, hg.cell h3, h4⟩
    · obtain ⟨y', h3, _⟩ := hc i row j x h1 h2
      have h4 := hg.cell h3
      rw [h4] at hy
      cases hy
      exact ih i row j x _ h1 h2 h3 hg.still
  | is0 => intro g' _; exact .is0
  | es => intro g' _; exact .es
  | ptr hi hver hp =>
    intro g' hg
    obtain ⟨l', h1, h2, h3⟩ := hg.ι _ _ hi
    refine .ptr h1 (Nat.le_trans hver h2) (fun e => ?_)
    have h4 := h3 (by omega)
    subst h4
    exact hp e
  | sl hi hver hlen hs hp =>
    intro g' hg
    obtain ⟨l', h1, h2, h3⟩ := hg.ι _ _ hi
    refine .sl h1 (Nat.le_trans hver h2) hlen hs (fun e => ?_)
    have h4 := h3 (by omega)
    subst h4
    exact hp e
  | map hi hp =>
    intro g' hg
    obtain ⟨l', h1, h2, h3⟩ := hg.ι _ _ hi
    refine .map h1 (fun e => ?_)
    have h4 := h3 (by omega)
    subst h4
    exact hp e
  | im hb hl hk hv ihk ihv =>
    intro g' hg
    exact .im (hg.G _ _ hb) hl (fun i k x e h1 h2 => ihk i k x e h1 h2 hg.still) (fun i k x e h1 h2 => ihv i k x e h1 h2 hg.still)
  | fn h1 h2 v1 v2 ih1 ih2 =>
    intro g' hg
    exact .fn h1 h2 (fun i x y a b => ih1 i x y a b hg) (fun i x y a b => ih2 i x y a b hg)
  | yield hi hp =>
    intro g' hg
    obtain ⟨l', h1, h2, h3⟩ := hg.ι _ _ hi
    refine .yield h1 (fun e => ?_)
    have h4 := h3 (by omega)
    subst h4
    exact hp e
  | agg hl hc hv ih =>
    intro g' hg
    exact .agg hl hc (fun i x y a b => ih i x y a b hg)
  | tup hl hv ih =>
    intro g' hg
    exact .tup hl (fun i x y a b => ih i x y a b hg)
def TR (g : Gh) (t : List AV) (v : List Value) : Prop :=
  t.length = v.length ∧ ∀ (i : Nat) (x : AV) (y : Value), t[i]? = some x → v[i]? = some y → VR g x y
theorem TR.nil (g : Gh) : TR g [] [] := ⟨rfl, fun i x y h => by simp at h⟩
theorem TR.cons {g : Gh} {x : AV} {y : Value} {t : List AV} {v : List Value} (h : VR g x y) (ht : TR g t v) : TR g (x :: t) (y :: v) :=
  ⟨by simp [ht.1], fun i a b ha hb => by
    cases i with
    | zero => simp at ha hb; subst ha hb; exact h
    | succ i => simp at ha hb; exact ht.2 i a b ha hb⟩
theorem TR.head {g : Gh} {x : AV} {y : Value} {t : List AV} {v : List Value} (h : TR g (x :: t) (y :: v)) : VR g x y := h.2 0 x y rfl rfl
theorem TR.tail {g : Gh} {x : AV} {y : Value} {t : List AV} {v : List Value} (h : TR g (x :: t) (y :: v)) : TR g t v :=
  ⟨by simpa using h.1, fun i a b ha hb => h.2 (i + 1) a b (by simpa using ha) (by simpa using hb)⟩
theorem TR.mono {g g' : Gh} {t : List AV} {v : List Value} (h : TR g t v) (hg : g.le g') : TR g' t v :=
  ⟨h.1, fun i x y a b => (h.2 i x y a b).mono hg⟩
theorem TR.append {g : Gh} {t t' : List AV} {v v' : List Value} (h : TR g t v) (h' : TR g t' v') : TR g (t ++ t') (v ++ v') := by
  induction t generalizing v with
  | nil =>
    have : v = [] := by have := h.1; simpa using this.symm
    subst this; exact h'
  | cons a t ih =>
    cases v with
    | nil => have := h.1; simp at this
    | cons b v => exact .cons h.head (ih h.tail)
theorem TR.set {g : Gh} {t : List AV} {v : List Value} (h : TR g t v) {x : AV} {y : Value} (hx : VR g x y) (d : Nat) : TR g (t.set d x) (v.set d y) := by
  refine ⟨by simp [h.1], fun i a b ha hb => ?_⟩
  rw [List.getElem?_set] at ha hb
  split at ha
  · rename_i e
    subst e
    split at ha
    · rw [if_pos rfl] at hb
      split at hb
      · cases ha; cases hb; exact hx
      · cases hb
    · cases ha
  · rename_i e
    rw [if_neg e] at hb
    exact h.2 i a b ha hb
theorem VR.undef (g : Gh) : VR g .undef undef := .tup (by simp) (fun i x y h => by simp at h)
theorem TR.replicate {g : Gh} {x : AV} {y : Value} (h : VR g x y) : ∀ n, TR g (List.replicate n x) (List.replicate n y)
  | 0 => .nil g
  | n + 1 => .cons h (TR.replicate h n)
theorem VR.isCell {g : Gh} {x : AV} {V : Value} (h : VR g x V) (h1 : ∀ cs, x ≠ .agg cs) (h2 : ∀ cs, x ≠ .tup cs) : Sim.isCell V = true := by
  cases h with
  | v h => cases V <;> simp_all [Value.ground, Sim.isCell]
  | agg => exact absurd rfl (h1 _)
  | tup => exact absurd rfl (h2 _)
  | _ => rfl
theorem VR.cells {g : Gh} {x : AV} {V : Value} (h : VR g x V) {cs : List AV} (hc : x.cells = some cs) :
    TR g cs V.cells.toList ∧ ∀ y ∈ V.cells.toList, Sim.isCell y = true := by
  cases x with
  | agg l =>
    simp only [AV.cells, Option.some.injEq] at hc
    subst hc
    cases h with
    | agg hl hc hv =>
      refine ⟨⟨by simpa [Value.cells] using hl, fun i x y a b => hv i x y a (by simpa [Value.cells] using b)⟩, fun y hy => ?_⟩
      simp only [Value.cells] at hy
      obtain ⟨i, hi⟩ := List.mem_iff_getElem?.1 hy
      exact hc i y (by simpa using hi)
  | tup l => simp [AV.cells] at hc
  | _ =>
    have h3 := h.isCell (by intro cs e; cases e) (by intro cs e; cases e)
    simp only [AV.cells, Option.some.injEq] at hc
    subst hc
    have h4 : V.cells = #[V] := by cases V <;> simp_all [Value.cells, Sim.isCell]
    rw [h4]
    exact ⟨.cons h (.nil g), fun y hy => by simp at hy; subst hy; exact h3⟩
theorem VR.bool {g : Gh} {b : Bool} {V : Value} (h : VR g (.v (.bool b)) V) : V = .bool b := by cases h; rfl
theorem VR.ground {g : Gh} {x V : Value} (h : VR g (.v x) V) : V = x := by cases h; rfl
def pendR : Option IC → Option Code → Prop
  | none, p => p = none
  | some .ret, p => p = some .ret
  | some (.exit i), p => p = some (.exit i)
  | _, _ => False
def OR (P : Program) (g : Gh) (w : World) (id : Nat) : AO → Prop
  | .arr _ ty esz ver els => ∃ loc cs, g.ι id = some loc ∧ loc.esz = esz ∧ loc.ver = ver ∧ esz ≠ 0 ∧ w.heap[loc.b]? = some (.cells cs ty (0, 0)) ∧ cs.size = loc.ct * esz ∧
      els.length ≤ loc.ct ∧ (∀ (i : Nat) (row : List AV), els[i]? = some row → row.length = esz) ∧
      ∀ (i : Nat) (row : List AV) (j : Nat) (x : AV), els[i]? = some row → row[j]? = some x → ∃ y, cs[i * esz + j]? = some y ∧ isCell y = true ∧ VR g x y
  | .map es => ∃ loc ents clock, g.ι id = some loc ∧ loc.ver = 0 ∧ w.heap[loc.b]? = some (.map ents clock) ∧ ents.size = es.length ∧
      ∀ (i : Nat) (k x : AV) (e : MapEntry), es[i]? = some (k, x) → ents[i]? = some e → VR g k e.key ∧ VR g x e.val
  | .loop st pend tmps params assign body => ∃ (loc : Loc) (L : Loop), g.ι id = some loc ∧ loc.ver = 0 ∧ w.heap[loc.b]? = some (.loop L) ∧ L.state = st ∧
      pendR pend L.pending ∧
      TR g tmps L.tmps.toList ∧ L.params = params.toArray ∧ comp P L.assign = some assign ∧ comp P L.body = some body
def HR (P : Program) (g : Gh) (L : Nat → Option AO) (w : World) : Prop := ∀ id ao, L id = some ao → OR P g w id ao
structure WG (g : Gh) (w : World) : Prop where
  still : ∀ b o, g.G b = some o → w.heap[b]? = some o
  lt : ∀ id loc, g.ι id = some loc → loc.b < w.heap.size
  out : ∀ id loc, g.ι id = some loc → g.G loc.b = none
  inj : ∀ id id' loc loc', g.ι id = some loc → g.ι id' = some loc' → loc.b = loc'.b → id = id'
structure Ext (lim : Nat) (g g' : Gh) (w w' : World) : Prop where
  le : g.le g'
  size : w.heap.size ≤ w'.heap.size
  keep : ∀ b, b < w.heap.size → (∀ id loc, lim ≤ id → g.ι id = some loc → loc.b ≠ b) → w'.heap[b]? = w.heap[b]?
  fresh : ∀ id loc', g'.ι id = some loc' → (∃ loc, g.ι id = some loc ∧ loc.b = loc'.b) ∨ w.heap.size ≤ loc'.b
  old : ∀ id, id < lim → g'.ι id = g.ι id
  os : w'.os = w.os
  tape : w'.tape = w.tape
  output : w'.output = w.output
  gfresh : ∀ b o, g'.G b = some o → g.G b = some o ∨ w.heap.size ≤ b
theorem Ext.refl (lim : Nat) (g : Gh) (w : World) : Ext lim g g w w :=
  ⟨.refl g, Nat.le_refl _, fun _ _ _ => rfl, fun id loc h => .inl ⟨loc, h, rfl⟩, fun _ _ => rfl, rfl, rfl, rfl, fun _ _ h => .inl h⟩
theorem Ext.trans {lim : Nat} {g g' g'' : Gh} {w w' w'' : World} (h : Ext lim g g' w w') (k : Ext lim g' g'' w' w'') : Ext lim g g'' w w'' where
  le := h.le.trans k.le
  size := Nat.le_trans h.size k.size
  keep := fun b hb hn => by
    rw [k.keep b (Nat.lt_of_lt_of_le hb h.size) (fun id loc hl hi e => ?_), h.keep b hb hn]
    rcases h.fresh id loc hi with ⟨loc0, h0, e0⟩ | h0
    · exact hn id loc0 hl h0 (e0.trans e)
    · omega
  fresh := fun id loc' hi => by
    rcases k.fresh id loc' hi with ⟨loc0, h0, e0⟩ | h0
    · rcases h.fresh id loc0 h0 with ⟨loc1, h1, e1⟩ | h1
      · exact .inl ⟨loc1, h1, e1.trans e0⟩
      · exact .inr (by omega)
    · exact .inr (Nat.le_trans h.size h0)
  old := fun id hl => (k.old id hl).trans (h.old id hl)
  os := k.os.trans h.os
  tape := k.tape.trans h.tape
  output := k.output.trans h.output
  gfresh := fun b o hb => by
    rcases k.gfresh b o hb with h1 | h1
    · exact h.gfresh b o h1
    · exact .inr (Nat.le_trans h.size h1)
theorem Ext.mono {lim lim' : Nat} {g g' : Gh} {w w' : World} (hl : lim ≤ lim') (h : Ext lim' g g' w w') : Ext lim g g' w w' :=
  ⟨h.le, h.size, fun b hb hn => h.keep b hb (fun id loc hi => hn id loc (by omega)), h.fresh, fun id hi => h.old id (by omega), h.os, h.tape, h.output, h.gfresh⟩
theorem OR.mono {P : Program} {g g' : Gh} {w w' : World} {id : Nat} {ao : AO} (h : OR P g w id ao) (hg : g.le g') (hi : g'.ι id = g.ι id)
    (hb : ∀ loc, g.ι id = some loc → w'.heap[loc.b]? = w.heap[loc.b]?) : OR P g' w' id ao := by
  cases ao with
  | arr bx ty esz ver els =>
    obtain ⟨loc, cs, h1, h2, h3, h4, h5, h6, h7, h8, h9⟩ := h
    refine ⟨loc, cs, hi.trans h1, h2, h3, h4, (hb loc h1).trans h5, h6, h7, h8, fun i row j x a b => ?_⟩
    obtain ⟨y, k1, k2, k3⟩ := h9 i row j x a b
    exact ⟨y, k1, k2, k3.mono hg⟩
  | map es =>
    obtain ⟨loc, ents, clock, h1, h2, h3, h4, h5⟩ := h
    exact ⟨loc, ents, clock, hi.trans h1, h2, (hb loc h1).trans h3, h4, fun i k x e a b => ⟨(h5 i k x e a b).1.mono hg, (h5 i k x e a b).2.mono hg⟩⟩
  | loop st pend tmps params assign body =>
    obtain ⟨loc, L, h1, h2, h3, h4, h5, h6, h7, h8, h9⟩ := h
    exact ⟨loc, L, hi.trans h1, h2, (hb loc h1).trans h3, h4, h5, h6.mono hg, h7, h8, h9⟩
theorem heap_alloc_lt (w : World) (o : Obj) {b : Nat} (h : b < w.heap.size) : (w.alloc o).heap[b]? = w.heap[b]? := Go.RowKit.Below.heap_alloc w o b h
theorem ext_still {lim : Nat} {g : Gh} {w : World} (hw : WG g w) (o : Obj) :
    Ext lim g { G := fun b => if b = w.heap.size then some o else g.G b, ι := g.ι } w (w.alloc o) ∧
    WG { G := fun b => if b = w.heap.size then some o else g.G b, ι := g.ι } (w.alloc o) := by
  have hG : ∀ b o', g.G b = some o' → b < w.heap.size := fun b o' h => by
    have := hw.still b o' h
    exact (Array.getElem?_eq_some_iff.1 this).1
  refine ⟨⟨⟨fun b o' h => ?_, fun id loc h => ⟨loc, h, Nat.le_refl _, fun _ => rfl⟩⟩, by simp, fun b hb _ => heap_alloc_lt w o hb, fun id loc h => .inl ⟨loc, h, rfl⟩, fun _ _ => rfl, rfl, rfl, rfl, fun b o' h => by
      simp only at h
      split at h
      · exact .inr (by omega)
      · exact .inl h⟩,
    ⟨fun b o' h => ?_, fun id loc h => ?_, fun id loc h => ?_, hw.inj⟩⟩
  · have := hG b o' h
    simp only
    rw [if_neg (by omega)]
    exact h
  · simp only at h
    split at h
    · rename_i e
      cases h
      subst e
      exact heap_alloc_new w o
    · rw [heap_alloc_lt w o (hG b o' h)]
      exact hw.still b o' h
  · have := hw.lt id loc h
    simp
    omega
  · have := hw.lt id loc h
    simp only
    rw [if_neg (by omega)]
    exact hw.out id loc h
theorem ext_new {lim : Nat} {g : Gh} {w : World} (hw : WG g w) (o : Obj) (n : Nat) (loc : Loc) (hb : loc.b = w.heap.size) (hn : g.ι n = none) (hl : lim ≤ n) :
    Ext lim g { G := g.G, ι := fun id => if id = n then some loc else g.ι id } w (w.alloc o) ∧
    WG { G := g.G, ι := fun id => if id = n then some loc else g.ι id } (w.alloc o) := by
  have hG : ∀ b o', g.G b = some o' → b < w.heap.size := fun b o' h => by
    have := hw.still b o' h
    exact (Array.getElem?_eq_some_iff.1 this).1
  refine ⟨⟨⟨fun b o' h => h, fun id l h => ?_⟩, by simp, fun b hb _ => heap_alloc_lt w o hb, fun id l h => ?_, fun id h => ?_, rfl, rfl, rfl, fun b o' h => .inl h⟩,
    ⟨fun b o' h => ?_, fun id l h => ?_, fun id l h => ?_, fun id id' l l' h h' e => ?_⟩⟩
  · refine ⟨l, ?_, Nat.le_refl _, fun _ => rfl⟩
    simp only
    rw [if_neg (by intro e; subst e; rw [hn] at h; cases h)]
    exact h
  · simp only at h
    split at h
    · cases h; exact .inr (by omega)
    · exact .inl ⟨l, h, rfl⟩
  · simp only
    rw [if_neg (by omega)]
  · rw [heap_alloc_lt w o (hG b o' h)]
    exact hw.still b o' h
  · simp only at h
    split at h
    · cases h; simp; omega
    · have := hw.lt id l h
      simp
      omega
  · simp only at h
    split at h
    · cases h
      simp only
      cases hG' : g.G loc.b with
      | none => rfl
      | some o' => have := hG _ _ hG'; omega
    · exact hw.out id l h
  · simp only at h h'
    split at h <;> split at h'
    · rename_i a b; rw [a, b]
    · cases h
      have := hw.lt id' l' h'
      omega
    · cases h'
      have := hw.lt id l h
      omega
    · exact hw.inj id id' l l' h h' e
end Go.Sim
set_option linter.unusedVariables false
set_option linter.unusedSimpArgs false
namespace Go.Sim
def Out.base (o : Out) (L : Nat → Option AO) (id : Nat) : Option AO :=
  match o.up with
  | some (i, ob) => if id = i then some ob else L id
  | none => L id
def Out.after (o : Out) (L : Nat → Option AO) (n : Nat) (id : Nat) : Option AO :=
  match o.new with
  | some ob => if id = n then some ob else o.base L id
  | none => o.base L id
def Good (P : Program) (g : Gh) (lim : Nat) (w : World) (L : Nat → Option AO) (n : Nat) (out : Out) (s : Sem Next) : Prop :=
  ∃ V nx g' w', s.run P w = .ok nx w' ∧ (nx = .value V ∨ (nx = .skip ∧ V = undef)) ∧ VR g' out.v V ∧ HR P g' (out.after L n) w' ∧ WG g' w' ∧ Ext lim g g' w w' ∧
    (∀ id, g'.ι id ≠ none → g.ι id ≠ none ∨ (id = n ∧ out.new.isSome))
section
variable {P : Program} {g : Gh} {lim : Nat} {w : World} {L : Nat → Option AO} {n : Nat}
theorem after_plain (v : AV) : Out.after { v := v } L n = L := rfl
theorem good_pure {s : Sem Next} {v : AV} {V : Value} (hr : s.run P w = .ok (.value V) w) (hv : VR g v V) (hH : HR P g L w) (hW : WG g w) :
    Good P g lim w L n { v := v } s :=
  ⟨V, _, g, w, hr, .inl rfl, hv, hH, hW, .refl lim g w, fun _ h => .inl h⟩
theorem good_new {s : Sem Next} {v : AV} {V : Value} {ao : AO} {o : Obj} {loc : Loc} {w₁ : World} (hw₁ : w₁ = w ∨ w₁ = w.drew) (hr : s.run P w = .ok (.value V) (w₁.alloc o))
    (hb : loc.b = w.heap.size) (hn : g.ι n = none) (hl : lim ≤ n)
    (hv : ∀ g', g.le g' → g'.ι n = some loc → VR g' v V)
    (ho : ∀ g', g.le g' → g'.ι n = some loc → OR P g' (w.alloc o) n ao) (hH : HR P g L w) (hW : WG g w) :
    Good P g lim w L n { v := v, new := some ao } s := by
  obtain ⟨hE, hW'⟩ := ext_new (lim := lim) hW o n loc hb hn hl
  have hle := hE.le
  have hi : (if n = n then some loc else g.ι n) = some loc := if_pos rfl
  have hd : ∀ w₂ : World, w₂ = w ∨ w₂ = w.drew → (w₂.alloc o).heap = (w.alloc o).heap := by rintro w₂ (rfl | rfl) <;> rfl
  have hh := hd w₁ hw₁
  have hor : ∀ {id : Nat} {a : AO} {g' : Gh}, OR P g' (w.alloc o) id a → OR P g' (w₁.alloc o) id a := fun {id a g'} h =>
    h.mono (Gh.le.refl g') rfl (fun loc _ => by rw [hh])
  refine ⟨V, _, _, _, hr, .inl rfl, hv _ hle hi, ?_, ?_, ?_, ?_⟩
  · intro id a ha
    simp only [Out.after, Out.base] at ha
    split at ha
    · rename_i e
      subst e
      cases ha
      exact hor (ho _ hle hi)
    · rename_i e
      refine hor ((hH id a ha).mono hle ?_ (fun l hl => heap_alloc_lt w o (hW.lt id l hl)))
      simp only
      rw [if_neg e]
  · exact ⟨fun b o' h => by rw [hh]; exact hW'.still b o' h, fun id l h => by rw [hh]; exact hW'.lt id l h, hW'.out, hW'.inj⟩
  · exact ⟨hE.le, by rw [hh]; exact hE.size, fun b hb hn => by rw [hh]; exact hE.keep b hb hn, hE.fresh, hE.old, by rcases hw₁ with rfl | rfl <;> rfl, by rcases hw₁ with rfl | rfl <;> rfl, by rcases hw₁ with rfl | rfl <;> rfl, hE.gfresh⟩
  · intro id h
    simp only at h
    split at h
    · rename_i e; exact .inr ⟨e, rfl⟩
    · exact .inl h
theorem good_up {s : Sem Next} {v : AV} {V : Value} {nx : Next} {ao' : AO} {id : Nat} {o : Obj} {loc : Loc} {ver : Nat} {w' : World} (hr : s.run P w = .ok nx w')
    (hnx : nx = .value V ∨ (nx = .skip ∧ V = undef))
    (hi : g.ι id = some loc) (hl : lim ≤ id) (hver : loc.ver ≤ ver)
    (hb : w'.heap[loc.b]? = some o) (hob : ∀ b, b ≠ loc.b → w'.heap[b]? = w.heap[b]?) (hsz : w'.heap.size = w.heap.size)
    (hos : w'.os = w.os) (htape : w'.tape = w.tape) (hout : w'.output = w.output)
    (hv : ∀ g', g.le g' → g'.ι id = some { loc with ver := ver } → VR g' v V)
    (ho : ∀ g', g.le g' → g'.ι id = some { loc with ver := ver } → OR P g' w' id ao') (hH : HR P g L w) (hW : WG g w) :
    Good P g lim w L n { v := v, up := some (id, ao') } s := by
  let g' : Gh := { G := g.G, ι := fun i => if i = id then some { loc with ver := ver } else g.ι i }
  have hle : g.le g' := ⟨fun b o h => h, fun i l h => by
    by_cases e : i = id
    · subst e
      rw [hi] at h
      cases h
      exact ⟨{ loc with ver := ver }, if_pos rfl, hver, fun e => by
        have e : loc.ver = ver := e
        subst e; rfl⟩
    · exact ⟨l, (if_neg e).trans h, Nat.le_refl _, fun _ => rfl⟩⟩
  have hi' : g'.ι id = some { loc with ver := ver } := if_pos rfl
  have hne : ∀ i l, g.ι i = some l → i ≠ id → l.b ≠ loc.b := fun i l h1 h2 h3 => h2 (hW.inj i id l loc h1 hi h3)
  refine ⟨V, nx, g', w', hr, hnx, hv g' hle hi', ?_, ⟨?_, ?_, ?_, ?_⟩, ⟨hle, by omega, ?_, ?_, ?_, hos, htape, hout, fun b o h => .inl h⟩, ?_⟩
  · intro i a ha
    simp only [Out.after, Out.base] at ha
    split at ha
    · rename_i e
      subst e
      cases ha
      exact ho g' hle hi'
    · rename_i e
      exact (hH i a ha).mono hle (if_neg e) (fun l hl => hob _ (hne i l hl e))
  · intro b o' h
    have h : g.G b = some o' := h
    rw [hob b (fun e => by subst e; rw [hW.out id loc hi] at h; cases h)]
    exact hW.still b o' h
  · intro i l h
    by_cases e : i = id
    · subst e
      rw [hi'] at h
      cases h
      have := hW.lt i loc hi
      simp only
      omega
    · have := hW.lt i l ((if_neg e).symm.trans h)
      omega
  · intro i l h
    by_cases e : i = id
    · subst e
      rw [hi'] at h
      cases h
      exact hW.out i loc hi
    · exact hW.out i l ((if_neg e).symm.trans h)
  · intro i j l l' h1 h2 h3
    by_cases e1 : i = id <;> by_cases e2 : j = id
    · rw [e1, e2]
    · subst e1
      rw [hi'] at h1
      cases h1
      exact absurd h3.symm (hne j l' ((if_neg e2).symm.trans h2) e2)
    · subst e2
      rw [hi'] at h2
      cases h2
      exact absurd h3 (hne i l ((if_neg e1).symm.trans h1) e1)
    · exact hW.inj i j l l' ((if_neg e1).symm.trans h1) ((if_neg e2).symm.trans h2) h3
  · intro b hb hn
    exact hob b (fun e => hn id loc hl hi e.symm)
  · intro i l h
    by_cases e : i = id
    · subst e
      rw [hi'] at h
      cases h
      exact .inl ⟨loc, hi, rfl⟩
    · exact .inl ⟨l, (if_neg e).symm.trans h, rfl⟩
  · intro i h
    exact if_neg (by omega)
  · intro i h
    by_cases e : i = id
    · subst e
      exact .inl (by rw [hi]; simp)
    · exact .inl (fun e' => h ((if_neg e).trans e'))
theorem good_move {s : Sem Next} {v : AV} {V : Value} {ao' : AO} {id : Nat} {o : Obj} {loc loc' : Loc} {w₁ : World} (hw₁ : w₁ = w ∨ w₁ = w.drew) (hr : s.run P w = .ok (.value V) (w₁.alloc o))
    (hi : g.ι id = some loc) (hl : lim ≤ id) (hver : loc.ver < loc'.ver) (hb : loc'.b = w.heap.size)
    (hv : ∀ g', g.le g' → g'.ι id = some loc' → VR g' v V)
    (ho : ∀ g', g.le g' → g'.ι id = some loc' → OR P g' (w.alloc o) id ao') (hH : HR P g L w) (hW : WG g w) :
    Good P g lim w L n { v := v, up := some (id, ao') } s := by
  let g' : Gh := { G := g.G, ι := fun i => if i = id then some loc' else g.ι i }
  have hle : g.le g' := ⟨fun b o h => h, fun i l h => by
    by_cases e : i = id
    · subst e
      rw [hi] at h
      cases h
      exact ⟨loc', if_pos rfl, by omega, fun e => by omega⟩
    · exact ⟨l, (if_neg e).trans h, Nat.le_refl _, fun _ => rfl⟩⟩
  have hi' : g'.ι id = some loc' := if_pos rfl
  have hd : (w₁.alloc o).heap = (w.alloc o).heap := by rcases hw₁ with rfl | rfl <;> rfl
  have hor : ∀ {i : Nat} {a : AO} {g' : Gh}, OR P g' (w.alloc o) i a → OR P g' (w₁.alloc o) i a := fun {i a g'} h =>
    h.mono (Gh.le.refl g') rfl (fun loc _ => by rw [hd])
  have hG : ∀ b o', g.G b = some o' → b < w.heap.size := fun b o' h => (Array.getElem?_eq_some_iff.1 (hW.still b o' h)).1
  refine ⟨V, _, g', _, hr, .inl rfl, hv g' hle hi', ?_, ⟨?_, ?_, ?_, ?_⟩, ⟨hle, by rw [hd]; simp, ?_, ?_, ?_, by rcases hw₁ with rfl | rfl <;> rfl, by rcases hw₁ with rfl | rfl <;> rfl, by rcases hw₁ with rfl | rfl <;> rfl, fun b o h => .inl h⟩, ?_⟩
  · intro i a ha
    simp only [Out.after, Out.base] at ha
    split at ha
    · rename_i e
      subst e
      cases ha
      exact hor (ho g' hle hi')
    · rename_i e
      exact hor ((hH i a ha).mono hle (if_neg e) (fun l hl => heap_alloc_lt w o (hW.lt i l hl)))
  · intro b o' h
    have h : g.G b = some o' := h
    rw [hd, heap_alloc_lt w o (hG b o' h)]
    exact hW.still b o' h
  · intro i l h
    rw [hd]
    by_cases e : i = id
    · subst e
      rw [hi'] at h
      cases h
      simp
      omega
    · have := hW.lt i l ((if_neg e).symm.trans h)
      simp
      omega
  · intro i l h
    by_cases e : i = id
    · subst e
      rw [hi'] at h
      cases h
      show g.G loc'.b = none
      cases hG' : g.G loc'.b with
      | none => rfl
      | some o' => have := hG _ _ hG'; omega
    · exact hW.out i l ((if_neg e).symm.trans h)
  · intro i j l l' h1 h2 h3
    by_cases e1 : i = id <;> by_cases e2 : j = id
    · rw [e1, e2]
    · subst e1
      rw [hi'] at h1
      cases h1
      have := hW.lt j l' ((if_neg e2).symm.trans h2)
      omega
    · subst e2
      rw [hi'] at h2
      cases h2
      have := hW.lt i l ((if_neg e1).symm.trans h1)
      omega
    · exact hW.inj i j l l' ((if_neg e1).symm.trans h1) ((if_neg e2).symm.trans h2) h3
  · intro b hb hn
    rw [hd]
    exact heap_alloc_lt w o hb
  · intro i l h
    by_cases e : i = id
    · subst e
      rw [hi'] at h
      cases h
      exact .inr (by omega)
    · exact .inl ⟨l, (if_neg e).symm.trans h, rfl⟩
  · intro i h
    exact if_neg (by omega)
  · intro i h
    by_cases e : i = id
    · subst e
      exact .inl (by rw [hi]; simp)
    · exact .inl (fun e' => h ((if_neg e).trans e'))
end
end Go.Sim
set_option linter.unusedVariables false
set_option linter.unusedSimpArgs false
namespace Go.Sim
section
variable {P : Program} {g : Gh} {lim : Nat} {w : World} {L : Nat → Option AO} {n : Nat}
theorem tr1 {x : AV} {vs : List Value} (h : TR g [x] vs) : ∃ V, vs = [V] ∧ VR g x V := by
  match vs, h with
  | [], h => have := h.1; simp at this
  | [V], h => exact ⟨V, rfl, h.head⟩
  | _ :: _ :: _, h => have := h.1; simp at this
theorem tr2 {x y : AV} {vs : List Value} (h : TR g [x, y] vs) : ∃ V W, vs = [V, W] ∧ VR g x V ∧ VR g y W := by
  match vs, h with
  | [], h => have := h.1; simp at this
  | V :: r, h => obtain ⟨W, rfl, hW⟩ := tr1 h.tail; exact ⟨V, W, rfl, h.head, hW⟩
theorem tr3 {x y z : AV} {vs : List Value} (h : TR g [x, y, z] vs) : ∃ V W X, vs = [V, W, X] ∧ VR g x V ∧ VR g y W ∧ VR g z X := by
  match vs, h with
  | [], h => have := h.1; simp at this
  | V :: r, h => obtain ⟨W, X, rfl, hW, hX⟩ := tr2 h.tail; exact ⟨V, W, X, rfl, h.head, hW, hX⟩
theorem isAggB_run {t : TypeId} (h : P.underlying t ≠ none) (w : World) : (isAgg t).run P w = .ok (isAggB P t) w := by
  unfold isAgg isAggB
  cases hu : P.underlying t with
  | none => exact absurd hu h
  | some d => simp only [Sem.run_bind, run_underlying hu, Result.andThen_ok]; cases d <;> rfl
theorem sizeOf_run {t : TypeId} {i : TypeInfo} (h : P.info? t = some i) (w : World) : (sizeOf t).run P w = .ok i.size w := by
  simp [sizeOf, typeInfo, h]
theorem zeroValue_run {t : TypeId} {i : TypeInfo} {z : Value} (h : P.info? t = some i) (hz : i.zero = some z) (w : World) : (zeroValue t).run P w = .ok z w := by
  simp [zeroValue, typeInfo, h, hz]
theorem zeroOf_spec {t : TypeId} {cs : List Value} (h : zeroOf P t = some cs) :
    ∃ i z, P.info? t = some i ∧ i.zero = some z ∧ z.cells.toList = cs ∧ cs.all Value.ground = true ∧ cs.length = i.size ∧ i.size ≠ 0 := by
  unfold zeroOf at h
  cases hi : P.info? t with
  | none => simp [hi] at h
  | some i =>
    simp only [hi] at h
    cases hz : i.zero with
    | none => simp [hz] at h
    | some z =>
      simp only [hz] at h
      split at h
      · rename_i hc
        simp only [Bool.and_eq_true, beq_iff_eq, bne_iff_ne, ne_eq] at hc
        cases h
        exact ⟨i, z, rfl, hz, rfl, hc.1.1, hc.1.2, hc.2⟩
      · cases h
theorem ground_isCell {x : Value} (h : Value.ground x = true) : isCell x = true := by
  cases x <;> simp_all [Value.ground, isCell]
theorem tr_zero {zs : List Value} (h : zs.all Value.ground = true) : TR g (zeroRow zs) zs := by
  induction zs with
  | nil => exact .nil g
  | cons a zs ih =>
    simp only [List.all_cons, Bool.and_eq_true] at h
    exact .cons (.v h.1) (ih h.2)
theorem cells_ground {zs : List Value} (h : zs.all Value.ground = true) : ∀ y ∈ zs, isCell y = true := fun y hy =>
  ground_isCell (List.all_eq_true.1 h y hy)
theorem or_new {ty : TypeId} {esz ct : Nat} {bx : Bool} {els : List (List AV)} {cs : Array Value} {id : Nat} {loc : Loc} (g' : Gh) (hi : g'.ι id = some loc) (he : loc.esz = esz) (hv : loc.ver = 0)
    (hb : loc.b = w.heap.size) (hct : loc.ct = ct) (h0 : esz ≠ 0) (hs : cs.size = ct * esz) (hl : els.length ≤ ct) (hr : ∀ (i : Nat) (row : List AV), els[i]? = some row → row.length = esz)
    (hc : ∀ (i : Nat) (row : List AV) (j : Nat) (x : AV), els[i]? = some row → row[j]? = some x → ∃ y, cs[i * esz + j]? = some y ∧ isCell y = true ∧ VR g' x y) :
    OR P g' (w.alloc (.cells cs ty)) id (.arr bx ty esz 0 els) :=
  ⟨loc, cs, hi, he, hv, h0, by rw [hb]; exact heap_alloc_new w _, by rw [hct]; exact hs, by rw [hct]; exact hl, hr, hc⟩
theorem or_one {ty : TypeId} {bx : Bool} {row : List AV} {cs : List Value} {id : Nat} {loc : Loc} (g' : Gh) (hi : g'.ι id = some loc) (he : loc.esz = row.length) (hv : loc.ver = 0)
    (hb : loc.b = w.heap.size) (hct : loc.ct = 1) (h0 : row.length ≠ 0) (ht : TR g' row cs) (hc : ∀ y ∈ cs, isCell y = true) :
    OR P g' (w.alloc (.cells cs.toArray ty)) id (.arr bx ty row.length 0 [row]) := by
  refine or_new g' hi he hv hb hct h0 (by simp [ht.1]) (by simp) (fun i r h => ?_) (fun i r j x h hx => ?_)
  · cases i with
    | zero => simp at h; subst h; rfl
    | succ i => simp at h
  · cases i with
    | zero =>
      simp at h
      subst h
      have hj : j < row.length := (List.getElem?_eq_some_iff.1 hx).1
      have hj' : j < cs.length := by have := ht.1; omega
      refine ⟨cs[j], by simp [hj'], hc _ (List.getElem_mem hj'), ht.2 j x _ hx (by simp [hj'])⟩
    | succ i => simp at h
variable (ρ : Operand → Value) (o : Oper) {k : OpK} {os : List Operand} {xs : List AV} {out : Out}
theorem op_mov {x : Operand} (ho : o.op = .move x ∨ o.op = .assign x) (hx : TR g xs [ρ x]) (hd : doOp L lim n .mov xs = some out) (hH : HR P g L w) (hW : WG g w) :
    Good P g lim w L n out (execOp ρ o) := by
  match xs, hx with
  | [], hx => have := hx.1; simp at this
  | [a], hx =>
    simp only [doOp, Option.some.injEq] at hd
    subst hd
    refine good_pure (V := ρ x) ?_ hx.head hH hW
    rcases ho with ho | ho <;> simp [execOp, ho]
  | _ :: _ :: _, hx => have := hx.1; simp at this
theorem op_pick {c a b : Operand} (ho : o.op = .pick c a b) (hx : TR g xs [ρ c, ρ a, ρ b]) (hd : doOp L lim n .pick xs = some out) (hH : HR P g L w) (hW : WG g w) :
    Good P g lim w L n out (execOp ρ o) := by
  match xs, hx with
  | [], hx => have := hx.1; simp at this
  | [_], hx => have := hx.1; simp at this
  | [_, _], hx => have := hx.1; simp at this
  | [x, y, z], hx =>
    simp only [doOp] at hd
    split at hd
    · rename_i t
      cases hd
      have hc := hx.head.bool
      refine good_pure (V := if t then ρ a else ρ b) ?_ ?_ hH hW
      · simp [execOp, ho, hc, asBool]
      · cases t
        · exact hx.tail.tail.head
        · exact hx.tail.head
    · cases hd
  | _ :: _ :: _ :: _ :: _, hx => have := hx.1; simp at this
theorem op_nilc {x : Operand} (ho : o.op = .nilCheck x) (hx : TR g xs [ρ x]) (hd : doOp L lim n .nilc xs = some out) (hH : HR P g L w) (hW : WG g w) :
    Good P g lim w L n out (execOp ρ o) := by
  match xs, hx with
  | [], hx => have := hx.1; simp at this
  | [a], hx =>
    have ha := hx.head
    simp only [doOp] at hd
    have key : ∀ V, ρ x = V → (∃ p, V = .pointer (some p)) ∨ (∃ f c d, V = .func (.func f) c d) ∨ (∃ f c d, V = .func (.yield f) c d) → (execOp ρ o).run P w = .ok (.value V) w := by
      intro V hV h
      rcases h with ⟨p, rfl⟩ | ⟨f, c, d, rfl⟩ | ⟨f, c, d, rfl⟩ <;> simp [execOp, ho, hV]
    split at hd
    · cases hd
      refine good_pure (key _ rfl ?_) ha hH hW
      generalize ρ x = V at ha
      cases ha
      exact .inl ⟨_, rfl⟩
    · cases hd
      refine good_pure (key _ rfl ?_) ha hH hW
      generalize ρ x = V at ha
      cases ha
      exact .inl ⟨_, rfl⟩
    · cases hd
      refine good_pure (key _ rfl ?_) ha hH hW
      generalize ρ x = V at ha
      cases ha
      exact .inr (.inl ⟨_, _, _, rfl⟩)
    · cases hd
      refine good_pure (key _ rfl ?_) ha hH hW
      generalize ρ x = V at ha
      cases ha
      exact .inr (.inr ⟨_, _, _, rfl⟩)
    · cases hd
  | _ :: _ :: _, hx => have := hx.1; simp at this
theorem op_box {ty : TypeId} {x : Operand} {i : TypeInfo} (ho : o.op = .box ty x) (hi : P.info? ty = some i) (hx : TR g xs [ρ x]) (hd : doOp L lim n (.box ty i.size) xs = some out) (hH : HR P g L w) (hW : WG g w)
    (hn : g.ι n = none) (hl : lim ≤ n) : Good P g lim w L n out (execOp ρ o) := by
  match xs, hx with
  | [], hx => have := hx.1; simp at this
  | [a], hx =>
    have ha := hx.head
    simp only [doOp] at hd
    split at hd
    · rename_i cs hcs
      split at hd
      · rename_i hc
        obtain ⟨hlen, hpos⟩ := hc
        cases hd
        obtain ⟨ht, hcell⟩ := ha.cells hcs
        refine good_new (w₁ := w) (o := .cells (ρ x).cells ty) (V := .pointer (some ⟨w.heap.size, 0, none⟩)) (loc := ⟨w.heap.size, cs.length, 1, 0⟩) (.inl rfl) ?_ rfl hn hl ?_ ?_ hH hW
        · simp [execOp, ho, Instr.box, newVar, newRow]
        · intro g' hg' hi'
          exact .ptr hi' (Nat.le_refl _) (fun _ => by simp)
        · intro g' hg' hi'
          rw [← hlen]
          have := or_one (P := P) (w := w) (ty := ty) (bx := true) g' hi' rfl rfl rfl rfl (by omega) (ht.mono hg') hcell
          simpa using this
      · cases hd
    · cases hd
  | _ :: _ :: _, hx => have := hx.1; simp at this
theorem op_alloc {ty : TypeId} {z : List Value} (ho : o.op = .alloc ty) (hz : zeroOf P ty = some z) (hx : TR g xs []) (hd : doOp L lim n (.alloc ty z) xs = some out) (hH : HR P g L w) (hW : WG g w)
    (hn : g.ι n = none) (hl : lim ≤ n) : Good P g lim w L n out (execOp ρ o) := by
  match xs, hx with
  | [], hx =>
    simp only [doOp, Option.some.injEq] at hd
    subst hd
    obtain ⟨i, zv, hi, hzv, hcs, hg, hlen, hne⟩ := zeroOf_spec hz
    refine good_new (w₁ := w) (o := .cells zv.cells ty) (V := .pointer (some ⟨w.heap.size, 0, none⟩)) (loc := ⟨w.heap.size, z.length, 1, 0⟩) (.inl rfl) ?_ rfl hn hl ?_ ?_ hH hW
    · simp [execOp, ho, Instr.alloc, zeroValue_run hi hzv, newVar, newRow]
    · intro g' hg' hi'
      exact .ptr hi' (Nat.le_refl _) (fun _ => by simp)
    · intro g' hg' hi'
      have hzl : (zeroRow z).length = z.length := by simp [zeroRow]
      have := or_one (P := P) (w := w) (ty := ty) (bx := true) (row := zeroRow z) (cs := z) g' hi' hzl.symm rfl rfl rfl (by omega) (tr_zero hg) (cells_ground hg)
      rw [hzl] at this
      rw [← hcs] at this ⊢
      simpa using this
  | _ :: _, hx => have := hx.1; simp at this
end
end Go.Sim
set_option linter.unusedVariables false
set_option linter.unusedSimpArgs false
namespace Go.Sim
section
variable {P : Program} {g : Gh} {lim : Nat} {w : World} {L : Nat → Option AO} {n : Nat}
theorem gcell_cell (hW : WG g w) {a : Addr} (hs : a.spot = none) {j : Nat} {y : Value} (h : g.cell a j = some y) : w.cell? (a.add j) = some y := by
  unfold Gh.cell at h
  split at h
  · rename_i c ty fr he
    have hb := hW.still _ _ he
    unfold World.cell?
    have h1 : (a.add j).block = a.block := by unfold Addr.add; split <;> rfl
    have h2 : (a.add j).off = a.off + j := by unfold Addr.add; split <;> simp_all
    have h3 : (a.add j).spot = none := by unfold Addr.add; split <;> simp_all
    rw [h1, hb]
    simp [h2, h3, h]
  · cases h
theorem add_zero_addr (a : Addr) : a.add 0 = a := by simp [Addr.add]
theorem addr_add (b off j : Nat) : (⟨b, off, none⟩ : Addr).add j = ⟨b, off + j, none⟩ := by
  unfold Addr.add
  split
  · subst_vars; rfl
  · rfl
theorem run_loadVar_S {t : TypeId} (hu : P.underlying t ≠ none) (ha : isAggB P t = false) {a : Addr} {y : Value} (hc : w.cell? a = some y) : (loadVar t a).run P w = .ok y w := by
  simp [loadVar, isAggB_run hu, ha, hc]
theorem run_loadVar_A {t : TypeId} {i : TypeInfo} (hu : P.underlying t ≠ none) (ha : isAggB P t = true) (hi : P.info? t = some i) {a : Addr} {ys : List Value} (hl : ys.length = i.size)
    (hc : ∀ j y, ys[j]? = some y → w.cell? (a.add j) = some y) : (loadVar t a).run P w = .ok (.agg ys.toArray) w := by
  have h := run_loadCells_list (P := P) w a ys hc
  rw [hl] at h
  simp [loadVar, isAggB_run hu, ha, sizeOf_run hi, h]
theorem ip_cells (hW : WG g w) {cells : List AV} {V : Value} (h : VR g (.ip cells) V) :
    ∃ a ys, V = .pointer (some a) ∧ TR g cells ys ∧ (∀ y ∈ ys, isCell y = true) ∧ ∀ j y, ys[j]? = some y → w.cell? (a.add j) = some y := by
  cases h with
  | @ip _ _ a hs hc hv =>
    refine ⟨a, (List.range cells.length).map fun j => (g.cell a j).getD undef, rfl, ⟨by simp, fun i x y hx hy => ?_⟩, fun y hy => ?_, fun j y hy => ?_⟩
    · obtain ⟨y', h1, h2⟩ := hc i x hx
      have hi : i < cells.length := (List.getElem?_eq_some_iff.1 hx).1
      simp [hi, h1] at hy
      subst hy
      exact (hv i x y' hx h1).mono ⟨fun _ _ h => h, fun _ _ h => by simp [Gh.still] at h⟩
    · simp at hy
      obtain ⟨j, hj, rfl⟩ := hy
      obtain ⟨y', h1, h2⟩ := hc j cells[j] (by simp [hj])
      simp [h1, h2]
    · simp only [List.getElem?_map] at hy
      by_cases hj : j < cells.length
      · obtain ⟨y', h1, h2⟩ := hc j cells[j] (by simp [hj])
        simp [hj, h1] at hy
        subst hy
        exact gcell_cell hW hs h1
      · simp [hj] at hy
theorem still_le (g : Gh) : g.still.le g := ⟨fun _ _ h => h, fun _ _ h => by simp [Gh.still] at h⟩
theorem ptr_obj (hH : HR P g L w) {id ver e o' : Nat} {V : Value} (h : VR g (.ptr id ver e o') V) {bx : Bool} {ty : TypeId} {esz : Nat} {els : List (List AV)} (hL : L id = some (.arr bx ty esz ver els)) :
    ∃ loc cs, g.ι id = some loc ∧ loc.esz = esz ∧ loc.ver = ver ∧ esz ≠ 0 ∧ V = .pointer (some ⟨loc.b, e * esz + o', none⟩) ∧ w.heap[loc.b]? = some (.cells cs ty (0, 0)) ∧ cs.size = loc.ct * esz ∧
      els.length ≤ loc.ct ∧ (∀ (i : Nat) (row : List AV), els[i]? = some row → row.length = esz) ∧
      ∀ (i : Nat) (row : List AV) (j : Nat) (x : AV), els[i]? = some row → row[j]? = some x → ∃ y, cs[i * esz + j]? = some y ∧ isCell y = true ∧ VR g x y := by
  obtain ⟨loc, cs, h1, h2, h3, h4, h5, h6, h7, h8, h9⟩ := hH id _ hL
  cases h with
  | @ptr _ _ _ _ _ loc' p hi hver hp =>
    rw [h1] at hi
    cases hi
    rw [hp h3, h2]
    exact ⟨loc, cs, h1, h2, h3, h4, rfl, h5, h6, h7, h8, h9⟩
theorem heap_cell {b off : Nat} {cs : Array Value} {ty : TypeId} {fr : Nat × Nat} (h : w.heap[b]? = some (.cells cs ty fr)) : w.cell? ⟨b, off, none⟩ = cs[off]? := by
  simp [World.cell?, h]
theorem row_part {cs : Array Value} {esz e o' m : Nat} {els : List (List AV)} {row : List AV} (hrow : els[e]? = some row)
    (h9 : ∀ (i : Nat) (row : List AV) (j : Nat) (x : AV), els[i]? = some row → row[j]? = some x → ∃ y, cs[i * esz + j]? = some y ∧ isCell y = true ∧ VR g x y) (hm : o' + m ≤ row.length) :
    ∃ ys : List Value, ys.length = m ∧ TR g ((row.drop o').take m) ys ∧ (∀ y ∈ ys, isCell y = true) ∧ ∀ j y, ys[j]? = some y → cs[e * esz + o' + j]? = some y := by
  refine ⟨(List.range m).map fun j => (cs[e * esz + o' + j]?).getD undef, by simp, ⟨by simp; omega, fun i x y hx hy => ?_⟩, fun y hy => ?_, fun j y hy => ?_⟩
  · rw [List.getElem?_take] at hx
    split at hx
    · rename_i hi
      rw [List.getElem?_drop] at hx
      obtain ⟨y', h1, h2, h3⟩ := h9 e row (o' + i) x hrow hx
      rw [← Nat.add_assoc] at h1
      simp [hi, h1] at hy
      subst hy
      exact h3
    · cases hx
  · simp at hy
    obtain ⟨j, hj, rfl⟩ := hy
    obtain ⟨y', h1, h2, h3⟩ := h9 e row (o' + j) row[o' + j] hrow (by simp)
    rw [← Nat.add_assoc] at h1
    simp [h1, h2]
  · by_cases hj : j < m
    · obtain ⟨y', h1, h2, h3⟩ := h9 e row (o' + j) row[o' + j] hrow (by simp)
      rw [← Nat.add_assoc] at h1
      simp [hj, h1] at hy
      subst hy
      exact h1
    · simp [hj] at hy
variable (ρ : Operand → Value) (o : Oper) {k : OpK} {os : List Operand} {xs : List AV} {out : Out}
theorem load_S {p : AV} {V : Value} (hp : VR g p V) (hd : doOp L lim n .loadS [p] = some out) (hH : HR P g L w) (hW : WG g w) :
    ∃ v a y, out = { v := v } ∧ V = .pointer (some a) ∧ w.cell? a = some y ∧ VR g v y := by
  simp only [doOp] at hd
  split at hd
  · rename_i c r
    cases hd
    obtain ⟨a, ys, rfl, ht, hc, hcell⟩ := ip_cells hW hp
    match ys, ht with
    | [], ht => have := ht.1; simp at this
    | y :: ys, ht =>
      have := hcell 0 y rfl
      rw [add_zero_addr] at this
      exact ⟨c, a, y, rfl, rfl, this, ht.head⟩
  · rename_i id ver e o'
    split at hd
    · rename_i bx ty esz ver' els hL
      split at hd
      · rename_i hv
        subst hv
        split at hd
        · rename_i row hrow
          split at hd
          · rename_i x hx
            cases hd
            obtain ⟨loc, cs, h1, h2, h3, h4, rfl, h5, h6, h7, h8, h9⟩ := ptr_obj hH hp hL
            obtain ⟨y, k1, k2, k3⟩ := h9 e row o' x hrow hx
            exact ⟨x, _, y, rfl, rfl, (heap_cell h5).trans k1, k3⟩
          · cases hd
        · cases hd
      · cases hd
    · cases hd
  · cases hd
theorem load_A {m : Nat} {p : AV} {V : Value} (hp : VR g p V) (hd : doOp L lim n (.loadA m) [p] = some out) (hH : HR P g L w) (hW : WG g w) :
    ∃ (vs : List AV) (a : Addr) (ys : List Value), out = { v := .agg vs } ∧ V = .pointer (some a) ∧ ys.length = m ∧ (∀ j y, ys[j]? = some y → w.cell? (a.add j) = some y) ∧ VR g (.agg vs) (.agg ys.toArray) := by
  simp only [doOp] at hd
  split at hd
  · rename_i cells
    split at hd
    · rename_i hm
      cases hd
      obtain ⟨a, ys, rfl, ht, hc, hcell⟩ := ip_cells hW hp
      have hlen := ht.1
      refine ⟨_, a, ys.take m, rfl, rfl, by simp; omega, fun j y hy => ?_, .agg (by simp; omega) (fun i y hy => ?_) (fun i x y hx hy => ?_)⟩
      · rw [List.getElem?_take] at hy
        split at hy
        · exact hcell j y hy
        · cases hy
      · simp [List.getElem?_take] at hy
        exact hc y (List.mem_of_getElem? hy.2)
      · rw [List.getElem?_take] at hx
        simp [List.getElem?_take] at hy
        split at hx
        · exact ht.2 i x y hx hy.2
        · cases hx
    · cases hd
  · rename_i id ver e o'
    split at hd
    · rename_i bx ty esz ver' els hL
      split at hd
      · rename_i hv
        subst hv
        split at hd
        · rename_i row hrow
          split at hd
          · rename_i hm
            cases hd
            obtain ⟨loc, cs, h1, h2, h3, h4, rfl, h5, h6, h7, h8, h9⟩ := ptr_obj hH hp hL
            obtain ⟨ys, hl, ht, hc, hcell⟩ := row_part hrow h9 hm
            refine ⟨_, _, ys, rfl, rfl, hl, fun j y hy => ?_, .agg (by simpa using ht.1) (fun i y hy => ?_) (fun i x y hx hy => ?_)⟩
            · rw [addr_add, heap_cell h5]
              exact hcell j y hy
            · simp at hy
              exact hc y (List.mem_of_getElem? hy)
            · simp at hy
              exact ht.2 i x y hx hy
          · cases hd
        · cases hd
      · cases hd
    · cases hd
  · cases hd
theorem op_loadS {t : TypeId} {x : Operand} (ho : o.op = .load t x) (hu : P.underlying t ≠ none) (ha : isAggB P t = false) (hx : TR g xs [ρ x]) (hd : doOp L lim n .loadS xs = some out)
    (hH : HR P g L w) (hW : WG g w) : Good P g lim w L n out (execOp ρ o) := by
  match xs, hx with
  | [], hx => have := hx.1; simp at this
  | [p], hx =>
    obtain ⟨v, a, y, rfl, hV, hc, hv⟩ := load_S hx.head hd hH hW
    refine good_pure (V := y) ?_ hv hH hW
    simp [execOp, ho, Instr.loadAt, hV, Instr.sureAddr, run_loadVar_S hu ha hc]
  | _ :: _ :: _, hx => have := hx.1; simp at this
theorem op_loadA {t : TypeId} {x : Operand} {i : TypeInfo} (ho : o.op = .load t x) (hu : P.underlying t ≠ none) (ha : isAggB P t = true) (hi : P.info? t = some i) (hx : TR g xs [ρ x])
    (hd : doOp L lim n (.loadA i.size) xs = some out) (hH : HR P g L w) (hW : WG g w) : Good P g lim w L n out (execOp ρ o) := by
  match xs, hx with
  | [], hx => have := hx.1; simp at this
  | [p], hx =>
    obtain ⟨vs, a, ys, rfl, hV, hl, hc, hv⟩ := load_A hx.head hd hH hW
    refine good_pure (V := .agg ys.toArray) ?_ hv hH hW
    simp [execOp, ho, Instr.loadAt, hV, Instr.sureAddr, run_loadVar_A hu ha hi hl hc]
  | _ :: _ :: _, hx => have := hx.1; simp at this
theorem setL_length {α : Type} : ∀ (row : List α) (o : Nat) (cs : List α), (setL row o cs).length = row.length
  | row, o, [] => rfl
  | row, o, c :: cs => by rw [setL, setL_length]; simp
theorem setL_get {α : Type} : ∀ (row : List α) (o : Nat) (cs : List α) (j : Nat), o + cs.length ≤ row.length →
    (setL row o cs)[j]? = if o ≤ j ∧ j < o + cs.length then cs[j - o]? else row[j]?
  | row, o, [], j, h => by
    rw [setL, if_neg (by simp only [List.length_nil]; omega)]
  | row, o, c :: cs, j, h => by
    simp only [List.length_cons] at h
    rw [setL, setL_get (row.set o c) (o + 1) cs j (by simp; omega), List.getElem?_set]
    by_cases h1 : o = j
    · subst h1
      have : ¬ (o + 1 ≤ o ∧ o < o + 1 + cs.length) := by omega
      have h2 : o < row.length := by omega
      simp [this, h2]
    · by_cases h3 : o + 1 ≤ j ∧ j < o + 1 + cs.length
      · have h4 : o ≤ j ∧ j < o + (cs.length + 1) := by omega
        rw [if_pos h3]
        simp only [List.length_cons]
        rw [if_pos h4]
        have : j - o = (j - (o + 1)) + 1 := by omega
        rw [this]
        rfl
      · have h4 : ¬ (o ≤ j ∧ j < o + (cs.length + 1)) := by omega
        rw [if_neg h3, if_neg h1]
        simp only [List.length_cons]
        rw [if_neg h4]
theorem setRow_pieces (w : World) (g : Nat) (arr : Array Value) : (w.setRow g arr).os = w.os ∧ (w.setRow g arr).tape = w.tape ∧ (w.setRow g arr).output = w.output ∧ (w.setRow g arr).heap.size = w.heap.size :=
  ⟨rfl, rfl, rfl, by simp [World.setRow]⟩
theorem seg_get (cur vs : List Value) (k j : Nat) (h : k + vs.length ≤ cur.length) :
    (cur.take k ++ vs ++ cur.drop (k + vs.length))[j]? = if k ≤ j ∧ j < k + vs.length then vs[j - k]? else cur[j]? := by
  have hk : (cur.take k).length = k := by simp; omega
  rw [List.getElem?_append, List.getElem?_append, List.length_append, hk, List.getElem?_take, List.getElem?_drop]
  by_cases h1 : j < k
  · rw [if_pos (by omega), if_pos h1, if_pos h1, if_neg (by omega)]
  · by_cases h2 : j < k + vs.length
    · rw [if_pos h2, if_neg h1, if_pos (by omega)]
    · rw [if_neg h2, if_neg (by omega)]
      congr 1
      omega
theorem seg_len (cur vs : List Value) (k : Nat) (h : k + vs.length ≤ cur.length) : (cur.take k ++ vs ++ cur.drop (k + vs.length)).length = cur.length := by
  have hk : (cur.take k).length = k := by simp; omega
  rw [List.length_append, List.length_append, hk, List.length_drop]
  omega
theorem get_set {α : Type} {l : List α} {i j : Nat} {a r : α} (h : (l.set i a)[j]? = some r) : (i = j ∧ i < l.length ∧ r = a) ∨ (i ≠ j ∧ l[j]? = some r) := by
  rw [List.getElem?_set] at h
  by_cases e : i = j
  · rw [if_pos e] at h
    by_cases e2 : i < l.length
    · rw [if_pos e2] at h; cases h; exact .inl ⟨e, e2, rfl⟩
    · rw [if_neg e2] at h; cases h
  · rw [if_neg e] at h; exact .inr ⟨e, h⟩
theorem op_store {t : TypeId} {x y : Operand} {i : TypeInfo} (ho : o.op = .store t x y) (hi : P.info? t = some i) (hx : TR g xs [ρ x, ρ y]) (hd : doOp L lim n (.store i.size) xs = some out)
    (hH : HR P g L w) (hW : WG g w) : Good P g lim w L n out (execOp ρ o) := by
  match xs, hx with
  | [], hx => have := hx.1; simp at this
  | [_], hx => have := hx.1; simp at this
  | [p, a], hx =>
    simp only [doOp] at hd
    split at hd
    · rename_i id ver e o' cs hcs
      split at hd
      · rename_i bx ty esz ver' els hL
        split at hd
        · rename_i hv
          obtain ⟨rfl, hl, hcl⟩ := hv
          split at hd
          · rename_i row hrow
            split at hd
            · rename_i hm
              cases hd
              obtain ⟨loc, arr, h1, h2, h3, h4, hV, h5, h6, h7, h8, h9⟩ := ptr_obj hH hx.head hL
              obtain ⟨ht, hcell⟩ := hx.tail.head.cells hcs
              have hrl := h8 e row hrow
              have he : e < els.length := (List.getElem?_eq_some_iff.1 hrow).1
              have hfit : e * esz + o' + (ρ y).cells.toList.length ≤ arr.size := by
                rw [← ht.1, h6]
                have : (e + 1) * esz ≤ loc.ct * esz := Nat.mul_le_mul_right _ (by omega)
                rw [Nat.succ_mul] at this
                omega
              have hst := run_storeCells_at P loc.b (e * esz + o') ty (ρ y).cells.toList 0 arr w h5 (by simpa using hfit) (fun v hv => by have := hcell v hv; cases v <;> simp_all [isCell, Value.oneCell'])
              simp only [Nat.add_zero] at hst
              obtain ⟨p1, p2, p3, p4⟩ := setRow_pieces w loc.b (arr.toList.take (e * esz + o') ++ (ρ y).cells.toList ++ arr.toList.drop (e * esz + o' + (ρ y).cells.toList.length)).toArray
              have hblk := setRow_heap w loc.b arr (arr.toList.take (e * esz + o') ++ (ρ y).cells.toList ++ arr.toList.drop (e * esz + o' + (ρ y).cells.toList.length)).toArray ty (0, 0) h5
              refine good_up (nx := .skip) (V := undef) (o := .cells (arr.toList.take (e * esz + o') ++ (ρ y).cells.toList ++ arr.toList.drop (e * esz + o' + (ρ y).cells.toList.length)).toArray ty (0, 0))
                (loc := loc) (ver := loc.ver) ?_ (.inr ⟨rfl, rfl⟩) h1 hl (Nat.le_refl _) hblk (fun b hb => setRow_other w loc.b b _ hb) p4 p1 p2 p3 (fun g' _ _ => .undef g') (fun g' hg' hi' => ?_) hH hW
              · have hsz : (ρ y).cells.size = i.size := by have := ht.1; simp at this; omega
                simp [execOp, ho, Instr.storeAt, hV, Instr.sureAddr, storeVar, sizeOf_run hi, hsz, hst]
              · refine ⟨_, _, hi', h2, h3, h4, hblk, ?_, by simpa using h7, fun i r hr => ?_, fun i r j x hr hx' => ?_⟩
                · rw [List.size_toArray, seg_len _ _ _ (by simpa using hfit)]
                  simpa using h6
                · rcases get_set hr with ⟨rfl, _, rfl⟩ | ⟨_, hr⟩
                  · rw [setL_length]; exact hrl
                  · exact h8 i r hr
                · have hget := seg_get arr.toList (ρ y).cells.toList (e * esz + o') (i * esz + j) (by simpa using hfit)
                  simp only [List.getElem?_toArray, hget]
                  rcases get_set hr with ⟨rfl, _, rfl⟩ | ⟨hie, hr⟩
                  · rw [setL_get row o' cs j (by omega)] at hx'
                    have htl := ht.1
                    split at hx'
                    · rename_i hj
                      rw [if_pos (by omega)]
                      have hjj : e * esz + j - (e * esz + o') = j - o' := by omega
                      rw [hjj]
                      have hlt : j - o' < (ρ y).cells.toList.length := by omega
                      refine ⟨(ρ y).cells.toList[j - o'], by rw [List.getElem?_eq_getElem hlt], hcell _ (List.getElem_mem hlt), ?_⟩
                      exact (ht.2 (j - o') x _ hx' (List.getElem?_eq_getElem hlt)).mono hg'
                    · rename_i hj
                      rw [if_neg (by omega)]
                      obtain ⟨y', k1, k2, k3⟩ := h9 e row j x hrow hx'
                      exact ⟨y', by simpa using k1, k2, k3.mono hg'⟩
                  · have hj : j < esz := by have := h8 i r hr; have := (List.getElem?_eq_some_iff.1 hx').1; omega
                    have hne : ¬ (e * esz + o' ≤ i * esz + j ∧ i * esz + j < e * esz + o' + (ρ y).cells.toList.length) := by
                      have htl := ht.1
                      intro hc
                      rcases Nat.lt_trichotomy e i with hlt | heq | hgt
                      · have : (e + 1) * esz ≤ i * esz := Nat.mul_le_mul_right _ (by omega)
                        rw [Nat.succ_mul] at this
                        omega
                      · exact hie heq
                      · have : (i + 1) * esz ≤ e * esz := Nat.mul_le_mul_right _ (by omega)
                        rw [Nat.succ_mul] at this
                        omega
                    rw [if_neg hne]
                    obtain ⟨y', k1, k2, k3⟩ := h9 i r j x hr hx'
                    exact ⟨y', by simpa using k1, k2, k3.mono hg'⟩
            · cases hd
          · cases hd
        · cases hd
      · cases hd
    · cases hd
  | _ :: _ :: _ :: _, hx => have := hx.1; simp at this
end
end Go.Sim
set_option linter.unusedVariables false
set_option linter.unusedSimpArgs false
namespace Go.Sim
section
variable {P : Program} {g : Gh} {lim : Nat} {w : World} {L : Nat → Option AO} {n : Nat}
theorem gcell_add (a : Addr) (hs : a.spot = none) (m j : Nat) : g.cell (a.add m) j = g.cell a (m + j) := by
  unfold Gh.cell
  have h1 : (a.add m).block = a.block := by unfold Addr.add; split <;> rfl
  have h2 : (a.add m).off = a.off + m := by unfold Addr.add; split <;> simp_all
  rw [h1, h2, Nat.add_assoc]
theorem add_spot {a : Addr} (hs : a.spot = none) (m : Nat) : (a.add m).spot = none := by unfold Addr.add; split <;> simp_all
theorem vr_drop {cells : List AV} {a : Addr} (h : VR g (.ip cells) (.pointer (some a))) (m : Nat) : VR g (.ip (cells.drop m)) (.pointer (some (a.add m))) := by
  cases h with
  | ip hs hc hv =>
    refine .ip (add_spot hs m) (fun j x hx => ?_) (fun j x y hx hy => ?_)
    · rw [List.getElem?_drop] at hx
      rw [gcell_add a hs]
      exact hc (m + j) x hx
    · rw [List.getElem?_drop] at hx
      rw [gcell_add a hs] at hy
      exact hv (m + j) x y hx hy
variable (ρ : Operand → Value) (o : Oper) {k : OpK} {os : List Operand} {xs : List AV} {out : Out}
theorem op_fad {s : TypeId} {x : Operand} {f : Nat} {fs : Array Field} {fd : Field} {i : TypeInfo} (ho : o.op = .fieldAddr s x f) (hu : P.underlying s = some (.struct fs)) (hf : fs[f]? = some fd)
    (hi : P.info? fd.type = some i) (h0 : i.size ≠ 0) (hx : TR g xs [ρ x]) (hd : doOp L lim n (.fad fd.offset) xs = some out) (hH : HR P g L w) (hW : WG g w) : Good P g lim w L n out (execOp ρ o) := by
  match xs, hx with
  | [], hx => have := hx.1; simp at this
  | [p], hx =>
    have hp := hx.head
    have key : ∀ a : Addr, ρ x = .pointer (some a) → (execOp ρ o).run P w = .ok (.value (.pointer (some (a.add fd.offset)))) w := by
      intro a ha
      simp [execOp, ho, Instr.fieldAt, run_underlying hu, hf, ha, Instr.sureAddr, fieldPlace, sizeOf_run hi, h0]
    simp only [doOp] at hd
    split at hd
    · cases hd
      generalize hV : ρ x = V at hp
      cases hp with
      | ip hs hc hv => exact good_pure (key _ hV) (vr_drop (.ip hs hc hv) _) hH hW
    · cases hd
      generalize hV : ρ x = V at hp
      cases hp with
      | ptr hi' hver hp =>
        refine good_pure (key _ hV) (.ptr hi' hver (fun e => ?_)) hH hW
        rw [hp e, addr_add, Nat.add_assoc]
    · cases hd
  | _ :: _ :: _, hx => have := hx.1; simp at this
theorem intOf_run {x : AV} {i : Int} (h : intOf x = some i) {V : Value} (hv : VR g x V) : ∃ k, V = .int k i := by
  cases x with
  | v y =>
    cases y with
    | int k n => simp [intOf] at h; subst h; exact ⟨k, hv.ground⟩
    | _ => simp [intOf] at h
  | _ => simp [intOf] at h
theorem op_iad {t e : TypeId} {x ix : Operand} {ei : TypeInfo} (ho : o.op = .indexAddr t x ix) (hu : P.underlying t = some (.slice e)) (hi : P.info? e = some ei) (h0 : ei.size ≠ 0)
    (hx : TR g xs [ρ x, ρ ix]) (hd : doOp L lim n (.iad ei.size) xs = some out) (hH : HR P g L w) (hW : WG g w) : Good P g lim w L n out (execOp ρ o) := by
  match xs, hx with
  | [], hx => have := hx.1; simp at this
  | [_], hx => have := hx.1; simp at this
  | [a, j], hx =>
    have ha := hx.head
    simp only [doOp] at hd
    split at hd
    · rename_i i hi'
      obtain ⟨ki, hj⟩ := intOf_run hi' hx.tail.head
      have key : ∀ (p : Addr) (len cap : Nat), ρ x = .slice (some p) len cap → 0 ≤ i → i < len → (execOp ρ o).run P w = .ok (.value (.pointer (some (p.add (i.toNat * ei.size))))) w := by
        intro p len cap hp h1 h2
        simp [execOp, ho, Instr.indexAt, hj, asIntOf, run_underlying hu, hp, h1, h2, sizeOf_run hi]
      split at hd
      · rename_i esz els
        split at hd
        · rename_i hc
          obtain ⟨rfl, hpos⟩ := hc
          split at hd
          · rename_i row hrow
            cases hd
            generalize hV : ρ x = V at ha
            cases ha with
            | is0 => simp at hrow
            | @is _ _ _ p cap hs hl hr hc hv =>
              have hlt : i.toNat < els.length := (List.getElem?_eq_some_iff.1 hrow).1
              refine good_pure (key p _ cap hV hpos (by omega)) ?_ hH hW
              refine .ip (add_spot hs _) (fun j x hx => ?_) (fun j x y hx hy => ?_)
              · rw [gcell_add p hs]
                exact hc _ row j x hrow hx
              · rw [gcell_add p hs] at hy
                exact hv _ row j x y hrow hx hy
          · cases hd
        · cases hd
      · rename_i esz id ver off len cap
        split at hd
        · rename_i hc
          obtain ⟨rfl, h1, h2⟩ := hc
          cases hd
          generalize hV : ρ x = V at ha
          cases ha with
          | @sl _ _ _ _ _ _ _ loc p c hi2 hver hlen hs hp =>
            refine good_pure (key p _ c hV h1 h2) (.ptr hi2 hver (fun e => ?_)) hH hW
            obtain ⟨hp0, hp1, hp2, _, _⟩ := hp e
            rcases hp1 with hp1 | hp1
            · omega
            · subst hp1
              rw [addr_add, hp0, Nat.add_mul]
              simp
        · cases hd
      · cases hd
    · cases hd
  | _ :: _ :: _ :: _, hx => have := hx.1; simp at this
end
end Go.Sim
set_option linter.unusedVariables false
set_option linter.unusedSimpArgs false
namespace Go.Sim
section
variable {P : Program} {g : Gh}
def mkv (P : Program) (t : TypeId) (Cs : List Value) : Value := if isAggB P t then .agg Cs.toArray else Cs.headD undef
theorem part_run {t : TypeId} {i : TypeInfo} (hu : P.underlying t ≠ none) (hi : P.info? t = some i) (Cs : List Value) (off : Nat) (h : off < Cs.length) (w : World) :
    (part t Cs.toArray off).run P w = .ok (mkv P t ((Cs.drop off).take i.size)) w ∨ i.size = 0 := by
  by_cases h0 : i.size = 0
  · exact .inr h0
  · left
    unfold part mkv
    simp only [Sem.run_bind, isAggB_run hu, Result.andThen_ok, Sem.run_ite]
    cases ha : isAggB P t with
    | true =>
      simp only [if_true, Sem.run_bind, sizeOf_run hi, Result.andThen_ok, Sem.run_pure]
      congr 2
      apply Array.ext'
      simp [List.extract_eq_take_drop]
    | false =>
      simp only [Bool.false_eq_true, if_false]
      have : (Cs.toArray)[off]? = some Cs[off] := by simp [h]
      rw [this]
      simp only [Sem.run_pure]
      congr 1
      simp [List.head?_take, h0, h]
theorem cellsEq_append : ∀ (k1 k2 : List CK) (as bs as' bs' : List AV), as.length = k1.length → bs.length = k1.length →
    cellsEq (k1 ++ k2) (as ++ as') (bs ++ bs') = match cellsEq k1 as bs with | some true => cellsEq k2 as' bs' | r => r
  | [], k2, as, bs, as', bs', h1, h2 => by
    have : as = [] := by simpa using h1
    have h3 : bs = [] := by simpa using h2
    subst this h3
    simp [cellsEq]
  | k :: k1, k2, [], _, _, _, h1, h2 => by simp at h1
  | k :: k1, k2, _ :: _, [], _, _, h1, h2 => by simp at h2
  | k :: k1, k2, a :: as, b :: bs, as', bs', h1, h2 => by
    simp only [List.cons_append, cellsEq]
    cases cellEq k a b with
    | none => rfl
    | some r =>
      cases r
      · rfl
      · exact cellsEq_append k1 k2 as bs as' bs' (by simpa using h1) (by simpa using h2)
theorem TR.take {t : List AV} {v : List Value} (h : TR g t v) (m : Nat) : TR g (t.take m) (v.take m) := by
  refine ⟨by simp [h.1], fun i x y a b => ?_⟩
  rw [List.getElem?_take] at a b
  split at a
  · rename_i hc
    rw [if_pos hc] at b
    exact h.2 i x y a b
  · cases a
theorem TR.drop {t : List AV} {v : List Value} (h : TR g t v) (m : Nat) : TR g (t.drop m) (v.drop m) := by
  refine ⟨by simp [h.1], fun i x y a b => ?_⟩
  rw [List.getElem?_drop] at a b
  exact h.2 _ x y a b
theorem under_of_kinds {d : Nat} {t : TypeId} {ks : List CK} (h : kindsOf P d t = some ks) : P.underlying t ≠ none := by
  cases d with
  | zero => simp [kindsOf] at h
  | succ d => intro e; simp [kindsOf, e] at h
def EqK (P : Program) (g : Gh) (D : Nat) (t : TypeId) (ks : List CK) : Prop :=
  ∀ (as bs : List AV) (Cs Ds : List Value) (r : Bool) (w : World), TR g as Cs → TR g bs Ds → as.length = ks.length → bs.length = ks.length → cellsEq ks as bs = some r →
    (Op.equalIn D t (mkv P t Cs) (mkv P t Ds)).run P w = .ok r w
theorem take_drop_len {α : Type} (l : List α) (off m : Nat) (h : off + m ≤ l.length) : ((l.drop off).take m).length = m := by simp; omega
theorem kindsFs_run {d D : Nat} (IH : ∀ t ks, kindsOf P d t = some ks → EqK P g D t ks) : ∀ (fs : List Field) (off : Nat) (ks : List CK), kindsFs (kindsOf P d) P fs off = some ks →
    ∀ (as bs : List AV) (Cs Ds : List Value) (r : Bool) (w : World), TR g as Cs → TR g bs Ds → off + ks.length ≤ as.length → off + ks.length ≤ bs.length →
      cellsEq ks ((as.drop off).take ks.length) ((bs.drop off).take ks.length) = some r → (Op.eqFields D Cs.toArray Ds.toArray fs).run P w = .ok r w := by
  intro fs
  induction fs with
  | nil =>
    intro off ks h as bs Cs Ds r w ha hb h1 h2 hr
    simp only [kindsFs, Option.some.injEq] at h
    subst h
    simp [cellsEq] at hr
    subst hr
    simp [Op.eqFields]
  | cons f fs ih =>
    intro off ks h as bs Cs Ds r w ha hb h1 h2 hr
    simp only [kindsFs] at h
    split at h
    · rename_i hc
      obtain ⟨rfl, hname⟩ := hc
      split at h
      · rename_i k1 i hk hi
        split at h
        · rename_i hszz
          obtain ⟨hsz, h0⟩ := hszz
          split at h
          · rename_i k2 hk2
            cases h
            simp only [List.length_append] at h1 h2
            have e1 : ∀ (l : List AV), f.offset + (k1.length + k2.length) ≤ l.length → (l.drop f.offset).take (k1.length + k2.length) = (l.drop f.offset).take k1.length ++ (l.drop (f.offset + k1.length)).take k2.length := by
              intro l hl
              rw [List.take_add, List.drop_drop]
            rw [List.length_append, e1 as h1, e1 bs h2, cellsEq_append k1 k2 _ _ _ _ (take_drop_len _ _ _ (by omega)) (take_drop_len _ _ _ (by omega))] at hr
            simp only [Op.eqFields, ne_eq, hname, not_false_eq_true, if_true, Sem.run_bind]
            have hu := under_of_kinds hk
            have key : ∀ q : Bool, cellsEq k1 ((as.drop f.offset).take k1.length) ((bs.drop f.offset).take k1.length) = some q →
                ((part f.type Cs.toArray f.offset).run P w).andThen (fun a w' => ((part f.type Ds.toArray f.offset).run P w').andThen fun b w' => ((Op.equalIn D f.type a b).run P w').andThen fun r w' =>
                  (if (!r) = true then (pure false : Sem Bool) else Op.eqFields D Cs.toArray Ds.toArray fs).run P w') =
                (if (!q) = true then (pure false : Sem Bool) else Op.eqFields D Cs.toArray Ds.toArray fs).run P w := by
              intro q hq
              · have p1 := part_run hu hi Cs f.offset (by rw [← ha.1]; omega) w
                have p2 := part_run hu hi Ds f.offset (by rw [← hb.1]; omega) w
                rcases p1 with p1 | p1
                · rcases p2 with p2 | p2
                  · rw [p1, Result.andThen_ok, p2, Result.andThen_ok]
                    have := IH f.type k1 hk _ _ _ _ q w ((ha.drop f.offset).take i.size) ((hb.drop f.offset).take i.size) (by rw [hsz]; exact take_drop_len _ _ _ (by omega)) (by rw [hsz]; exact take_drop_len _ _ _ (by omega)) (by rw [hsz]; exact hq)
                    rw [this, Result.andThen_ok]
                  · omega
                · omega
            cases hq : cellsEq k1 ((as.drop f.offset).take k1.length) ((bs.drop f.offset).take k1.length) with
            | none => rw [hq] at hr; cases hr
            | some q =>
              rw [hq] at hr
              rw [key q hq]
              cases q
              · cases hr
                simp
              · simp only [Bool.not_true, Bool.false_eq_true, if_false]
                exact ih (f.offset + k1.length) k2 hk2 as bs Cs Ds r w ha hb (by omega) (by omega) hr
          · cases h
        · cases h
      · cases h
    · cases h
theorem items_run {D : Nat} {e : TypeId} {k1 : List CK} {i : TypeInfo} (hu : P.underlying e ≠ none) (hi : P.info? e = some i) (hsz : i.size = k1.length) (h0 : k1.length ≠ 0) (IH : EqK P g D e k1) :
    ∀ (m : Nat) (js : List Nat) (base : Nat), js = List.range' base m → ∀ (as bs : List AV) (Cs Ds : List Value) (r : Bool) (w : World), TR g as Cs → TR g bs Ds →
      (base + m) * k1.length ≤ as.length → (base + m) * k1.length ≤ bs.length →
      cellsEq ((List.replicate m k1).flatten) ((as.drop (base * k1.length)).take (m * k1.length)) ((bs.drop (base * k1.length)).take (m * k1.length)) = some r →
      (Op.eqItems D e i.size Cs.toArray Ds.toArray js).run P w = .ok r w := by
  intro m
  induction m with
  | zero =>
    intro js base hj as bs Cs Ds r w ha hb h1 h2 hr
    subst hj
    simp [cellsEq] at hr
    subst hr
    simp [Op.eqItems]
  | succ m ih =>
    intro js base hj as bs Cs Ds r w ha hb h1 h2 hr
    subst hj
    have hm : (base + (m + 1)) * k1.length = base * k1.length + (k1.length + m * k1.length) := by rw [Nat.add_mul, Nat.succ_mul]; omega
    rw [hm] at h1 h2
    have hb1 : (base + 1) * k1.length = base * k1.length + k1.length := Nat.succ_mul _ _
    have e1 : ∀ (l : List AV), (l.drop (base * k1.length)).take ((m + 1) * k1.length) = (l.drop (base * k1.length)).take k1.length ++ (l.drop ((base + 1) * k1.length)).take (m * k1.length) := by
      intro l
      rw [Nat.succ_mul, Nat.add_comm, List.take_add, List.drop_drop, hb1]
    rw [List.replicate_succ, List.flatten_cons, e1 as, e1 bs, cellsEq_append k1 _ _ _ _ _ (take_drop_len _ _ _ (by omega)) (take_drop_len _ _ _ (by omega))] at hr
    simp only [List.range'_succ, Op.eqItems, Sem.run_bind]
    rw [hsz]
    have p1 := part_run hu hi Cs (base * k1.length) (by rw [← ha.1]; omega) w
    have p2 := part_run hu hi Ds (base * k1.length) (by rw [← hb.1]; omega) w
    rcases p1 with p1 | p1
    · rcases p2 with p2 | p2
      · rw [p1, Result.andThen_ok, p2, Result.andThen_ok]
        cases hq : cellsEq k1 ((as.drop (base * k1.length)).take k1.length) ((bs.drop (base * k1.length)).take k1.length) with
        | none => rw [hq] at hr; cases hr
        | some q =>
          rw [hq] at hr
          have := IH _ _ _ _ q w ((ha.drop (base * k1.length)).take i.size) ((hb.drop (base * k1.length)).take i.size) (by rw [hsz]; exact take_drop_len _ _ _ (by omega)) (by rw [hsz]; exact take_drop_len _ _ _ (by omega)) (by rw [hsz]; exact hq)
          rw [this, Result.andThen_ok]
          cases q
          · cases hr
            simp
          · simp only [Bool.not_true, Bool.false_eq_true, if_false]
            rw [← hsz]
            exact ih _ (base + 1) rfl as bs Cs Ds r w ha hb (by rw [Nat.add_mul, hb1]; omega) (by rw [Nat.add_mul, hb1]; omega) hr
      · omega
    · omega
theorem cellsEq_one {k : CK} {as bs : List AV} {r : Bool} (h1 : as.length = 1) (h2 : bs.length = 1) (h : cellsEq [k] as bs = some r) : ∃ a b, as = [a] ∧ bs = [b] ∧ cellEq k a b = some r := by
  match as, bs, h1, h2 with
  | [a], [b], _, _ =>
    refine ⟨a, b, rfl, rfl, ?_⟩
    simp only [cellsEq] at h
    cases hc : cellEq k a b with
    | none => rw [hc] at h; cases h
    | some q =>
      rw [hc] at h
      cases q
      · simpa using h
      · simpa [cellsEq] using h
theorem bytes_beq (a b : ByteArray) : (a == b) = (a.toList == b.toList) := beq_toListBytes a b
theorem eq_kinds : ∀ (d : Nat) (t : TypeId) (ks : List CK), kindsOf P d t = some ks → ∀ D, d ≤ D → EqK P g D t ks
  | 0, t, ks, h, D, hD => by simp [kindsOf] at h
  | d + 1, t, ks, h, D, hD => by
    obtain ⟨D, rfl⟩ : ∃ D', D = D' + 1 := ⟨D - 1, by omega⟩
    have hu := under_of_kinds h
    intro as bs Cs Ds r w ha hb h1 h2 hr
    unfold kindsOf at h
    split at h
    · rename_i hu
      cases h
      obtain ⟨a, b, rfl, rfl, hc⟩ := cellsEq_one h1 h2 hr
      obtain ⟨A, rfl, hA⟩ := tr1 ha
      obtain ⟨B, rfl, hB⟩ := tr1 hb
      unfold cellEq at hc
      split at hc <;> simp_all [mkv, isAggB]
      obtain rfl := hA.ground
      obtain rfl := hB.ground
      subst hc
      exact run_equalIn_bool w D t _ _ hu
    · rename_i kk hu
      cases h
      obtain ⟨a, b, rfl, rfl, hc⟩ := cellsEq_one h1 h2 hr
      obtain ⟨A, rfl, hA⟩ := tr1 ha
      obtain ⟨B, rfl, hB⟩ := tr1 hb
      unfold cellEq at hc
      split at hc
      · split at hc
        · rename_i e
          subst e
          simp only [Option.some.injEq] at hc
          simp only [mkv, isAggB, hu, Bool.false_eq_true, if_false, List.headD_cons]
          obtain rfl := hA.ground
          obtain rfl := hB.ground
          subst hc
          exact run_equalIn_int w D t _ _ _ _ hu
        · cases hc
      · simp_all
      · simp_all
      · cases hc
    · rename_i hu
      cases h
      obtain ⟨a, b, rfl, rfl, hc⟩ := cellsEq_one h1 h2 hr
      obtain ⟨A, rfl, hA⟩ := tr1 ha
      obtain ⟨B, rfl, hB⟩ := tr1 hb
      unfold cellEq at hc
      split at hc <;> simp_all [mkv, isAggB]
      obtain rfl := hA.ground
      obtain rfl := hB.ground
      subst hc
      rw [run_equalIn_string w D t _ _ hu, bytes_beq]
    · rename_i fs hu
      split at h
      · cases h
      · rename_i hst
        have hf : P.fieldsOf t = fs := by simp [Program.fieldsOf, hu]
        have := kindsFs_run (P := P) (g := g) (D := D) (fun t ks hk => eq_kinds d t ks hk D (by omega)) fs.toList 0 ks h as bs Cs Ds r w ha hb (by omega) (by omega)
          (by rw [List.drop_zero, List.drop_zero, List.take_of_length_le (by omega), List.take_of_length_le (by omega)]; exact hr)
        simp only [mkv, isAggB, hu, if_true]
        rw [run_equalIn_struct w D t _ _ (by rw [hf]; exact hu) (by simpa using hst), hf]
        exact this
    · rename_i n e hu
      split at h
      · rename_i k1 i hk hi
        split at h
        · rename_i hc
          obtain ⟨hsz, h0⟩ := hc
          cases h
          have hl : ((List.replicate n k1).flatten).length = n * k1.length := by simp
          have := items_run (P := P) (g := g) (D := D) (under_of_kinds hk) hi hsz h0 (eq_kinds d e k1 hk D (by omega)) n _ 0 rfl as bs Cs Ds r w ha hb (by rw [Nat.zero_add]; omega) (by rw [Nat.zero_add]; omega)
            (by rw [Nat.zero_mul, List.drop_zero, List.drop_zero, List.take_of_length_le (by omega), List.take_of_length_le (by omega)]; exact hr)
          simp only [mkv, isAggB, hu, if_true]
          rw [run_equalIn_array w D _ _ hu hi, List.range_eq_range', show P.cellsOf e = i.size by simp [Program.cellsOf, hi]]
          exact this
        · cases h
      · cases h
    · cases h
end
end Go.Sim
set_option linter.unusedVariables false
set_option linter.unusedSimpArgs false
namespace Go.Sim
section
variable {P : Program} {g : Gh} {lim : Nat} {w : World} {L : Nat → Option AO} {n : Nat}
variable (ρ : Operand → Value) (o : Oper) {k : OpK} {os : List Operand} {xs : List AV} {out : Out}
theorem op_iadA {t e : TypeId} {x ix : Operand} {ei : TypeInfo} {len : Nat} (ho : o.op = .indexAddr t x ix) (hu : P.underlying t = some (.array len e)) (hi : P.info? e = some ei)
    (hx : TR g xs [ρ x, ρ ix]) (hd : doOp L lim n (.iadA len ei.size) xs = some out) (hH : HR P g L w) (hW : WG g w) : Good P g lim w L n out (execOp ρ o) := by
  match xs, hx with
  | [], hx => have := hx.1; simp at this
  | [_], hx => have := hx.1; simp at this
  | [a, j], hx =>
    have ha := hx.head
    simp only [doOp] at hd
    split at hd
    · rename_i i hi'
      obtain ⟨ki, hj⟩ := intOf_run hi' hx.tail.head
      split at hd
      · rename_i hc
        obtain ⟨h1, h2⟩ := hc
        have key : ∀ (p : Addr), ρ x = .pointer (some p) → (execOp ρ o).run P w = .ok (.value (.pointer (some (p.add (i.toNat * ei.size))))) w := by
          intro p hp
          simp [execOp, ho, Instr.indexAt, hj, asIntOf, run_underlying hu, hp, h1, h2, sizeOf_run hi, Instr.sureAddr]
        split at hd
        · cases hd
          generalize hV : ρ x = V at ha
          cases ha with
          | ip hs hc hv => exact good_pure (key _ hV) (vr_drop (.ip hs hc hv) _) hH hW
        · cases hd
          generalize hV : ρ x = V at ha
          cases ha with
          | ptr hi2 hver hp =>
            refine good_pure (key _ hV) (.ptr hi2 hver (fun e => ?_)) hH hW
            rw [hp e, addr_add, Nat.add_assoc]
        · cases hd
      · cases hd
    · cases hd
  | _ :: _ :: _ :: _, hx => have := hx.1; simp at this
theorem vr_agg_get {cs : List AV} {Cs : Array Value} (h : VR g (.agg cs) (.agg Cs)) {i : Nat} {c : AV} (hc : cs[i]? = some c) : ∃ y, Cs[i]? = some y ∧ VR g c y := by
  cases h with
  | agg hl hcell hv =>
    have hi : i < Cs.size := by rw [← hl]; exact (List.getElem?_eq_some_iff.1 hc).1
    exact ⟨Cs[i], by simp [hi], hv i c _ hc (by simp [hi])⟩
theorem vr_agg_part {cs : List AV} {Cs : Array Value} (h : VR g (.agg cs) (.agg Cs)) (off m : Nat) : VR g (.agg ((cs.drop off).take m)) (.agg (Cs.extract off (off + m))) := by
  cases h with
  | agg hl hcell hv =>
    refine .agg (by simp; omega) (fun i y hy => ?_) (fun i x y hx hy => ?_)
    · rw [Array.getElem?_extract] at hy
      split at hy
      · exact hcell _ y hy
      · cases hy
    · rw [Array.getElem?_extract] at hy
      rw [List.getElem?_take] at hx
      split at hx
      · rw [List.getElem?_drop] at hx
        split at hy
        · exact hv _ x y hx hy
        · cases hy
      · cases hx
theorem part_S {t : TypeId} (hu : P.underlying t ≠ none) (ha : isAggB P t = false) {Cs : Array Value} {off : Nat} {y : Value} (h : Cs[off]? = some y) : (part t Cs off).run P w = .ok y w := by
  simp [part, isAggB_run hu, ha, h]
theorem part_A {t : TypeId} {i : TypeInfo} (hu : P.underlying t ≠ none) (ha : isAggB P t = true) (hi : P.info? t = some i) (Cs : Array Value) (off : Nat) :
    (part t Cs off).run P w = .ok (.agg (Cs.extract off (off + i.size))) w := by
  simp [part, isAggB_run hu, ha, sizeOf_run hi]
theorem op_fldS {t : TypeId} {x : Operand} {f : Nat} {fs : Array Field} {fd : Field} (ho : o.op = .field t x f) (hu : P.underlying t = some (.struct fs)) (hf : fs[f]? = some fd)
    (hu2 : P.underlying fd.type ≠ none) (ha : isAggB P fd.type = false) (hx : TR g xs [ρ x]) (hd : doOp L lim n (.fldS fd.offset) xs = some out) (hH : HR P g L w) (hW : WG g w) :
    Good P g lim w L n out (execOp ρ o) := by
  match xs, hx with
  | [], hx => have := hx.1; simp at this
  | [a], hx =>
    have hv := hx.head
    simp only [doOp] at hd
    split at hd
    · split at hd
      · rename_i c hc
        cases hd
        generalize hV : ρ x = V at hv
        cases hv with
        | @agg _ cs Cs hl hcell hvv =>
          obtain ⟨y, hy, hvy⟩ := vr_agg_get (.agg hl hcell hvv) hc
          refine good_pure (V := y) ?_ hvy hH hW
          simp [execOp, ho, Instr.field, run_underlying hu, hf, hV, asAgg, part_S hu2 ha hy]
      · cases hd
    · cases hd
  | _ :: _ :: _, hx => have := hx.1; simp at this
theorem op_fldA {t : TypeId} {x : Operand} {f : Nat} {fs : Array Field} {fd : Field} {i : TypeInfo} (ho : o.op = .field t x f) (hu : P.underlying t = some (.struct fs)) (hf : fs[f]? = some fd)
    (hu2 : P.underlying fd.type ≠ none) (ha : isAggB P fd.type = true) (hi : P.info? fd.type = some i) (hx : TR g xs [ρ x]) (hd : doOp L lim n (.fldA fd.offset i.size) xs = some out) (hH : HR P g L w) (hW : WG g w) :
    Good P g lim w L n out (execOp ρ o) := by
  match xs, hx with
  | [], hx => have := hx.1; simp at this
  | [a], hx =>
    have hv := hx.head
    simp only [doOp] at hd
    split at hd
    · cases hd
      generalize hV : ρ x = V at hv
      cases hv with
      | @agg _ cs Cs hl hcell hvv =>
        refine good_pure (V := .agg (Cs.extract fd.offset (fd.offset + i.size))) ?_ (vr_agg_part (.agg hl hcell hvv) _ _) hH hW
        simp [execOp, ho, Instr.field, run_underlying hu, hf, hV, asAgg, part_A hu2 ha hi]
    · cases hd
  | _ :: _ :: _, hx => have := hx.1; simp at this
theorem op_idxStr {t : TypeId} {x ix : Operand} (ho : o.op = .index t x ix) (hu : P.underlying t = some .string) (hx : TR g xs [ρ x, ρ ix]) (hd : doOp L lim n .idxStr xs = some out)
    (hH : HR P g L w) (hW : WG g w) : Good P g lim w L n out (execOp ρ o) := by
  match xs, hx with
  | [], hx => have := hx.1; simp at this
  | [_], hx => have := hx.1; simp at this
  | [a, j], hx =>
    have ha := hx.head
    simp only [doOp] at hd
    split at hd
    · rename_i s i hi'
      obtain ⟨ki, hj⟩ := intOf_run hi' hx.tail.head
      split at hd
      · rename_i h1
        split at hd
        · rename_i b hb
          cases hd
          have hV := ha.ground
          refine good_pure (V := .int .u8 b.toNat) ?_ (.v rfl) hH hW
          have hb' : s[i.toNat]? = some b := by
            have hlt : i.toNat < s.size := by
              have := (List.getElem?_eq_some_iff.1 hb).1
              simpa using this
            have h2 : s.data.toList[i.toNat]? = some s.data[i.toNat] := by simp
            rw [h2] at hb
            cases hb
            rw [getElem?_pos s i.toNat hlt]
            rfl
          simp [execOp, ho, Instr.index, hj, asIntOf, run_underlying hu, hV, h1, hb']
        · cases hd
      · cases hd
    · cases hd
  | _ :: _ :: _ :: _, hx => have := hx.1; simp at this
theorem op_idxA {t e : TypeId} {x ix : Operand} {ei : TypeInfo} {len : Nat} (ho : o.op = .index t x ix) (hu : P.underlying t = some (.array len e)) (hu2 : P.underlying e ≠ none) (hi : P.info? e = some ei)
    (hx : TR g xs [ρ x, ρ ix]) (hd : doOp L lim n (.idxA len ei.size (isAggB P e)) xs = some out) (hH : HR P g L w) (hW : WG g w) : Good P g lim w L n out (execOp ρ o) := by
  match xs, hx with
  | [], hx => have := hx.1; simp at this
  | [_], hx => have := hx.1; simp at this
  | [a, j], hx =>
    have ha := hx.head
    simp only [doOp] at hd
    split at hd
    · rename_i cs i hi'
      obtain ⟨ki, hj⟩ := intOf_run hi' hx.tail.head
      split at hd
      · rename_i hc
        obtain ⟨h1, h2⟩ := hc
        generalize hV : ρ x = V at ha
        cases ha with
        | @agg _ cs Cs hl hcell hvv =>
          split at hd
          · rename_i hagg
            cases hd
            refine good_pure (V := .agg (Cs.extract (i.toNat * ei.size) (i.toNat * ei.size + ei.size))) ?_ (vr_agg_part (.agg hl hcell hvv) _ _) hH hW
            simp [execOp, ho, Instr.index, hj, asIntOf, run_underlying hu, hV, h1, h2, sizeOf_run hi, part_A hu2 hagg hi]
          · rename_i hagg
            split at hd
            · rename_i c hc
              cases hd
              obtain ⟨y, hy, hvy⟩ := vr_agg_get (.agg hl hcell hvv) hc
              refine good_pure (V := y) ?_ hvy hH hW
              simp [execOp, ho, Instr.index, hj, asIntOf, run_underlying hu, hV, h1, h2, sizeOf_run hi, part_S hu2 (by simpa using hagg) hy]
            · cases hd
      · cases hd
    · cases hd
  | _ :: _ :: _ :: _, hx => have := hx.1; simp at this
theorem binS_ground {op : BinOp} {a b r : Value} (h : binS op a b = some r) : Value.ground r = true := by
  unfold binS at h
  split at h
  · split at h
    · split at h <;> simp_all <;> (subst h; rfl)
    · split at h <;> simp_all <;> (subst h; rfl)
    · split at h
      · split at h <;> (try split at h) <;> simp_all <;> (first | (subst h; rfl) | (obtain ⟨_, rfl⟩ := h; rfl))
      · cases h
  · split at h <;> (try split at h) <;> simp_all <;> (first | (subst h; rfl) | (obtain ⟨_, rfl⟩ := h; rfl))
  · cases h
theorem binS_run {op : BinOp} {a b r : Value} (h : binS op a b = some r) (t : TypeId) (x y : Operand) : (eqGuard op t x y a b).run P w = .ok () w ∧ (binOp op t a b).run P w = .ok r w := by
  unfold binS at h
  split at h
  · rename_i k n k' m
    refine ⟨by rw [eqGuard_at_int]; rfl, ?_⟩
    split at h
    · split at h
      · cases h
      · rename_i hb
        cases h
        simp [binOp, Op.shift, hb]
    · split at h
      · cases h
      · rename_i hb
        cases h
        simp [binOp, Op.shift, hb]
    · rename_i h1 h2
      split at h
      · rename_i e
        subst e
        split at h
        · cases h; simp [binOp, Op.intArith]
        · cases h; simp [binOp, Op.intArith]
        · cases h; simp [binOp, Op.intArith]
        · split at h
          · cases h
          · rename_i h0; cases h; simp [binOp, Op.intDiv, h0]
        · split at h
          · cases h
          · rename_i h0; cases h; simp [binOp, Op.intDiv, h0]
        · cases h; simp [binOp, Op.intBits]
        · cases h; simp [binOp, Op.intBits]
        · cases h; simp [binOp, Op.intBits]
        · cases h; simp [binOp, Op.intBits]
        · cases h; simp [binOp, Op.intCmp]
        · cases h; simp [binOp, Op.intCmp]
        · cases h; simp [binOp, Op.intCmp]
        · cases h; simp [binOp, Op.intCmp]
        · cases h; simp [binOp, Op.intCmp]
        · cases h; simp [binOp, Op.intCmp]
        · cases h
      · cases h
  · rename_i s u
    refine ⟨by cases op <;> rfl, ?_⟩
    split at h
    · split at h
      · rename_i hs
        cases h
        have : ¬ (9223372036854775807 : Int) < ((s.size : Int) + (u.size : Int)) := by omega
        simp [binOp, Op.stringOp, this]
      · cases h
    · cases h; simp [binOp, Op.stringOp]
    · cases h; simp [binOp, Op.stringOp]
    · cases h; simp [binOp, Op.stringOp]
    · cases h; simp [binOp, Op.stringOp]
    · cases h; simp [binOp, Op.stringOp]
    · cases h; simp [binOp, Op.stringOp]
    · cases h
  · cases h
theorem op_bin {op : BinOp} {t u : TypeId} {x y : Operand} (ho : o.op = .binOp op t x y u) (hx : TR g xs [ρ x, ρ y]) (hd : doOp L lim n (.bin op) xs = some out) (hH : HR P g L w) (hW : WG g w) :
    Good P g lim w L n out (execOp ρ o) := by
  match xs, hx with
  | [], hx => have := hx.1; simp at this
  | [_], hx => have := hx.1; simp at this
  | [a, b], hx =>
    have ha := hx.head
    have hb := hx.tail.head
    simp only [doOp] at hd
    split at hd
    · rename_i va vb
      simp only [Option.map_eq_some_iff] at hd
      obtain ⟨r, hr, rfl⟩ := hd
      obtain ⟨h1, h2⟩ := binS_run (P := P) (w := w) hr t x y
      refine good_pure (V := r) ?_ (.v (binS_ground hr)) hH hW
      simp [execOp, ho, ha.ground, hb.ground, h1, h2]
    · cases hd
  | _ :: _ :: _ :: _, hx => have := hx.1; simp at this
theorem op_eqB {op : BinOp} {neg : Bool} {t u : TypeId} {x y : Operand} (ho : o.op = .binOp op t x y u) (hop : op = if neg then .neq else .eql) (hu : P.underlying t = some .bool)
    (hx : TR g xs [ρ x, ρ y]) (hd : doOp L lim n (.eqB neg) xs = some out) (hH : HR P g L w) (hW : WG g w) : Good P g lim w L n out (execOp ρ o) := by
  match xs, hx with
  | [], hx => have := hx.1; simp at this
  | [_], hx => have := hx.1; simp at this
  | [a, b], hx =>
    have ha := hx.head
    have hb := hx.tail.head
    simp only [doOp] at hd
    split at hd
    · rename_i va vb
      cases hd
      refine good_pure (V := .bool ((va == vb) != neg)) ?_ (.v rfl) hH hW
      have he := run_equal_bool (P := P) w t va vb hu
      subst hop
      cases neg
      · simp [execOp, ho, ha.ground, hb.ground, eqGuard_at_bool, binOp, he]
      · simp [execOp, ho, ha.ground, hb.ground, eqGuard_at_bool, binOp, he]
    · cases hd
  | _ :: _ :: _ :: _, hx => have := hx.1; simp at this
theorem op_eqA {op : BinOp} {neg : Bool} {t u : TypeId} {x y : Operand} {ks : List CK} (ho : o.op = .binOp op t x y u) (hop : op = if neg then .neq else .eql) (hk : kindsOf P 20 t = some ks) (hagg : isAggB P t = true)
    (hg : P.eqGuardType P.depth t = false) (hx : TR g xs [ρ x, ρ y]) (hd : doOp L lim n (.eqA neg ks) xs = some out) (hH : HR P g L w) (hW : WG g w) : Good P g lim w L n out (execOp ρ o) := by
  match xs, hx with
  | [], hx => have := hx.1; simp at this
  | [_], hx => have := hx.1; simp at this
  | [a, b], hx =>
    have ha := hx.head
    have hb := hx.tail.head
    simp only [doOp] at hd
    split at hd
    · rename_i as bs
      split at hd
      · rename_i hc
        obtain ⟨h1, h2⟩ := hc
        split at hd
        · rename_i r hr
          cases hd
          generalize hV : ρ x = V at ha
          generalize hV2 : ρ y = V2 at hb
          cases ha with
          | @agg _ _ Cs hl hcell hv =>
            cases hb with
            | @agg _ _ Ds hl2 hcell2 hv2 =>
              have he := eq_kinds (P := P) (g := g) 20 t ks hk 10000 (by omega) as bs Cs.toList Ds.toList r w ⟨by simpa using hl, fun i x y a b => hv i x y a (by simpa using b)⟩
                ⟨by simpa using hl2, fun i x y a b => hv2 i x y a (by simpa using b)⟩ h1 h2 hr
              simp only [mkv, hagg, if_true, Array.toArray_toList] at he
              refine good_pure (V := .bool (r != neg)) ?_ (.v rfl) hH hW
              have hgd := run_eqGuard_agg (P := P) w op t x y Cs Ds hg
              subst hop
              cases neg
              · simp only [Bool.false_eq_true, if_false] at hgd ho
                simp [execOp, ho, hV, hV2, hgd, run_eql_struct, he]
              · simp only [if_true] at hgd ho
                simp [execOp, ho, hV, hV2, hgd, run_neq_struct, he]
        · cases hd
      · cases hd
    · cases hd
  | _ :: _ :: _ :: _, hx => have := hx.1; simp at this
theorem unS_ground {op : UnOp} {a r : Value} (h : unS op a = some r) : Value.ground r = true := by
  unfold unS at h
  split at h
  · split at h <;> simp_all <;> (subst h; rfl)
  · split at h <;> simp_all <;> (subst h; rfl)
  · cases h
theorem op_un {op : UnOp} {t : TypeId} {x : Operand} (ho : o.op = .unOp op t x) (hx : TR g xs [ρ x]) (hd : doOp L lim n (.un op) xs = some out) (hH : HR P g L w) (hW : WG g w) :
    Good P g lim w L n out (execOp ρ o) := by
  match xs, hx with
  | [], hx => have := hx.1; simp at this
  | [a], hx =>
    have ha := hx.head
    simp only [doOp] at hd
    split at hd
    · rename_i va
      simp only [Option.map_eq_some_iff] at hd
      obtain ⟨r, hr, rfl⟩ := hd
      refine good_pure (V := r) ?_ (.v (unS_ground hr)) hH hW
      unfold unS at hr
      split at hr
      · split at hr
        · cases hr; simp [execOp, ho, ha.ground, Op.unary, Op.intArith]
        · cases hr; simp [execOp, ho, ha.ground, Op.unary, Op.intBits]
        · cases hr
      · split at hr
        · cases hr; simp [execOp, ho, ha.ground, Op.unary]
        · cases hr
      · cases hr
    · cases hd
  | _ :: _ :: _, hx => have := hx.1; simp at this
theorem op_ext {i : Nat} {x : Operand} (ho : o.op = .extract x i) (hx : TR g xs [ρ x]) (hd : doOp L lim n (.ext i) xs = some out) (hH : HR P g L w) (hW : WG g w) :
    Good P g lim w L n out (execOp ρ o) := by
  match xs, hx with
  | [], hx => have := hx.1; simp at this
  | [a], hx =>
    have ha := hx.head
    simp only [doOp] at hd
    split at hd
    · rename_i vs
      split at hd
      · rename_i v hv
        cases hd
        generalize hV : ρ x = V at ha
        cases ha with
        | @tup _ _ Cs hl hvv =>
          have hi : i < Cs.size := by rw [← hl]; exact (List.getElem?_eq_some_iff.1 hv).1
          refine good_pure (V := Cs[i]) ?_ (hvv i v _ hv (by simp [hi])) hH hW
          simp [execOp, ho, hV, Instr.extract, hi]
      · cases hd
    · cases hd
  | _ :: _ :: _, hx => have := hx.1; simp at this
theorem op_convI {src dst : TypeId} {ks k : IntKind} {x : Operand} (ho : o.op = .convert src dst x) (h1 : P.underlying src = some (.int ks)) (h2 : P.underlying dst = some (.int k)) (hx : TR g xs [ρ x])
    (hd : doOp L lim n (.convI k) xs = some out) (hH : HR P g L w) (hW : WG g w) : Good P g lim w L n out (execOp ρ o) := by
  match xs, hx with
  | [], hx => have := hx.1; simp at this
  | [a], hx =>
    have ha := hx.head
    simp only [doOp] at hd
    split at hd
    · cases hd
      refine good_pure ?_ (.v rfl) hH hW
      simp [execOp, ho, ha.ground, convert, run_underlying h1, run_underlying h2, Conv.intToInt]
    · cases hd
  | _ :: _ :: _, hx => have := hx.1; simp at this
theorem op_convS {src dst : TypeId} {x : Operand} (ho : o.op = .convert src dst x) (h1 : P.underlying src = some .string) (h2 : P.underlying dst = some .string) (hx : TR g xs [ρ x])
    (hd : doOp L lim n .convS xs = some out) (hH : HR P g L w) (hW : WG g w) : Good P g lim w L n out (execOp ρ o) := by
  match xs, hx with
  | [], hx => have := hx.1; simp at this
  | [a], hx =>
    have ha := hx.head
    simp only [doOp] at hd
    split at hd
    · cases hd
      refine good_pure ?_ (.v rfl) hH hW
      simp [execOp, ho, ha.ground, convert, run_underlying h1, run_underlying h2]
    · cases hd
  | _ :: _ :: _, hx => have := hx.1; simp at this
end
end Go.Sim
set_option linter.unusedVariables false
set_option linter.unusedSimpArgs false
namespace Go.Sim
section
variable {P : Program} {g : Gh} {lim : Nat} {w : World} {L : Nat → Option AO} {n : Nat}
variable (ρ : Operand → Value) (o : Oper) {k : OpK} {os : List Operand} {xs : List AV} {out : Out}
theorem fn_of_tr {f : FuncId} {a c : List AV} {A C : List Value} (h1 : TR g a A) (h2 : TR g c C) : VR g (.fn (.func f) a c) (.func (.func f) A.toArray C.toArray) :=
  .fn (by simpa using h1.1) (by simpa using h2.1) (fun i x y a b => h1.2 i x y a (by simpa using b)) (fun i x y a b => h2.2 i x y a (by simpa using b))
theorem op_mkfn {f : FuncId} {first captured : Array Operand} (ho : o.op = .makeFunc (.func f) first captured) (hx : TR g xs ((first.toList ++ captured.toList).map ρ))
    (hd : doOp L lim n (.mkfn (.func f) first.size) xs = some out) (hH : HR P g L w) (hW : WG g w) : Good P g lim w L n out (execOp ρ o) := by
  simp only [doOp, Option.some.injEq] at hd
  subst hd
  refine good_pure (V := .func (.func f) (first.map ρ) (captured.map ρ)) ?_ ?_ hH hW
  · simp [execOp, ho, Instr.makeFunc]
  · have h1 := hx.take first.size
    have h2 := hx.drop first.size
    rw [List.map_append, List.take_left' (by simp)] at h1
    rw [List.map_append, List.drop_left' (by simp)] at h2
    have := fn_of_tr (f := f) h1 h2
    rw [show (first.toList.map ρ).toArray = first.map ρ from Array.ext' (by simp), show (captured.toList.map ρ).toArray = captured.map ρ from Array.ext' (by simp)] at this
    exact this
theorem op_mkmap {t : TypeId} (ho : o.op = .makeMap t none) (hx : TR g xs []) (hd : doOp L lim n .mkmap xs = some out) (hH : HR P g L w) (hW : WG g w)
    (hn : g.ι n = none) (hl : lim ≤ n) : Good P g lim w L n out (execOp ρ o) := by
  match xs, hx with
  | [], hx =>
    simp only [doOp, Option.some.injEq] at hd
    subst hd
    refine good_new (w₁ := w) (o := .map #[] 0) (V := .map (some w.heap.size)) (loc := ⟨w.heap.size, 0, 0, 0⟩) (.inl rfl) ?_ rfl hn hl ?_ ?_ hH hW
    · simp [execOp, ho, Instr.makeMap]
    · intro g' hg' hi'
      exact .map hi' (fun _ => rfl)
    · intro g' hg' hi'
      exact ⟨_, #[], 0, hi', rfl, heap_alloc_new w _, rfl, fun i k x e h => by simp at h⟩
  | _ :: _, hx => have := hx.1; simp at this
theorem freeze_heap (w : World) (a : Addr) (m : Nat) (b : Nat) (h : b ≠ a.block) : (w.freeze a m).heap[b]? = w.heap[b]? := by
  unfold World.freeze
  split
  · rfl
  · simp only [Array.getElem?_modify]
    rw [if_neg (by omega)]
theorem freeze_pieces (w : World) (a : Addr) (m : Nat) : (w.freeze a m).os = w.os ∧ (w.freeze a m).tape = w.tape ∧ (w.freeze a m).output = w.output ∧ (w.freeze a m).heap.size = w.heap.size := by
  unfold World.freeze
  split
  · exact ⟨rfl, rfl, rfl, rfl⟩
  · exact ⟨rfl, rfl, rfl, by simp⟩
theorem op_s2b {src dst e : TypeId} {x : Operand} (ho : o.op = .convert src dst x) (h1 : P.underlying src = some .string) (h2 : P.underlying dst = some (.slice e)) (h3 : P.underlying e = some (.int .u8))
    (hx : TR g xs [ρ x]) (hd : doOp L lim n (.s2b e) xs = some out) (hH : HR P g L w) (hW : WG g w) : Good P g lim w L n out (execOp ρ o) := by
  match xs, hx with
  | [], hx => have := hx.1; simp at this
  | [a], hx =>
    have ha := hx.head
    simp only [doOp] at hd
    split at hd
    · rename_i s
      cases hd
      let cap := (Question.appendCap s.size 0 e).cut (w.tape w.drawn (.appendCap s.size 0 e))
      let arr : Array Value := (s.data.map fun b => Value.int .u8 b.toNat) ++ Array.replicate (cap - s.size) (.int .u8 0)
      let w1 := w.drew.alloc (.cells arr e)
      have hcap : s.size ≤ cap := by simp [cap, Question.cut]
      let w2 := w1.freeze ⟨w.heap.size, arr.size, none⟩ 1
      have hrun : (execOp ρ o).run P w = .ok (.value (.slice (some ⟨w.heap.size, 0, none⟩) s.size cap)) w2 := by
        have hsh : w1.shape? w.heap.size = some (e, arr.size) := by
          unfold World.shape?
          have : w1.heap[w.heap.size]? = some (.cells arr e) := heap_alloc_new w.drew _
          rw [this]
        simp [execOp, ho, ha.ground, convert, run_underlying h1, run_underlying h2, run_underlying h3, Conv.stringToBytes, Question.forced, newRow, markStringish, cap, w2]
        simp [arr, w1, cap] at hsh
        simp [hsh, arr, w1, cap]
      obtain ⟨fr, hblk⟩ : ∃ fr, w2.heap[w.heap.size]? = some (.cells arr e fr) := by
        have hb : w1.heap[w.heap.size]? = some (.cells arr e) := heap_alloc_new w.drew _
        simp only [w2, World.freeze]
        rw [if_neg (by omega)]
        simp only [Array.getElem?_modify]
        rw [hb]
        simp
      have hold : ∀ b, b < w.heap.size → w2.heap[b]? = w.heap[b]? := fun b hb => by
        simp only [w2]
        rw [freeze_heap _ _ _ _ (by simp only; omega)]
        exact heap_alloc_lt w.drew _ hb
      obtain ⟨p1, p2, p3, p4⟩ := freeze_pieces w1 ⟨w.heap.size, arr.size, none⟩ 1
      have hsz : w2.heap.size = w.heap.size + 1 := by
        show (w1.freeze _ _).heap.size = _
        rw [p4]; simp [w1]
      let g' : Gh := { G := fun b => if b = w.heap.size then some (.cells arr e fr) else g.G b, ι := g.ι }
      have hGlt : ∀ b o', g.G b = some o' → b < w.heap.size := fun b o' h => (Array.getElem?_eq_some_iff.1 (hW.still b o' h)).1
      have hle : g.le g' := ⟨fun b o' h => by
        have := hGlt b o' h
        show (if b = w.heap.size then some (Obj.cells arr e fr) else g.G b) = some o'
        rw [if_neg (by omega)]; exact h, fun id loc h => ⟨loc, h, Nat.le_refl _, fun _ => rfl⟩⟩
      have hcell : ∀ j, j < s.size → ∃ b, s.data.toList[j]? = some b ∧ g'.cell ⟨w.heap.size, 0, none⟩ j = some (.int .u8 b.toNat) := by
        intro j hj
        have hj' : j < s.data.size := hj
        refine ⟨s.data[j], by simp [hj'], ?_⟩
        show (match (if w.heap.size = w.heap.size then some (Obj.cells arr e fr) else g.G w.heap.size) with | some (.cells c _ _) => c[0 + j]? | _ => none) = _
        rw [if_pos rfl]
        simp only [Nat.zero_add, arr]
        rw [Array.getElem?_append_left (by simpa using hj')]
        simp
        exact ⟨s.data[j], by simp, rfl⟩
      have hrows : (byteRows s).length = s.size := by simp [byteRows]
      refine ⟨_, _, g', w2, hrun, .inl rfl, ?_, ?_, ⟨?_, ?_, ?_, hW.inj⟩, ⟨hle, by omega, fun b hb _ => hold b hb, fun id loc h => .inl ⟨loc, h, rfl⟩, fun _ _ => rfl, ?_, ?_, ?_, ?_⟩, fun id h => .inl h⟩
      · have hget : ∀ i row, (byteRows s)[i]? = some row → i < s.size ∧ ∃ b, s.data.toList[i]? = some b ∧ row = [.v (.int .u8 b.toNat)] := by
          intro i row h
          have hi : i < s.size := by rw [← hrows]; exact (List.getElem?_eq_some_iff.1 h).1
          simp only [byteRows, List.getElem?_map, Option.map_eq_some_iff] at h
          obtain ⟨b, hb, rfl⟩ := h
          exact ⟨hi, b, hb, rfl⟩
        rw [← hrows]
        refine VR.is rfl (by rw [hrows]; exact hcap) (fun i row h => ?_) (fun i row j x h hx => ?_) (fun i row j x y h hx hy => ?_)
        · obtain ⟨_, b, _, rfl⟩ := hget i row h; rfl
        · obtain ⟨hi, b, hb, rfl⟩ := hget i row h
          cases j with
          | zero =>
            obtain ⟨b', _, hc⟩ := hcell i hi
            exact ⟨_, by rw [Nat.mul_one, Nat.add_zero]; exact hc, rfl⟩
          | succ j => simp at hx
        · obtain ⟨hi, b, hb, rfl⟩ := hget i row h
          cases j with
          | zero =>
            obtain ⟨b', hb', hc⟩ := hcell i hi
            rw [hb] at hb'
            cases hb'
            simp at hx
            subst hx
            rw [Nat.mul_one, Nat.add_zero, hc] at hy
            cases hy
            exact .v rfl
          | succ j => simp at hx
      · rw [after_plain]
        intro id a ha'
        exact (hH id a ha').mono hle rfl (fun loc hl => hold _ (hW.lt id loc hl))
      · intro b o' h
        by_cases e1 : b = w.heap.size
        · subst e1
          have : (if w.heap.size = w.heap.size then some (Obj.cells arr e fr) else g.G w.heap.size) = some o' := h
          rw [if_pos rfl] at this
          cases this
          exact hblk
        · have : (if b = w.heap.size then some (Obj.cells arr e fr) else g.G b) = some o' := h
          rw [if_neg e1] at this
          rw [hold b (hGlt b o' this)]
          exact hW.still b o' this
      · intro id loc h
        have := hW.lt id loc h
        omega
      · intro id loc h
        have := hW.lt id loc h
        show (if loc.b = w.heap.size then some (Obj.cells arr e fr) else g.G loc.b) = none
        rw [if_neg (by omega)]
        exact hW.out id loc h
      · exact p1
      · exact p2
      · exact p3
      · intro b o' h
        by_cases e1 : b = w.heap.size
        · exact .inr (by omega)
        · have : (if b = w.heap.size then some (Obj.cells arr e fr) else g.G b) = some o' := h
          rw [if_neg e1] at this
          exact .inl this
    · cases hd
  | _ :: _ :: _, hx => have := hx.1; simp at this
theorem rows_cells (hH : HR P g L w) (hW : WG g w) {esz : Nat} (h0 : esz ≠ 0) {x : AV} {V : Value} (hx : VR g x V) {rows : List (List AV)} (hr : rowsOf L esz x = some rows) (hs : ∀ s, x ≠ .v (.string s)) :
    ∃ a cap, V = .slice a rows.length cap ∧ (∀ (i : Nat) (row : List AV), rows[i]? = some row → row.length = esz) ∧ (a = none → rows = [] ∧ cap = 0) ∧
      ∀ p, a = some p → ∃ ys : List Value, ys.length = rows.length * esz ∧ (∀ j y, ys[j]? = some y → w.cell? (p.add j) = some y) ∧ (∀ y ∈ ys, isCell y = true) ∧
        ∀ i row j x, rows[i]? = some row → row[j]? = some x → ∃ y, ys[i * esz + j]? = some y ∧ VR g x y := by
  unfold rowsOf at hr
  split at hr
  · rename_i e els
    split at hr
    · rename_i e1
      subst e1
      cases hr
      cases hx with
      | @is0 _ _ cap a => exact ⟨some a, cap, rfl, fun i row h => (by simp at h), fun h => (by cases h), fun p hp => ⟨[], by simp, fun j y h => (by simp at h), fun y h => (by simp at h), fun i row j x h => (by simp at h)⟩⟩
      | @is _ _ _ a cap hs' hl hrow hc hv =>
        refine ⟨some a, cap, rfl, hrow, fun h => (by cases h), fun p hp => ?_⟩
        cases hp
        have hdiv : ∀ k, k < rows.length * e → ∃ row, rows[k / e]? = some row ∧ k % e < row.length := fun k hk => by
          have h1 : k / e < rows.length := Nat.div_lt_of_lt_mul (by rw [Nat.mul_comm]; exact hk)
          refine ⟨rows[k / e], by simp [h1], ?_⟩
          rw [hrow (k / e) _ (by simp [h1])]
          exact Nat.mod_lt _ (by omega)
        have hcell : ∀ k, k < rows.length * e → ∃ y, g.cell a k = some y ∧ isCell y = true := fun k hk => by
          obtain ⟨row, h1, h2⟩ := hdiv k hk
          obtain ⟨y, h3, h4⟩ := hc (k / e) row (k % e) row[k % e] h1 (by simp [h2])
          rw [Nat.div_add_mod'] at h3
          exact ⟨y, h3, h4⟩
        refine ⟨(List.range (rows.length * e)).map fun k => (g.cell a k).getD undef, by simp, fun j y hy => ?_, fun y hy => ?_, fun i row j x h1 h2 => ?_⟩
        · by_cases hj : j < rows.length * e
          · obtain ⟨y', h3, h4⟩ := hcell j hj
            simp [hj, h3] at hy
            subst hy
            exact gcell_cell hW hs' h3
          · simp [hj] at hy
        · simp at hy
          obtain ⟨k, hk, rfl⟩ := hy
          obtain ⟨y', h3, h4⟩ := hcell k hk
          simp [h3, h4]
        · obtain ⟨y, h3, h4⟩ := hc i row j x h1 h2
          have hi : i < rows.length := (List.getElem?_eq_some_iff.1 h1).1
          have hj : j < e := by rw [← hrow i row h1]; exact (List.getElem?_eq_some_iff.1 h2).1
          have hlt : i * e + j < rows.length * e := by
            have : (i + 1) * e ≤ rows.length * e := Nat.mul_le_mul_right _ hi
            rw [Nat.succ_mul] at this
            omega
          exact ⟨y, by simp [hlt, h3], (hv i row j x y h1 h2 h3).mono (still_le g)⟩
    · cases hr
  · cases hr
    have := hx.ground
    subst this
    exact ⟨none, 0, rfl, fun i row h => (by simp at h), fun _ => ⟨rfl, rfl⟩, fun p hp => (by cases hp)⟩
  · cases hr
    cases hx with
    | @es _ a => exact ⟨a, 0, rfl, fun i row h => (by simp at h), fun h => ⟨rfl, rfl⟩, fun p hp => ⟨[], by simp, fun j y h => (by simp at h), fun y h => (by simp at h), fun i row j x h => (by simp at h)⟩⟩
  · exact absurd rfl (hs _)
  · rename_i z id ver off len cap
    split at hr
    · rename_i bx ty e ver' els hL
      split at hr
      · rename_i hc
        obtain ⟨rfl, rfl, hlen⟩ := hc
        cases hr
        obtain ⟨loc, cs, h1, h2, h3, h4, h5, h6, h7, h8, h9⟩ := hH id _ hL
        cases hx with
        | @sl _ _ _ _ _ _ _ loc' p c hi hver hlc hs hp =>
          rw [h1] at hi
          cases hi
          obtain ⟨hz, hp1, hp2, hp3, hp4⟩ := hp h3
          have hrl : ((els.drop off).take len).length = len := by simp; omega
          have hrow : ∀ (i : Nat) (row : List AV), ((els.drop off).take len)[i]? = some row → i < len ∧ els[off + i]? = some row := by
            intro i row h
            rw [List.getElem?_take] at h
            split at h
            · rename_i hi'; rw [List.getElem?_drop] at h; exact ⟨hi', h⟩
            · cases h
          refine ⟨some p, c, by rw [hrl], fun i row h => h8 _ row (hrow i row h).2, fun h => (by cases h), fun q hq => ?_⟩
          cases hq
          by_cases hl0 : len = 0
          · subst hl0
            exact ⟨[], by simp, fun j y h => (by simp at h), fun y h => (by simp at h), fun i row j x h => (by have := (hrow i row h).1; omega)⟩
          · have hpe : p = ⟨loc.b, off * loc.esz, none⟩ := hp1.resolve_left (by omega)
            subst hpe
            have hcell : ∀ k, k < len * e → ∃ y, cs[off * e + k]? = some y ∧ isCell y = true := fun k hk => by
              have hk1 : k / e < len := Nat.div_lt_of_lt_mul (by rw [Nat.mul_comm]; exact hk)
              have hk2 : off + k / e < els.length := by omega
              have hk3 := h8 (off + k / e) els[off + k / e] (by simp [hk2])
              have hk4 : k % e < els[off + k / e].length := by rw [hk3]; exact Nat.mod_lt _ (by omega)
              obtain ⟨y, k1, k2, k3⟩ := h9 (off + k / e) els[off + k / e] (k % e) els[off + k / e][k % e] (by simp [hk2]) (by simp [hk4])
              rw [Nat.add_mul, Nat.add_assoc, Nat.div_add_mod'] at k1
              exact ⟨y, k1, k2⟩
            rw [hrl]
            refine ⟨(List.range (len * e)).map fun k => (cs[off * e + k]?).getD undef, by simp, fun j y hy => ?_, fun y hy => ?_, fun i row j x a b => ?_⟩
            · by_cases hj : j < len * e
              · obtain ⟨y', k1, k2⟩ := hcell j hj
                simp [hj, k1] at hy
                subst hy
                rw [addr_add, heap_cell h5, h2]
                exact k1
              · simp [hj] at hy
            · simp at hy
              obtain ⟨k, hk, rfl⟩ := hy
              obtain ⟨y', k1, k2⟩ := hcell k hk
              simp [k1, k2]
            · obtain ⟨a1, a2⟩ := hrow i row a
              obtain ⟨y, k1, k2, k3⟩ := h9 _ row j x a2 b
              have hj : j < e := by rw [← h8 _ row a2]; exact (List.getElem?_eq_some_iff.1 b).1
              have hlt : i * e + j < len * e := by
                have : (i + 1) * e ≤ len * e := Nat.mul_le_mul_right _ a1
                rw [Nat.succ_mul] at this
                omega
              rw [Nat.add_mul, Nat.add_assoc] at k1
              exact ⟨y, by simp [hlt, k1], k3⟩
      · cases hr
    · cases hr
  · cases hr
end
end Go.Sim
set_option linter.unusedVariables false
set_option linter.unusedSimpArgs false
namespace Go.Sim
section
variable {P : Program} {g : Gh} {lim : Nat} {w : World} {L : Nat → Option AO} {n : Nat}
structure AppSrc (P : Program) (w : World) (u : TypeId) (i : TypeInfo) (z : Value) (x : Value) (zeros : Bool) (m : Nat) (news : List Value) : Prop where
  type : (zeros = false → (∃ e', P.underlying u = some (.slice e')) ∨ P.underlying u = some .string) ∧ (zeros = true → P.underlying u = some (.int .i64))
  len : news.length = m * i.size
  slice : zeros = false → (∀ w' : World, (Builtin.lenOf x).run P w' = .ok m w') ∧ ∀ w' : World, w'.heap = w.heap → (Builtin.firstCells i.size m x).run P w' = .ok news.toArray w'
  num : zeros = true → (∃ k, x = .int k m) ∧ m ≤ maxRoom ∧ news.toArray = if m * i.size = 0 then #[] else Builtin.zeroCells z.cells m
theorem run_app_room {t u ty e : TypeId} {i : TypeInfo} {z x : Value} {zeros : Bool} {m : Nat} {news : List Value} (h : AppSrc P w u i z x zeros m news) (ht : P.underlying t = some (.slice e)) (hi : P.info? e = some i)
    (hzv : i.zero = some z) (hb : i.bytes ≤ 2 ^ 16) {base : Option Addr} {sLen sCap : Nat} (hroom : sLen + m ≤ sCap) {w' : World}
    (hst : match base with | some a => (storeCells (a.add (sLen * i.size)) news).run P w = .ok () w' | none => w' = w) :
    (Builtin.append_ #[t, u] ty #[.slice base sLen sCap, x]).run P w = .ok (.slice base (sLen + m) sCap) w' := by
  cases zeros with
  | false =>
    obtain ⟨h1, h2⟩ := h.slice rfl
    have h2' := h2 w rfl
    rcases h.type.1 rfl with ⟨e', hd⟩ | hd
    all_goals
      cases base with
      | none =>
        subst hst
        simp [Builtin.append_, run_underlying ht, sizeOf, typeInfo, hi, run_underlying hd, h1, hroom, h2']
      | some a =>
        have hst' : (storeCells (a.add (sLen * i.size)) news).run P w = .ok () w' := hst
        simp [Builtin.append_, run_underlying ht, sizeOf, typeInfo, hi, run_underlying hd, h1, hroom, h2', hst']
  | true =>
    have hd := h.type.2 rfl
    obtain ⟨⟨k, rfl⟩, h2, h3⟩ := h.num rfl
    simp only [maxRoom] at h2
    have hw : IntKind.i64.wrap (m : Int) = m := by rw [IntKind.wrap_i64]; omega
    have h4 : ¬ (281474976710656 < (m : Int) * (i.bytes : Int)) := by
      have : m * i.bytes ≤ 2 ^ 30 * 2 ^ 16 := Nat.mul_le_mul h2 hb
      have h5 : ((m * i.bytes : Nat) : Int) ≤ ((2 ^ 30 * 2 ^ 16 : Nat) : Int) := Int.ofNat_le.2 this
      rw [Int.natCast_mul] at h5
      omega
    have h6 : ¬ ((m : Int) < 0) := by omega
    by_cases h0 : m * i.size = 0
    · rw [if_pos h0] at h3
      have h3' : news = [] := by simpa using h3
      subst h3'
      have h0' : m = 0 ∨ i.size = 0 := Nat.mul_eq_zero.1 h0
      cases base with
      | none =>
        subst hst
        simp [Builtin.append_, run_underlying ht, sizeOf, typeInfo, hi, run_underlying hd, asInt, asIntOf, hw, h4, h6, hroom, h0]
      | some a =>
        have hst2 : (storeCells (a.add (sLen * i.size)) []).run P w = .ok () w' := hst
        simp [Builtin.append_, run_underlying ht, sizeOf, typeInfo, hi, run_underlying hd, asInt, asIntOf, hw, h4, h6, hroom, h0, hst2]
    · rw [if_neg h0] at h3
      have h0' : ¬ (m = 0 ∨ i.size = 0) := fun e => h0 (Nat.mul_eq_zero.2 e)
      have h3' : (Builtin.zeroCells z.cells m).toList = news := by rw [← h3]
      cases base with
      | none =>
        subst hst
        simp [Builtin.append_, run_underlying ht, sizeOf, typeInfo, hi, run_underlying hd, asInt, asIntOf, hw, h4, h6, hroom, h0, zeroValue, hzv]
      | some a =>
        have hst' : (storeCells (a.add (sLen * i.size)) news).run P w = .ok () w' := hst
        simp [Builtin.append_, run_underlying ht, sizeOf, typeInfo, hi, run_underlying hd, asInt, asIntOf, hw, h4, h6, hroom, h0, zeroValue, hzv, h3', hst']
theorem run_app_grow {t u ty e : TypeId} {i : TypeInfo} {z x : Value} {zeros : Bool} {m : Nat} {news olds : List Value} (h : AppSrc P w u i z x zeros m news) (ht : P.underlying t = some (.slice e)) (hi : P.info? e = some i)
    (hzv : i.zero = some z) (hb : i.bytes ≤ 2 ^ 16) {base : Option Addr} {sLen sCap : Nat} (hroom : sCap < sLen + m) (hsmall : sLen + m ≤ maxRoom)
    (hold : ∀ w' : World, w'.heap = w.heap → (Builtin.firstCells i.size sLen (.slice base sLen sCap)).run P w' = .ok olds.toArray w') :
    (Builtin.append_ #[t, u] ty #[.slice base sLen sCap, x]).run P w = .ok (.slice (some ⟨w.heap.size, 0, none⟩) (sLen + m) (grownCap w (sLen + m) sCap e))
      (w.drew.alloc (.cells (olds.toArray ++ news.toArray ++ Builtin.zeroCells z.cells (grownCap w (sLen + m) sCap e - (sLen + m))) e)) := by
  simp only [maxRoom] at hsmall
  have hn : ¬ (sLen + m ≤ sCap) := by omega
  have h63 : ¬ (9223372036854775807 < ((sLen : Int) + (m : Int))) := by omega
  have h48 : ¬ (281474976710656 < Builtin.nextslicecap (sLen + m) sCap * i.bytes) := by
    have : (sLen + m) * i.bytes ≤ 2 ^ 30 * 2 ^ 16 := Nat.mul_le_mul (by omega) hb
    have := growslice_fits (bytes := i.bytes) hroom (by omega)
    omega
  have ho := hold w.drew rfl
  cases zeros with
  | false =>
    obtain ⟨h1, h2⟩ := h.slice rfl
    have h2' := h2 w.drew rfl
    rcases h.type.1 rfl with ⟨e', hd⟩ | hd
    all_goals
      simp [Builtin.append_, run_underlying ht, sizeOf, typeInfo, hi, run_underlying hd, h1, hn, h63, h48, h2', ho, Question.forced, zeroValue, hzv, newRow, grownCap]
      congr 2
      apply Array.ext'
      simp [List.append_assoc]
  | true =>
    have hd := h.type.2 rfl
    obtain ⟨⟨k, rfl⟩, h2, h3⟩ := h.num rfl
    simp only [maxRoom] at h2
    have hw : IntKind.i64.wrap (m : Int) = m := by rw [IntKind.wrap_i64]; omega
    have h4 : ¬ (281474976710656 < (m : Int) * (i.bytes : Int)) := by
      have : m * i.bytes ≤ 2 ^ 30 * 2 ^ 16 := Nat.mul_le_mul h2 hb
      have h5 : ((m * i.bytes : Nat) : Int) ≤ ((2 ^ 30 * 2 ^ 16 : Nat) : Int) := Int.ofNat_le.2 this
      rw [Int.natCast_mul] at h5
      omega
    have h6 : ¬ ((m : Int) < 0) := by omega
    by_cases h0 : m * i.size = 0
    · rw [if_pos h0] at h3
      have h0' : m = 0 ∨ i.size = 0 := Nat.mul_eq_zero.1 h0
      rw [h3]
      simp [Builtin.append_, run_underlying ht, sizeOf, typeInfo, hi, run_underlying hd, asInt, asIntOf, hw, h4, h6, hn, h63, h48, ho, Question.forced, h0, zeroValue, hzv, newRow, grownCap]
    · rw [if_neg h0] at h3
      have h0' : ¬ (m = 0 ∨ i.size = 0) := fun e => h0 (Nat.mul_eq_zero.2 e)
      rw [h3]
      simp [Builtin.append_, run_underlying ht, sizeOf, typeInfo, hi, run_underlying hd, asInt, asIntOf, hw, h4, h6, hn, h63, h48, ho, Question.forced, h0, zeroValue, hzv, newRow, grownCap]
end
end Go.Sim
set_option linter.unusedVariables false
set_option linter.unusedSimpArgs false
namespace Go.Sim
section
variable {P : Program} {g : Gh} {lim : Nat} {w : World} {L : Nat → Option AO} {n : Nat}
structure FlatR (g : Gh) (esz : Nat) (rows : List (List AV)) (ys : List Value) : Prop where
  len : ys.length = rows.length * esz
  row : ∀ (i : Nat) (row : List AV), rows[i]? = some row → row.length = esz
  cell : ∀ y ∈ ys, isCell y = true
  val : ∀ (i : Nat) (row : List AV) (j : Nat) (x : AV), rows[i]? = some row → row[j]? = some x → ∃ y, ys[i * esz + j]? = some y ∧ VR g x y
theorem lin_lt {i j e m : Nat} (hi : i < m) (hj : j < e) : i * e + j < m * e := by
  have : (i + 1) * e ≤ m * e := Nat.mul_le_mul_right _ hi
  rw [Nat.succ_mul] at this
  omega
theorem oneCell_of {y : Value} (h : isCell y = true) : y.oneCell' = true := by cases y <;> simp_all [isCell, Value.oneCell']
theorem upd_repr {g' : Gh} (hg : g.le g') {esz k ct : Nat} {cs : List Value} {els els' new : List (List AV)} {news : List Value} (hcs : cs.length = ct * esz) (hf : FlatR g esz new news) (hk : k + new.length ≤ ct)
    (h8 : ∀ (i : Nat) (row : List AV), els[i]? = some row → row.length = esz)
    (h9 : ∀ (i : Nat) (row : List AV) (j : Nat) (x : AV), els[i]? = some row → row[j]? = some x → ∃ y, cs[i * esz + j]? = some y ∧ isCell y = true ∧ VR g x y)
    (hget : ∀ (i : Nat) (row : List AV), els'[i]? = some row → (k ≤ i ∧ i < k + new.length ∧ new[i - k]? = some row) ∨ (¬ (k ≤ i ∧ i < k + new.length) ∧ els[i]? = some row)) :
    (∀ (i : Nat) (row : List AV), els'[i]? = some row → row.length = esz) ∧
    ∀ (i : Nat) (row : List AV) (j : Nat) (x : AV), els'[i]? = some row → row[j]? = some x →
      ∃ y, (cs.take (k * esz) ++ news ++ cs.drop (k * esz + news.length))[i * esz + j]? = some y ∧ isCell y = true ∧ VR g' x y := by
  have hfit : k * esz + news.length ≤ cs.length := by
    rw [hf.len, hcs, ← Nat.add_mul]
    exact Nat.mul_le_mul_right _ hk
  refine ⟨fun i row h => ?_, fun i row j x h hx => ?_⟩
  · rcases hget i row h with ⟨_, _, h⟩ | ⟨_, h⟩
    · exact hf.row _ row h
    · exact h8 i row h
  · rw [seg_get cs news (k * esz) (i * esz + j) hfit]
    rcases hget i row h with ⟨h1, h2, h⟩ | ⟨h1, h⟩
    · have hj : j < esz := by rw [← hf.row _ row h]; exact (List.getElem?_eq_some_iff.1 hx).1
      have e1 : i * esz + j - k * esz = (i - k) * esz + j := by
        have : k * esz ≤ i * esz := Nat.mul_le_mul_right _ h1
        rw [Nat.sub_mul]
        omega
      have e2 : (i - k) * esz + j < new.length * esz := lin_lt (by omega) hj
      rw [if_pos (by rw [hf.len]; have : k * esz ≤ i * esz := Nat.mul_le_mul_right _ h1; omega), e1]
      obtain ⟨y, h3, h4⟩ := hf.val (i - k) row j x h hx
      exact ⟨y, h3, hf.cell y (List.mem_of_getElem? h3), h4.mono hg⟩
    · have hj : j < esz := by rw [← h8 _ row h]; exact (List.getElem?_eq_some_iff.1 hx).1
      rw [if_neg]
      · obtain ⟨y, h3, h4, h5⟩ := h9 i row j x h hx
        exact ⟨y, h3, h4, h5.mono hg⟩
      · rw [hf.len]
        intro hc
        rcases Nat.lt_or_ge i k with hlt | hge
        · have := lin_lt (e := esz) hlt hj
          omega
        · have hge2 : k + new.length ≤ i := by omega
          have : (k + new.length) * esz ≤ i * esz := Nat.mul_le_mul_right _ hge2
          rw [Nat.add_mul] at this
          omega
theorem setL_hget {els new : List (List AV)} {k : Nat} (h : k + new.length ≤ els.length) : ∀ (i : Nat) (row : List AV), (setL els k new)[i]? = some row →
    (k ≤ i ∧ i < k + new.length ∧ new[i - k]? = some row) ∨ (¬ (k ≤ i ∧ i < k + new.length) ∧ els[i]? = some row) := by
  intro i row hi
  rw [setL_get els k new i h] at hi
  split at hi
  · rename_i hc; exact .inl ⟨hc.1, hc.2, hi⟩
  · rename_i hc; exact .inr ⟨hc, hi⟩
theorem append_hget {els new : List (List AV)} : ∀ (i : Nat) (row : List AV), (els ++ new)[i]? = some row →
    (els.length ≤ i ∧ i < els.length + new.length ∧ new[i - els.length]? = some row) ∨ (¬ (els.length ≤ i ∧ i < els.length + new.length) ∧ els[i]? = some row) := by
  intro i row hi
  rw [List.getElem?_append] at hi
  split at hi
  · rename_i hc; exact .inr ⟨by omega, hi⟩
  · rename_i hc
    have := (List.getElem?_eq_some_iff.1 hi).1
    exact .inl ⟨by omega, by omega, hi⟩
theorem src_of_rows {u : TypeId} {i : TypeInfo} {z : Value} (hu : (∃ e', P.underlying u = some (.slice e')) ∨ P.underlying u = some .string) (hH : HR P g L w) (hW : WG g w) (h0 : i.size ≠ 0)
    {x : AV} {V : Value} (hx : VR g x V) {rows : List (List AV)} (hr : rowsOf L i.size x = some rows) :
    ∃ news, AppSrc P w u i z V false rows.length news ∧ FlatR g i.size rows news := by
  by_cases hs : ∃ s, x = .v (.string s)
  · obtain ⟨s, rfl⟩ := hs
    have hV := hx.ground
    subst hV
    simp only [rowsOf] at hr
    split at hr
    · rename_i h1
      cases hr
      have hl : (byteRows s).length = s.size := by simp [byteRows]
      refine ⟨s.data.toList.map fun b => .int .u8 b.toNat, ⟨⟨fun _ => hu, fun h => by cases h⟩, by rw [hl, h1]; simp, fun _ => ⟨fun w' => by simp [Builtin.lenOf, hl], fun w' _ => ?_⟩, fun h => by cases h⟩, ⟨by rw [hl, h1]; simp, ?_, ?_, ?_⟩⟩
      · simp only [Builtin.firstCells, hl, Sem.run_pure]
        congr 1
        apply Array.ext'
        have : s.extract 0 s.size = s := by simp
        rw [this]
        simp
      · intro i row h
        simp only [byteRows, List.getElem?_map, Option.map_eq_some_iff] at h
        obtain ⟨b, hb, rfl⟩ := h
        rw [h1]; rfl
      · intro y hy
        simp at hy
        obtain ⟨b, _, rfl⟩ := hy
        rfl
      · intro i row j x h hx
        simp only [byteRows, List.getElem?_map, Option.map_eq_some_iff] at h
        obtain ⟨b, hb, rfl⟩ := h
        cases j with
        | zero =>
          simp at hx
          subst hx
          refine ⟨.int .u8 b.toNat, ?_, .v rfl⟩
          rw [h1]
          simp only [Nat.mul_one, Nat.add_zero, List.getElem?_map, hb, Option.map_some]
        | succ j => simp at hx
    · cases hr
  · obtain ⟨a, cap, rfl, hrow, hnone, hsome⟩ := rows_cells hH hW h0 hx hr (fun s e => hs ⟨s, e⟩)
    cases a with
    | none =>
      obtain ⟨rfl, rfl⟩ := hnone rfl
      exact ⟨[], ⟨⟨fun _ => hu, fun h => by cases h⟩, by simp, fun _ => ⟨fun w' => by simp [Builtin.lenOf], fun w' _ => by simp [Builtin.firstCells]⟩, fun h => by cases h⟩,
        ⟨by simp, fun i row h => by simp at h, fun y h => by simp at h, fun i row j x h => by simp at h⟩⟩
    | some p =>
      obtain ⟨ys, h1, h2, h3, h4⟩ := hsome p rfl
      refine ⟨ys, ⟨⟨fun _ => hu, fun h => by cases h⟩, h1, fun _ => ⟨fun w' => by simp [Builtin.lenOf], fun w' hw' => ?_⟩, fun h => by cases h⟩, ⟨h1, hrow, h3, h4⟩⟩
      exact run_firstCells_some (P := P) w' i.size rows.length p rows.length cap ys h1 (fun j y hy => by rw [World.cell?]; rw [hw']; exact h2 j y hy)
theorem zero_get (z : Array Value) (m : Nat) : ∀ i j, i < m → j < z.size → (Builtin.zeroCells z m)[i * z.size + j]? = z[j]? := by
  intro i j hi hj
  have hlt : i * z.size + j < m * z.size := lin_lt hi hj
  simp only [Builtin.zeroCells]
  rw [Array.getElem?_map]
  have h1 : (Array.range (m * z.size))[i * z.size + j]? = some (i * z.size + j) := by simp [hlt]
  rw [h1]
  have h2 : (i * z.size + j) % z.size = j := by rw [Nat.mul_comm, Nat.mul_add_mod]; exact Nat.mod_eq_of_lt hj
  simp only [Option.map_some, h2]
  simp [hj]
theorem flat_zero {z : Array Value} {m : Nat} (hz : z.toList.all Value.ground = true) : FlatR g z.size (List.replicate m (zeroRow z.toList)) (Builtin.zeroCells z m).toList := by
  have hl : (zeroRow z.toList).length = z.size := by simp [zeroRow]
  refine ⟨by simp [size_zeroCells], fun i row h => ?_, fun y hy => ?_, fun i row j x h hx => ?_⟩
  · rw [List.getElem?_replicate] at h
    split at h
    · cases h; exact hl
    · cases h
  · simp only [Builtin.zeroCells, Array.toList_map, List.mem_map] at hy
    obtain ⟨k, hk, rfl⟩ := hy
    have hk' : k < m * z.size := by simpa using hk
    have h0 : 0 < z.size := by
      rcases Nat.eq_zero_or_pos z.size with h | h
      · rw [h] at hk'; omega
      · exact h
    have : k % z.size < z.size := Nat.mod_lt _ h0
    rw [getElem!_pos z (k % z.size) this]
    exact ground_isCell (List.all_eq_true.1 hz _ (by simp))
  · rw [List.getElem?_replicate] at h
    split at h
    · rename_i hi
      cases h
      have hj : j < z.size := by rw [← hl]; exact (List.getElem?_eq_some_iff.1 hx).1
      refine ⟨z[j], ?_, ?_⟩
      · rw [Array.getElem?_toList, zero_get z m i j hi hj]; simp [hj]
      · exact (tr_zero (g := g) hz).2 j x _ hx (by simp [hj])
    · cases h
theorem src_of_zeros {u : TypeId} {i : TypeInfo} {z : Value} (hu : P.underlying u = some (.int .i64)) (hz : z.cells.toList.all Value.ground = true) (hl : z.cells.size = i.size) {k : IntKind} {m : Nat} (hm : m ≤ maxRoom) :
    ∃ news, AppSrc P w u i z (.int k m) true m news ∧ FlatR g i.size (List.replicate m (zeroRow z.cells.toList)) news := by
  have hf := flat_zero (g := g) (m := m) hz
  rw [hl] at hf
  refine ⟨_, ⟨⟨fun h => (by cases h), fun _ => hu⟩, (by have := hf.len; simpa using this), fun h => (by cases h), fun _ => ⟨⟨k, rfl⟩, hm, ?_⟩⟩, hf⟩
  split
  · rename_i h0
    apply Array.ext'
    have := hf.len
    simp only [List.length_replicate, h0] at this
    simpa using this
  · rfl
variable (ρ : Operand → Value) (o : Oper) {k : OpK} {os : List Operand} {xs : List AV} {out : Out}
theorem flat_append {esz : Nat} {a b : List (List AV)} {x y : List Value} (ha : FlatR g esz a x) (hb : FlatR g esz b y) : FlatR g esz (a ++ b) (x ++ y) := by
  refine ⟨by simp [ha.len, hb.len, Nat.add_mul], fun i row h => ?_, fun v hv => ?_, fun i row j v h hx => ?_⟩
  · rw [List.getElem?_append] at h
    split at h
    · exact ha.row i row h
    · exact hb.row _ row h
  · rcases List.mem_append.1 hv with h | h
    · exact ha.cell v h
    · exact hb.cell v h
  · rw [List.getElem?_append] at h
    split at h
    · rename_i hi
      have hj : j < esz := by rw [← ha.row i row h]; exact (List.getElem?_eq_some_iff.1 hx).1
      obtain ⟨v', h1, h2⟩ := ha.val i row j v h hx
      refine ⟨v', ?_, h2⟩
      rw [List.getElem?_append_left (by rw [ha.len]; exact lin_lt hi hj)]
      exact h1
    · rename_i hi
      obtain ⟨v', h1, h2⟩ := hb.val _ row j v h hx
      refine ⟨v', ?_, h2⟩
      have : a.length * esz ≤ i * esz := Nat.mul_le_mul_right _ (by omega)
      rw [List.getElem?_append_right (by rw [ha.len]; omega), ha.len]
      have e : i * esz + j - a.length * esz = (i - a.length) * esz + j := by rw [Nat.sub_mul]; omega
      rw [e]
      exact h1
theorem or_flat {ty : TypeId} {esz ct : Nat} {els : List (List AV)} {ys : List Value} {rest : Array Value} {id : Nat} {loc : Loc} {ver : Nat} {bx : Bool} (g' : Gh) (hi : g'.ι id = some loc) (he : loc.esz = esz) (hv : loc.ver = ver)
    (hb : loc.b = w.heap.size) (hct : loc.ct = ct) (h0 : esz ≠ 0) (hf : FlatR g' esz els ys) (hl : els.length ≤ ct) (hrest : rest.size = (ct - els.length) * esz) :
    OR P g' (w.alloc (.cells (ys.toArray ++ rest) ty)) id (.arr bx ty esz ver els) := by
  refine ⟨loc, _, hi, he, hv, h0, by rw [hb]; exact heap_alloc_new w _, ?_, by rw [hct]; exact hl, hf.row, fun i row j x h hx => ?_⟩
  · rw [hct, Array.size_append, List.size_toArray, hf.len, hrest, ← Nat.add_mul]
    congr 1
    omega
  · obtain ⟨y, h1, h2⟩ := hf.val i row j x h hx
    refine ⟨y, ?_, hf.cell y (List.mem_of_getElem? h1), h2⟩
    have := (List.getElem?_eq_some_iff.1 h1).1
    rw [Array.getElem?_append_left (by simpa using this)]
    simpa using h1
theorem FlatR.mono {g' : Gh} {esz : Nat} {a : List (List AV)} {x : List Value} (h : FlatR g esz a x) (hg : g.le g') : FlatR g' esz a x :=
  ⟨h.len, h.row, h.cell, fun i row j v a b => by obtain ⟨y, h1, h2⟩ := h.val i row j v a b; exact ⟨y, h1, h2.mono hg⟩⟩
theorem flat_nil (g : Gh) (esz : Nat) : FlatR g esz [] [] := ⟨by simp, fun i row h => by simp at h, fun y h => by simp at h, fun i row j x h => by simp at h⟩
theorem op_append {s x : Operand} {t u ty' e : TypeId} {i : TypeInfo} {z : Value} {zeros : Bool} (ho : o.op = .call { callee := .builtin .append, args := #[s, x], argTypes := #[t, u] })
    (ht : P.underlying t = some (.slice e)) (hi : P.info? e = some i) (hzv : i.zero = some z) (hzl : z.cells.size = i.size) (h0 : i.size ≠ 0) (hb : i.bytes ≤ 2 ^ 16)
    {sa : AV} {new : List (List AV)} {news : List Value} (hs : VR g sa (ρ s)) (hsrc : AppSrc P w u i z (ρ x) zeros new.length news) (hf : FlatR g i.size new news)
    (hd : appendTo L lim n e i.size sa new = some out) (hroom : ∀ z id ver off len cap, out.v = .sl z id ver off len cap → len ≤ maxRoom) (hH : HR P g L w) (hW : WG g w)
    (hn : g.ι n = none) (hl : lim ≤ n) : Good P g lim w L n out (execOp ρ o) := by
  have hrun : ∀ {V w'}, (Builtin.append_ #[t, u] o.type #[ρ s, ρ x]).run P w = .ok V w' → (execOp ρ o).run P w = .ok (.value V) w' := by
    intro V w' h
    simp [execOp, ho, resolve, invoke, builtin, h]
  -- a new block out of nothing
  have fresh : ∀ {base : Option Addr} {olds : List Value} {oldr : List (List AV)} {sCap : Nat}, ρ s = .slice base oldr.length sCap → FlatR g i.size oldr olds → sCap < oldr.length + new.length → oldr.length + new.length ≤ maxRoom →
      (∀ w' : World, w'.heap = w.heap → (Builtin.firstCells i.size oldr.length (.slice base oldr.length sCap)).run P w' = .ok olds.toArray w') →
      Good P g lim w L n { v := .sl i.size n 0 0 (oldr.length + new.length) none, new := some (.arr false e i.size 0 (oldr ++ new)) } (execOp ρ o) := by
    intro base olds oldr sCap hV ho' hcap hsm hold
    have hr := run_app_grow (ty := o.type) hsrc ht hi hzv hb hcap hsm hold
    rw [← hV] at hr
    have hge := grownCap_ge w (oldr.length + new.length) sCap e
    refine good_new (w₁ := w.drew) (loc := ⟨w.heap.size, i.size, grownCap w (oldr.length + new.length) sCap e, 0⟩) (.inr rfl) (hrun hr) rfl hn hl ?_ ?_ hH hW
    · intro g' hg' hi'
      exact .sl hi' (Nat.le_refl _) hge rfl (fun _ => ⟨rfl, .inr (by simp), by simp, fun _ => by simp, fun k h => by cases h⟩)
    · intro g' hg' hi'
      have := or_flat (P := P) (w := w) (ty := e) (bx := false) (rest := Builtin.zeroCells z.cells (grownCap w (oldr.length + new.length) sCap e - (oldr.length + new.length))) g' hi' rfl rfl rfl rfl h0 ((flat_append ho' hf).mono hg') (by simpa using hge)
        (by rw [size_zeroCells, hzl]; simp)
      simpa using this
  unfold appendTo at hd
  split at hd
  · -- nil
    have hV := hs.ground
    split at hd
    · rename_i he
      cases hd
      have hm : new.length = 0 := by simpa using he
      have hr := run_app_room (ty := o.type) hsrc ht hi hzv hb (base := none) (sLen := 0) (sCap := 0) (by omega) (w' := w) rfl
      rw [hm, ← hV] at hr
      refine good_pure (hrun (by rw [hr, hV])) ?_ hH hW
      exact .v rfl
    · rename_i he
      cases hd
      have hne : new.length ≠ 0 := by simpa using he
      have := fresh (base := none) (olds := []) (oldr := []) (sCap := 0) (by simpa using hV) (flat_nil g _) (by simp; omega) (by simpa using hroom _ _ _ _ _ _ rfl) (fun w' _ => by simp [Builtin.firstCells])
      simpa using this
  · -- an empty slice without room
    generalize hV : ρ s = V at hs
    cases hs with
    | @es _ a =>
      split at hd
      · rename_i he
        cases hd
        have hm : new.length = 0 := by simpa using he
        have hnil : news = [] := by have := hf.len; rw [hm] at this; simpa using this
        have hr := run_app_room (ty := o.type) hsrc ht hi hzv hb (base := a) (sLen := 0) (sCap := 0) (by omega) (w' := w) (by rw [hnil]; cases a <;> rfl)
        rw [hm] at hr
        exact good_pure (V := .slice a 0 0) (hrun (by rw [hV]; simpa using hr)) .es hH hW
      · rename_i he
        cases hd
        have hne : new.length ≠ 0 := by simpa using he
        have := fresh (base := a) (olds := []) (oldr := []) (sCap := 0) (by simpa using hV) (flat_nil g _) (by simp; omega) (by simpa using hroom _ _ _ _ _ _ rfl)
          (fun w' _ => by cases a <;> simp [Builtin.firstCells, loadCells, loadCellsFrom])
        simpa using this
  · -- a slice that never changes
    rename_i ez els
    split at hd
    · rename_i he
      cases hd
      have hm : new.length = 0 := by simpa using he.1
      have hnil : news = [] := by have := hf.len; rw [hm] at this; simpa using this
      generalize hV : ρ s = V at hs
      cases hs with
      | @is0 _ _ cap a =>
        have hr := run_app_room (ty := o.type) hsrc ht hi hzv hb (base := some a) (sLen := 0) (sCap := cap) (by omega) (w' := w) (by rw [hnil]; rfl)
        rw [hm, ← hV] at hr
        exact good_pure (V := .slice (some a) 0 cap) (hrun (by rw [hV] at hr ⊢; simpa using hr)) .is0 hH hW
      | @is _ _ _ a cap hs' hl' hr' hc' hv' =>
        have hr := run_app_room (ty := o.type) hsrc ht hi hzv hb (base := some a) (sLen := els.length) (sCap := cap) (by omega) (w' := w) (by rw [hnil]; rfl)
        rw [hm, ← hV] at hr
        refine good_pure (V := .slice (some a) els.length cap) (hrun (by simpa using hr)) (.is hs' hl' hr' hc' hv') hH hW
    · cases hd
  · -- a slice of an object
    rename_i zz id ver off len cap
    split at hd
    · rename_i bx ty2 ez ver' els hL
      split at hd
      · rename_i hc
        obtain ⟨rfl, rfl, rfl, hlen⟩ := hc
        obtain ⟨loc, cs, h1, h2, h3, h4, h5, h6, h7, h8, h9⟩ := hH id _ hL
        generalize hV : ρ s = V at hs
        cases hs with
        | @sl _ _ _ _ _ _ _ loc' p c hi2 hver hlc hsp hp =>
          have e1 : loc' = loc := by rw [h1] at hi2; cases hi2; rfl
          subst e1
          obtain ⟨hz, hp1, hp2, hp3, hp4⟩ := hp h3
          by_cases hm : new.isEmpty
          · rw [if_pos hm] at hd
            cases hd
            have hm' : new.length = 0 := by simpa using hm
            have hnil : news = [] := by have := hf.len; rw [hm'] at this; simpa using this
            have hr := run_app_room (ty := o.type) hsrc ht hi hzv hb (base := some p) (sLen := len) (sCap := c) (by omega) (w' := w) (by rw [hnil]; rfl)
            rw [hm', ← hV] at hr
            exact good_pure (V := .slice (some p) len c) (hrun (by simpa using hr)) (.sl hi2 hver hlc hsp hp) hH hW
          · rw [if_neg hm] at hd
            have hne : new.length ≠ 0 := by simpa using hm
            -- the write in place
            have inplace : ∀ (ver2 : Nat) (els' : List (List AV)) (cap' : Option Nat), len + new.length ≤ c → lim ≤ id → loc'.ver ≤ ver2 → els'.length ≤ loc'.ct →
                (∀ (i : Nat) (row : List AV), els'[i]? = some row → (off + len ≤ i ∧ i < off + len + new.length ∧ new[i - (off + len)]? = some row) ∨ (¬ (off + len ≤ i ∧ i < off + len + new.length) ∧ els[i]? = some row)) →
                (cap' = none → cap = none) → (∀ k, cap' = some k → cap = some k) →
                Good P g lim w L n { v := .sl zz id ver2 off (len + new.length) cap', up := some (id, .arr bx ty2 i.size ver2 els') } (execOp ρ o) := by
              intro ver2 els' cap' hroom' hlim hv2 hel hget hc1 hc2
              have hpe : p = ⟨loc'.b, off * loc'.esz, none⟩ := hp1.resolve_left (by omega)
              subst hpe
              have hfit : off * i.size + len * i.size + news.length ≤ cs.size := by
                rw [hf.len, h6, ← Nat.add_mul, ← Nat.add_mul]
                exact Nat.mul_le_mul_right _ (by omega)
              have hst := run_storeCells_at P loc'.b (off * i.size + len * i.size) ty2 news 0 cs w h5 (by simpa using hfit) (fun y hy => oneCell_of (hf.cell y hy))
              simp only [Nat.add_zero] at hst
              have hr := run_app_room (ty := o.type) hsrc ht hi hzv hb (base := some ⟨loc'.b, off * loc'.esz, none⟩) (sLen := len) (sCap := c) hroom' (w' := _) (by rw [h2]; simp only [addr_add]; exact hst)
              rw [← hV] at hr
              obtain ⟨p1, p2, p3, p4⟩ := setRow_pieces w loc'.b (cs.toList.take (off * i.size + len * i.size) ++ news ++ cs.toList.drop (off * i.size + len * i.size + news.length)).toArray
              have hblk := setRow_heap w loc'.b cs (cs.toList.take (off * i.size + len * i.size) ++ news ++ cs.toList.drop (off * i.size + len * i.size + news.length)).toArray ty2 (0, 0) h5
              refine good_up (nx := .value _) (V := _) (loc := loc') (ver := ver2) (hrun hr) (.inl rfl) h1 hlim hv2 hblk (fun b hb => setRow_other w loc'.b b _ hb) p4 p1 p2 p3 (fun g' hg' hi' => ?_) (fun g' hg' hi' => ?_) hH hW
              · exact .sl hi' (Nat.le_refl _) hroom' hsp (fun _ => ⟨hz, .inr rfl, hp2, fun h => hp3 (hc1 h), fun k h => hp4 k (hc2 k h)⟩)
              · obtain ⟨r1, r2⟩ := upd_repr (g' := g') hg' (cs := cs.toList) (k := off + len) (ct := loc'.ct) (by simpa using h6) hf (by omega) h8 (fun i row j x a b => by simpa using h9 i row j x a b) hget
                rw [Nat.add_mul] at r2
                refine ⟨_, _, hi', h2, rfl, h4, hblk, ?_, hel, r1, fun i row j x a b => ?_⟩
                · rw [List.size_toArray, seg_len _ _ _ (by simpa using hfit)]
                  simpa using h6
                · simpa using r2 i row j x a b
            cases cap with
            | none =>
              simp only at hd
              split at hd
              · rename_i hfull
                split at hd
                · rename_i hg2
                  obtain ⟨rfl, hlim, rfl⟩ := hg2
                  cases hd
                  have hl2 : len = els.length := by omega
                  by_cases hroom2 : len + new.length ≤ c
                  · have := inplace (ver' + 1) (els ++ new) none hroom2 hlim (by omega) (by simp; have := hp3 rfl; omega) (fun i row h => by
                      have := append_hget (els := els) (new := new) i row h
                      rw [Nat.zero_add, hl2]
                      exact this) (fun _ => rfl) (fun k h => by cases h)
                    exact this
                  · -- a new block
                    have hold : ∃ olds, FlatR g i.size els olds ∧ ∀ w' : World, w'.heap = w.heap → (Builtin.firstCells i.size len (.slice (some p) len c)).run P w' = .ok olds.toArray w' := by
                      have hsv : VR g (.sl zz id ver' 0 len none) (.slice (some p) len c) := .sl hi2 hver hlc hsp hp
                      obtain ⟨a, cap2, hV2, q1, q2, q3⟩ := rows_cells (rows := els) hH hW h0 hsv (by simp [rowsOf, hL, hl2]) (fun s e => by cases e)
                      simp only [Value.slice.injEq] at hV2
                      obtain ⟨rfl, -, rfl⟩ := hV2
                      obtain ⟨ys, y1, y2, y3, y4⟩ := q3 p rfl
                      refine ⟨ys, ⟨y1, q1, y3, y4⟩, fun w' hw' => ?_⟩
                      exact run_firstCells_some (P := P) w' i.size len p len c ys (by rw [y1, hl2]) (fun j y hy => by rw [World.cell?, hw']; exact y2 j y hy)
                    obtain ⟨olds, ho1, ho2⟩ := hold
                    have hsm := hroom _ _ _ _ _ _ rfl
                    have hr := run_app_grow (ty := o.type) hsrc ht hi hzv hb (by omega) hsm ho2
                    rw [← hV] at hr
                    have hge := grownCap_ge w (len + new.length) c ty2
                    refine good_move (w₁ := w.drew) (loc := loc') (loc' := ⟨w.heap.size, i.size, grownCap w (len + new.length) c ty2, ver' + 1⟩) (.inr rfl) (hrun hr) h1 hlim (by simp; omega) rfl ?_ ?_ hH hW
                    · intro g' hg' hi'
                      exact .sl hi' (Nat.le_refl _) hge rfl (fun _ => ⟨by rw [← hz, h2], .inr (by simp), by simp, fun _ => by simp, fun k h => by cases h⟩)
                    · intro g' hg' hi'
                      have hlenn : (els ++ new).length = len + new.length := by simp [hl2]
                      have := or_flat (P := P) (w := w) (ty := ty2) (bx := false) (ver := ver' + 1) (rest := Builtin.zeroCells z.cells (grownCap w (len + new.length) c ty2 - (len + new.length))) g' hi' rfl rfl rfl rfl h0 ((flat_append ho1 hf).mono hg') (by rw [hlenn]; exact hge)
                        (by rw [size_zeroCells, hzl, hlenn])
                      simpa using this
                · cases hd
              · split at hd
                · rename_i hg2
                  obtain ⟨hfit, hlim⟩ := hg2
                  cases hd
                  have hct := hp3 rfl
                  have := inplace ver' (setL els (off + len) new) none (by omega) hlim (by omega) (by rw [setL_length]; exact h7) (setL_hget hfit) (fun _ => rfl) (fun k h => by cases h)
                  exact this
                · cases hd
            | some c' =>
              simp only at hd
              have hcc := hp4 c' rfl
              subst hcc
              split at hd
              · rename_i hr1
                split at hd
                · rename_i hg2
                  obtain ⟨hfit, hlim⟩ := hg2
                  cases hd
                  exact inplace ver' (setL els (off + len) new) (some c) hr1 hlim (by omega) (by rw [setL_length]; exact h7) (setL_hget hfit) (fun h => by cases h) (fun k h => h)
                · cases hd
              · rename_i hr1
                cases hd
                have hsv : VR g (.sl zz id ver' off len (some c)) (.slice (some p) len c) := .sl hi2 hver hlc hsp hp
                obtain ⟨a, cap2, hV2, q1, q2, q3⟩ := rows_cells (rows := (els.drop off).take len) hH hW h0 hsv (by simp [rowsOf, hL, hlen]) (fun s e => by cases e)
                have hll : ((els.drop off).take len).length = len := by simp; omega
                simp only [Value.slice.injEq] at hV2
                obtain ⟨rfl, -, rfl⟩ := hV2
                obtain ⟨ys, y1, y2, y3, y4⟩ := q3 p rfl
                have hsm := hroom _ _ _ _ _ _ rfl
                have := fresh (base := some p) (olds := ys) (oldr := (els.drop off).take len) (sCap := c) (by rw [hll]; exact hV) ⟨y1, q1, y3, y4⟩ (by rw [hll]; omega) (by rw [hll]; exact hsm)
                  (fun w' hw' => run_firstCells_some (P := P) w' i.size _ p _ c ys y1 (fun j y hy => by rw [World.cell?, hw']; exact y2 j y hy))
                rw [hll] at this
                exact this
      · cases hd
    · cases hd
  · cases hd
end
end Go.Sim
set_option linter.unusedVariables false
set_option linter.unusedSimpArgs false
namespace Go.Sim
section
variable {P : Program} {g : Gh} {lim : Nat} {w : World} {L : Nat → Option AO} {n : Nat}
variable (ρ : Operand → Value) (o : Oper) {k : OpK} {os : List Operand} {xs : List AV} {out : Out}
theorem TR.setL {g : Gh} : ∀ {row : List AV} {R : List Value} (off : Nat) {cs : List AV} {Cs : List Value}, TR g row R → TR g cs Cs → TR g (setL row off cs) (setL R off Cs)
  | row, R, off, [], Cs, h, hc => by
    have : Cs = [] := by have := hc.1; simpa using this.symm
    subst this; exact h
  | row, R, off, c :: cs, [], h, hc => by have := hc.1; simp at this
  | row, R, off, c :: cs, C :: Cs, h, hc => by
    simp only [Sim.setL]
    exact TR.setL (off + 1) (h.set hc.head off) hc.tail
theorem fold_setL : ∀ (vs : List Value) (k off : Nat) (cells : Array Value), ((vs.zipIdx k).foldl (fun cs (x : Value × Nat) => cs.setIfInBounds (off + x.2) x.1) cells).toList = setL cells.toList (off + k) vs
  | [], k, off, cells => by simp [setL]
  | v :: vs, k, off, cells => by
    simp only [List.zipIdx_cons, List.foldl_cons]
    rw [fold_setL vs (k + 1) off]
    simp [setL, Nat.add_assoc]
theorem mem_setL {x : Value} : ∀ {R : List Value} (off : Nat) {Cs : List Value}, x ∈ setL R off Cs → x ∈ R ∨ x ∈ Cs
  | R, off, [], h => .inl h
  | R, off, C :: Cs, h => by
    simp only [setL] at h
    rcases mem_setL (off + 1) h with h | h
    · rcases List.mem_or_eq_of_mem_set h with h | h
      · exact .inl h
      · subst h; exact .inr (by simp)
    · exact .inr (by simp [h])
theorem fill_run {place : Nat → Option (Nat × Nat)} : ∀ (idx : List Nat) (ps : List (Nat × Nat)) (xs : List AV) (vs : List Value) (cells : List AV) (Cs : Array Value) (cs' : List AV),
    (∀ (j i : Nat), idx[j]? = some i → ps[j]? = place i ∧ (place i).isSome) → idx.length = ps.length → TR g xs vs → vs.length = idx.length → TR g cells Cs.toList → (∀ y ∈ Cs.toList, isCell y = true) → fillParts cells ps xs = some cs' →
    ∃ Cs' : Array Value, Instr.fill place Cs (idx.zip vs) = some Cs' ∧ TR g cs' Cs'.toList ∧ ∀ y ∈ Cs'.toList, isCell y = true
  | [], ps, xs, vs, cells, Cs, cs', hp, hl, hx, hv, hc, hcell, hf => by
    have h1 : ps = [] := by simpa using hl.symm
    have h2 : vs = [] := by simpa using hv
    subst h1 h2
    have h3 : xs = [] := by have := hx.1; simpa using this
    subst h3
    simp only [fillParts, Option.some.injEq] at hf
    subst hf
    exact ⟨Cs, by simp [Instr.fill], hc, hcell⟩
  | i :: idx, ps, xs, vs, cells, Cs, cs', hp, hl, hx, hv, hc, hcell, hf => by
    match ps, hl with
    | [], hl => simp at hl
    | p :: ps, hl =>
      match vs, hv with
      | [], hv => simp at hv
      | v :: vs, hv =>
        match xs, hx with
        | [], hx => have := hx.1; simp at this
        | x :: xs, hx =>
          obtain ⟨h1, h2⟩ := hp 0 i rfl
          simp only [List.getElem?_cons_zero] at h1
          obtain ⟨off, sz⟩ := p
          simp only [fillParts] at hf
          split at hf
          · rename_i cs hcs
            split at hf
            · rename_i hcond
              obtain ⟨e1, e2⟩ := hcond
              obtain ⟨ht, hcl⟩ := hx.head.cells hcs
              have hsz : v.cells.size = sz := by have := ht.1; simp at this; omega
              have hfit : ¬ (off + v.cells.size > Cs.size) := by have := hc.1; simp at this; omega
              let Cs1 := v.cells.zipIdx.foldl (fun cs (x : Value × Nat) => cs.setIfInBounds (off + x.2) x.1) Cs
              have hCs1 : Cs1.toList = setL Cs.toList off v.cells.toList := by
                have := fold_setL v.cells.toList 0 off Cs
                rw [Nat.add_zero] at this
                rw [← this]
                simp only [Cs1]
                congr 1
                rw [← Array.foldl_toList]
                congr 1
                simp
              obtain ⟨Cs', h3, h4, h5⟩ := fill_run idx ps xs vs (setL cells off cs) Cs1 cs' (fun j i' hj => by simpa using hp (j + 1) i' (by simpa using hj)) (by simpa using hl) hx.tail (by simpa using hv)
                (by rw [hCs1]; exact hc.setL off ht) (fun y hy => by
                  rw [hCs1] at hy
                  rcases mem_setL off hy with h | h
                  · exact hcell y h
                  · exact hcl y h) hf
              refine ⟨Cs', ?_, h4, h5⟩
              simp only [List.zip_cons_cons, Instr.fill, ← h1]
              rw [if_neg (by simp [hsz]; omega)]
              exact h3
            · cases hf
          · cases hf
theorem mapM_run {α β : Type} (f : α → Sem β) (r : α → β) (l : List α) (h : ∀ a ∈ l, ∀ w, (f a).run P w = .ok (r a) w) (w : World) : (l.mapM f).run P w = .ok (l.map r) w := by
  induction l generalizing w with
  | nil => simp
  | cons a l ih =>
    simp only [List.mapM_cons, Sem.run_bind, h a (by simp), Result.andThen_ok, ih (fun b hb => h b (by simp [hb])), Sem.run_pure, List.map_cons]
theorem amapM_run {α β : Type} (f : α → Sem β) (r : α → β) (l : Array α) (h : ∀ a ∈ l.toList, ∀ w, (f a).run P w = .ok (r a) w) (w : World) : (l.mapM f).run P w = .ok (l.map r) w := by
  rw [Array.mapM_eq_mapM_toList]
  simp only [Sem.run_map, mapM_run f r l.toList h w, Result.andThen_ok]
  congr 1
  apply Array.ext'
  simp
theorem compParts_spec {t : TypeId} {place : Nat → Option (Nat × Nat)}
    (hs : ∀ fs, P.underlying t = some (.struct fs) → ∀ (i : Nat) (f : Field) (fi : TypeInfo), fs[i]? = some f → P.info? f.type = some fi → place i = some (f.offset, fi.size))
    (ha : ∀ m e, P.underlying t = some (.array m e) → ∀ (i : Nat) (ei : TypeInfo), P.info? e = some ei → place i = some (i * ei.size, ei.size)) :
    ∀ (is : List Nat) (ps : List (Nat × Nat)), compParts P t is = some ps → is.length = ps.length ∧ ∀ (j i : Nat), is[j]? = some i → ps[j]? = place i ∧ (place i).isSome
  | [], ps, h => by
    simp only [compParts, Option.some.injEq] at h
    subst h
    exact ⟨rfl, fun j i h => by simp at h⟩
  | i :: is, ps, h => by
    simp only [compParts] at h
    split at h
    · cases h
    · rename_i r hr
      have IH := compParts_spec hs ha is r hr
      have fin : ∀ q, place i = some q → ps = q :: r → (i :: is).length = ps.length ∧ ∀ (j i' : Nat), (i :: is)[j]? = some i' → ps[j]? = place i' ∧ (place i').isSome := by
        intro q hq hps
        subst hps
        refine ⟨by simp [IH.1], fun j i' hj => ?_⟩
        cases j with
        | zero => simp at hj; subst hj; simp [hq]
        | succ j => simpa using IH.2 j i' (by simpa using hj)
      split at h
      · rename_i fs hu
        split at h
        · rename_i f hf
          split at h
          · rename_i fi hfi
            cases h
            exact fin _ (hs fs hu i f fi hf hfi) rfl
          · cases h
        · cases h
      · rename_i m e hu
        split at h
        · rename_i ei hei
          cases h
          exact fin _ (ha m e hu i ei hei) rfl
        · cases h
      · cases h
theorem op_build {t : TypeId} {parts : Array (Nat × Operand)} {i : TypeInfo} {z : Value} {ps : List (Nat × Nat)} (ho : o.op = .build t parts) (hi : P.info? t = some i) (hz : i.zero = some z)
    (hg : z.cells.toList.all Value.ground = true) (hfs : ∀ fs, P.underlying t = some (.struct fs) → fs.toList.all (fun f => (P.info? f.type).isSome) = true) (hps : compParts P t (parts.toList.map (·.1)) = some ps)
    (hx : TR g xs ((parts.toList.map (·.2)).map ρ)) (hd : doOp L lim n (.build z.cells.toList ps) xs = some out) (hae : ∀ m e, P.underlying t = some (.array m e) → (P.info? e).isSome = true) (hu : P.underlying t ≠ none) (hua : isAggB P t = true) (hH : HR P g L w) (hW : WG g w) :
    Good P g lim w L n out (execOp ρ o) := by
  simp only [doOp, Option.map_eq_some_iff] at hd
  obtain ⟨cs, hcs, rfl⟩ := hd
  have hzv := fun w => zeroValue_run (P := P) hi hz w
  have hzip : (parts.map fun (x : Nat × Operand) => (x.1, ρ x.2)).toList = (parts.toList.map (·.1)).zip ((parts.toList.map (·.2)).map ρ) := by
    rw [Array.toList_map]
    generalize parts.toList = l
    induction l with
    | nil => rfl
    | cons a l ih => simp [ih]
  have fin : ∀ Cs' : Array Value, TR g cs Cs'.toList → (∀ y ∈ Cs'.toList, isCell y = true) → (Instr.build t (parts.map fun (x : Nat × Operand) => (x.1, ρ x.2))).run P w = .ok (.agg Cs') w →
      Good P g lim w L n { v := .agg cs } (execOp ρ o) := by
    intro Cs' h1 h2 h3
    refine good_pure (V := .agg Cs') ?_ (.agg (by simpa using h1.1) (fun i y hy => h2 y (List.mem_of_getElem? (by simpa using hy))) (fun i x y a b => h1.2 i x y a (by simpa using b))) hH hW
    have h3' : (Instr.build t (parts.map fun (i, x) => (i, ρ x))).run P w = .ok (.agg Cs') w := h3
    simp [execOp, ho, h3']
  cases hd2 : P.underlying t with
  | none => exact absurd hd2 hu
  | some d =>
    cases d with
    | struct fs =>
      have hall := hfs fs hd2
      let place : Nat → Option (Nat × Nat) := fun j => (fs.map fun f => (f.offset, ((P.info? f.type).map (·.size)).getD 0))[j]?
      obtain ⟨e1, e2⟩ := compParts_spec (P := P) (t := t) (place := place) (fun fs' hu' j f fi hf hfi => by
        rw [hd2] at hu'; cases hu'
        simp [place, hf, hfi]) (fun m e hu' => by rw [hd2] at hu'; cases hu') _ _ hps
      obtain ⟨Cs', h1, h2, h3⟩ := fill_run (place := place) (parts.toList.map (·.1)) ps xs ((parts.toList.map (·.2)).map ρ) (zeroRow z.cells.toList) z.cells cs e2 e1 hx (by simp) (tr_zero hg) (cells_ground hg) hcs
      refine fin Cs' h2 h3 ?_
      have hm := amapM_run (P := P) (fun f : Field => (do pure (f.offset, ← sizeOf f.type) : Sem (Nat × Nat))) (fun f => (f.offset, ((P.info? f.type).map (·.size)).getD 0)) fs (fun f hf w => by
        have := List.all_eq_true.1 hall f hf
        cases hfi : P.info? f.type with
        | none => simp [hfi] at this
        | some fi => simp [sizeOf_run hfi, hfi]) w
      simp only [Instr.build, Sem.run_bind, hzv, Result.andThen_ok, run_underlying hd2, hm, hzip]
      simp only [place] at h1
      rw [h1]
      simp
    | array m e =>
      have hei := hae m e hd2
      cases hei : P.info? e with
      | none => simp [hei] at *
      | some ei =>
        let place : Nat → Option (Nat × Nat) := fun j => some (j * ei.size, ei.size)
        obtain ⟨e1, e2⟩ := compParts_spec (P := P) (t := t) (place := place) (fun fs' hu' => by rw [hd2] at hu'; cases hu') (fun m' e' hu' j ei' hei' => by
          rw [hd2] at hu'; cases hu'
          rw [hei] at hei'; cases hei'; rfl) _ _ hps
        obtain ⟨Cs', h1, h2, h3⟩ := fill_run (place := place) (parts.toList.map (·.1)) ps xs ((parts.toList.map (·.2)).map ρ) (zeroRow z.cells.toList) z.cells cs e2 e1 hx (by simp) (tr_zero hg) (cells_ground hg) hcs
        refine fin Cs' h2 h3 ?_
        simp only [Instr.build, Sem.run_bind, hzv, Result.andThen_ok, run_underlying hd2, sizeOf_run hei, hzip]
        simp only [place] at h1
        rw [h1]
        simp
    | _ => simp [isAggB, hd2] at hua
end
end Go.Sim
set_option linter.unusedVariables false
set_option linter.unusedSimpArgs false
namespace Go.Sim
section
variable {P : Program} {g : Gh} {lim : Nat} {w : World} {L : Nat → Option AO} {n : Nat}
variable (ρ : Operand → Value) (o : Oper) {k : OpK} {os : List Operand} {xs : List AV} {out : Out}
theorem range_zero (z : Array Value) (len : Nat) : ((Array.range (len * z.size)).map (z[· % z.size]!)) = Builtin.zeroCells z len := rfl
theorem TR.flatRows {esz m : Nat} {cs : List AV} {Cs : List Value} (h : TR g cs Cs) (hl : cs.length = m * esz) (hc : ∀ y ∈ Cs, isCell y = true) :
    FlatR g esz ((List.range m).map fun i => (cs.drop (i * esz)).take esz) Cs := by
  refine ⟨by rw [← h.1, hl]; simp, fun i row hr => ?_, hc, fun i row j x hr hx => ?_⟩
  · simp only [List.getElem?_map, Option.map_eq_some_iff] at hr
    obtain ⟨i', hi', rfl⟩ := hr
    have : i < m := by have := (List.getElem?_eq_some_iff.1 hi').1; simpa using this
    rw [List.getElem?_range this] at hi'
    cases hi'
    have h2 : (i + 1) * esz ≤ m * esz := Nat.mul_le_mul_right _ this
    rw [Nat.succ_mul] at h2
    simp
    omega
  · simp only [List.getElem?_map, Option.map_eq_some_iff] at hr
    obtain ⟨i', hi', rfl⟩ := hr
    have hi : i < m := by have := (List.getElem?_eq_some_iff.1 hi').1; simpa using this
    rw [List.getElem?_range hi] at hi'
    cases hi'
    rw [List.getElem?_take] at hx
    split at hx
    · rename_i hj
      rw [List.getElem?_drop] at hx
      have hlt : i * esz + j < Cs.length := by rw [← h.1, hl]; exact lin_lt hi hj
      exact ⟨Cs[i * esz + j], by simp [hlt], h.2 _ x _ hx (by simp [hlt])⟩
    · cases hx
theorem op_buildSl {t e : TypeId} {len : Nat} {parts : Array (Nat × Operand)} {z : List Value} (ho : o.op = .buildSlice t len parts) (hu : P.underlying t = some (.slice e)) (hz : zeroOf P e = some z) (hsm : len * z.length ≤ 2 ^ 24)
    (hx : TR g xs ((parts.toList.map (·.2)).map ρ)) (hd : doOp L lim n (.buildSl e z.length len z (parts.toList.map (·.1))) xs = some out) (hH : HR P g L w) (hW : WG g w) (hn : g.ι n = none) (hl : lim ≤ n) :
    Good P g lim w L n out (execOp ρ o) := by
  simp only [doOp, Option.map_eq_some_iff] at hd
  obtain ⟨cs, hcs, rfl⟩ := hd
  obtain ⟨i, zv, hi, hzv, hzl, hg, hlen, hne⟩ := zeroOf_spec hz
  have hzs : zv.cells.size = z.length := by rw [← hzl]; simp
  have hfl : ((List.range len).flatMap fun _ => zeroRow z) = zeroRow (Builtin.zeroCells zv.cells len).toList := by
    apply List.ext_getElem?
    intro j
    have hz0 : 0 < z.length := by omega
    have hA : ((List.range len).flatMap fun _ => zeroRow z) = (List.replicate len (zeroRow z)).flatten := by
      rw [List.flatMap_def, List.map_const']
      simp
    rw [hA]
    by_cases hj : j < len * z.length
    · have h1 : j / z.length < len := Nat.div_lt_of_lt_mul (by rw [Nat.mul_comm]; exact hj)
      have h2 : j % z.length < z.length := Nat.mod_lt _ hz0
      have hR : (zeroRow (Builtin.zeroCells zv.cells len).toList)[j]? = some (.v z[j % z.length]) := by
        have := zero_get zv.cells len (j / z.length) (j % z.length) h1 (by omega)
        rw [hzs, Nat.div_add_mod'] at this
        simp only [zeroRow, List.getElem?_map, Array.getElem?_toList, this]
        have h3 : zv.cells[j % z.length]? = some z[j % z.length] := by rw [← Array.getElem?_toList]; simp [hzl, h2]
        rw [h3]; rfl
      rw [hR]
      have : ∀ (m : Nat) (k : Nat), k < m * z.length → ((List.replicate m (zeroRow z)).flatten)[k]? = some (.v z[k % z.length]!) := by
        intro m
        induction m with
        | zero => intro k hk; omega
        | succ m ih =>
          intro k hk
          rw [List.replicate_succ, List.flatten_cons, List.getElem?_append]
          have hzr : (zeroRow z).length = z.length := by simp [zeroRow]
          by_cases hkz : k < z.length
          · rw [if_pos (by omega)]
            simp [zeroRow, hkz, Nat.mod_eq_of_lt hkz]
          · rw [if_neg (by omega), hzr, ih (k - z.length) (by rw [Nat.succ_mul] at hk; omega)]
            congr 3
            rw [← Nat.mod_eq_sub_mod (by omega)]
      rw [this len j hj]
      congr 1
      simp [h2]
    · rw [List.getElem?_eq_none, List.getElem?_eq_none]
      · simp [zeroRow, size_zeroCells, hzs]; omega
      · simp [zeroRow]; omega
  have hgz : (Builtin.zeroCells zv.cells len).toList.all Value.ground = true := by
    rw [List.all_eq_true]
    intro y hy
    simp only [Builtin.zeroCells, Array.toList_map, List.mem_map] at hy
    obtain ⟨k, hk, rfl⟩ := hy
    have : k % zv.cells.size < zv.cells.size := Nat.mod_lt _ (by omega)
    rw [getElem!_pos zv.cells _ this]
    exact List.all_eq_true.1 hg _ (by rw [← hzl]; simp)
  let place : Nat → Option (Nat × Nat) := fun j => some (j * z.length, z.length)
  rw [hfl] at hcs
  obtain ⟨Cs', h1, h2, h3⟩ := fill_run (g := g) (place := place) (parts.toList.map (·.1)) _ xs ((parts.toList.map (·.2)).map ρ) (zeroRow (Builtin.zeroCells zv.cells len).toList) (Builtin.zeroCells zv.cells len) cs
    (fun j i' hj => by rw [List.getElem?_map, hj]; exact ⟨rfl, rfl⟩) (by simp) hx (by simp) (tr_zero hgz) (cells_ground hgz) hcs
  have hCl : cs.length = len * z.length := by
    have : ∀ (cells : List AV) (ps : List (Nat × Nat)) (xs : List AV) (cs : List AV), fillParts cells ps xs = some cs → cs.length = cells.length := by
      intro cells ps
      induction ps generalizing cells with
      | nil => intro xs cs h; cases xs <;> simp [fillParts] at h; subst h; rfl
      | cons p ps ih =>
        intro xs cs h
        cases xs with
        | nil => simp [fillParts] at h
        | cons x xs =>
          obtain ⟨off, m⟩ := p
          simp only [fillParts] at h
          split at h
          · split at h
            · have := ih _ xs cs h
              rw [this, setL_length]
            · cases h
          · cases h
    rw [this _ _ _ _ hcs]
    simp [zeroRow, size_zeroCells, hzs]
  have hzip : (parts.map fun (x : Nat × Operand) => (x.1, ρ x.2)).toList = (parts.toList.map (·.1)).zip ((parts.toList.map (·.2)).map ρ) := by
    rw [Array.toList_map]
    generalize parts.toList = l
    induction l with
    | nil => rfl
    | cons a l ih => simp [ih]
  have hrun : (Instr.buildSlice t len (parts.map fun (x : Nat × Operand) => (x.1, ρ x.2))).run P w = .ok (.slice (some ⟨w.heap.size, 0, none⟩) len len) (w.alloc (.cells Cs' e)) := by
    have hsm' : ¬ (len * i.size > 2 ^ 24) := by rw [← hlen]; omega
    have hfill : Instr.fill (fun j => some (j * i.size, i.size)) ((Array.range (len * i.size)).map (zv.cells[· % zv.cells.size]!)) (parts.map fun (x : Nat × Operand) => (x.1, ρ x.2)).toList = some Cs' := by
      rw [hzip, ← hlen, ← hzs, range_zero, hzs]
      exact h1
    by_cases h0 : len * i.size = 0
    · have hz0 : (Array.range (len * i.size)).map ((#[] : Array Value)[· % (#[] : Array Value).size]!) = (Array.range (len * i.size)).map (zv.cells[· % zv.cells.size]!) := by rw [h0]; simp
      rw [← hz0, h0] at hfill
      simp only [Instr.buildSlice, Sem.run_bind, run_underlying hu, Result.andThen_ok, sizeOf_run hi]
      simp only [h0]
      simp only [Sem.run_ite, Sem.run_bind, gt_iff_lt, Nat.not_lt_zero, if_false, Sem.run_pure, Result.andThen_ok, if_true]
      rw [hfill]
      simp [newRow]
    · exact run_buildSlice w t e len _ Cs' i zv hu hi hzv hsm' h0 hfill
  refine good_new (w₁ := w) (V := .slice (some ⟨w.heap.size, 0, none⟩) len len) (o := .cells Cs' e) (loc := ⟨w.heap.size, z.length, len, 0⟩) (.inl rfl) ?_ rfl hn hl ?_ ?_ hH hW
  · have h3' : (Instr.buildSlice t len (parts.map fun (i, x) => (i, ρ x))).run P w = .ok (.slice (some ⟨w.heap.size, 0, none⟩) len len) (w.alloc (.cells Cs' e)) := hrun
    simp [execOp, ho, h3']
  · intro g' hg' hi'
    exact .sl hi' (Nat.le_refl _) (Nat.le_refl _) rfl (fun _ => ⟨rfl, .inr (by simp), by simp, fun _ => by simp, fun k h => by cases h⟩)
  · intro g' hg' hi'
    have hfr := (h2.mono hg').flatRows hCl h3
    have hll : ((List.range len).map fun i => (cs.drop (i * z.length)).take z.length).length = len := by simp
    have := or_flat (P := P) (w := w) (ty := e) (bx := false) (rest := #[]) (ct := len) g' hi' rfl rfl rfl rfl (show z.length ≠ 0 by omega) hfr (by rw [hll]; exact Nat.le_refl _) (by rw [hll]; simp)
    simpa using this
theorem op_mksl {t e : TypeId} {l c : Operand} {i : TypeInfo} {z : List Value} (ho : o.op = .makeSlice t l c) (hu : P.underlying t = some (.slice e)) (hi : P.info? e = some i) (hz : zeroOf P e = some z) (hb : i.bytes ≤ 2 ^ 16)
    (hx : TR g xs [ρ l, ρ c]) (hd : doOp L lim n (.mksl e i.size i.bytes z) xs = some out) (hH : HR P g L w) (hW : WG g w) (hn : g.ι n = none) (hl : lim ≤ n) : Good P g lim w L n out (execOp ρ o) := by
  match xs, hx with
  | [], hx => have := hx.1; simp at this
  | [_], hx => have := hx.1; simp at this
  | [a, b], hx =>
    obtain ⟨i', zv, hi', hzv, hzl, hg, hlen, hne⟩ := zeroOf_spec hz
    rw [hi] at hi'
    cases hi'
    have hzs : zv.cells.size = z.length := by rw [← hzl]; simp
    simp only [doOp] at hd
    split at hd
    · rename_i m q hm hq
      obtain ⟨k1, e1⟩ := intOf_run hm hx.head
      obtain ⟨k2, e2⟩ := intOf_run hq hx.tail.head
      split at hd
      · rename_i hc
        obtain ⟨h1, h2, h3⟩ := hc
        cases hd
        simp only [maxRoom] at h3
        have hbytes : (i.bytes : Int) * q ≤ 281474976710656 := by
          have h4 : i.bytes * q.toNat ≤ 2 ^ 16 * 2 ^ 30 := Nat.mul_le_mul hb (by omega)
          have h5 : ((i.bytes * q.toNat : Nat) : Int) ≤ ((2 ^ 16 * 2 ^ 30 : Nat) : Int) := Int.ofNat_le.2 h4
          rw [Int.natCast_mul, Int.toNat_of_nonneg (by omega)] at h5
          omega
        have hr := run_make (P := P) w t e i zv hu hi hzv k1 k2 m q h1 h2 hbytes (by omega)
        refine good_new (w₁ := w) (V := .slice (some ⟨w.heap.size, 0, none⟩) m.toNat q.toNat) (o := .cells (madeCells zv.cells (q.toNat * i.size)) e) (loc := ⟨w.heap.size, i.size, q.toNat, 0⟩) (.inl rfl) ?_ rfl hn hl ?_ ?_ hH hW
        · simp [execOp, ho, e1, e2, hr]
        · intro g' hg' hi'
          exact .sl hi' (Nat.le_refl _) (by omega) rfl (fun _ => ⟨rfl, .inr (by simp), by simp, fun _ => by simp, fun k h => by cases h⟩)
        · intro g' hg' hi'
          have hfr := flat_zero (g := g') (z := zv.cells) (m := q.toNat) (by rw [hzl]; exact hg)
          rw [hzs, hlen] at hfr
          have hmc : madeCells zv.cells (q.toNat * i.size) = Builtin.zeroCells zv.cells q.toNat := by
            unfold madeCells Builtin.zeroCells
            rw [hzs, hlen]
          have := or_flat (P := P) (w := w) (ty := e) (bx := false) (rest := #[]) (ct := q.toNat) g' hi' rfl rfl rfl rfl hne hfr (by simp) (by simp)
          rw [hmc, ← hzl]
          simpa using this
      · cases hd
    · cases hd
  | _ :: _ :: _ :: _, hx => have := hx.1; simp at this
end
end Go.Sim
set_option linter.unusedVariables false
set_option linter.unusedSimpArgs false
namespace Go.Sim
section
variable {P : Program} {g : Gh} {lim : Nat} {w : World} {L : Nat → Option AO} {n : Nat}
variable (ρ : Operand → Value) (o : Oper) {k : OpK} {os : List Operand} {xs : List AV} {out : Out}
def nilVal : Nat → Value
  | 0 => .slice none 0 0
  | 1 => .pointer none
  | 2 => .map none
  | _ => .nilFunc
def kdType (kd : Nat) : TypeDesc → Bool
  | .slice _ => kd == 0
  | .pointer _ => kd == 1
  | .map _ _ => kd == 2
  | .func _ _ _ => kd == 3
  | _ => false
theorem nilv_true {kd : Nat} {x : AV} {V : Value} (h : isNilv kd x = some true) (hx : VR g x V) : V = nilVal kd ∧ kd ≤ 3 := by
  unfold isNilv at h
  split at h
  · exact ⟨hx.ground, by omega⟩
  · exact ⟨hx.ground, by omega⟩
  · exact ⟨hx.ground, by omega⟩
  · exact ⟨hx.ground, by omega⟩
  all_goals cases h
theorem nilv_false {kd : Nat} {x : AV} {V : Value} (h : isNilv kd x = some false) (hx : VR g x V) :
    (kd = 0 ∧ ∃ a l c, V = .slice (some a) l c) ∨ (kd = 1 ∧ ∃ a, V = .pointer (some a)) ∨ (kd = 2 ∧ ∃ b, V = .map (some b)) ∨ (kd = 3 ∧ ∃ f a c, V = .func f a c) := by
  unfold isNilv at h
  split at h
  · cases h
  · cases h
  · cases h
  · cases h
  · cases hx
    · exact .inl ⟨rfl, _, _, _, rfl⟩
    · exact .inl ⟨rfl, _, _, _, rfl⟩
  · cases hx; exact .inl ⟨rfl, _, _, _, rfl⟩
  · cases hx; exact .inr (.inl ⟨rfl, _, rfl⟩)
  · cases hx; exact .inr (.inl ⟨rfl, _, rfl⟩)
  · cases hx; exact .inr (.inr (.inl ⟨rfl, _, rfl⟩))
  · cases hx; exact .inr (.inr (.inl ⟨rfl, _, rfl⟩))
  · cases hx
    · exact .inr (.inr (.inr ⟨rfl, _, _, _, rfl⟩))
    · exact .inr (.inr (.inr ⟨rfl, _, _, _, rfl⟩))
  · cases h
theorem equal_nil {t : TypeId} {d : TypeDesc} {kd : Nat} (hd : P.underlying t = some d) (hk : kdType kd d = true) {A B : Value} {a b : Bool}
    (hA : (a = true ∧ A = nilVal kd) ∨ (a = false ∧ ((kd = 0 ∧ ∃ p l c, A = .slice (some p) l c) ∨ (kd = 1 ∧ ∃ p, A = .pointer (some p)) ∨ (kd = 2 ∧ ∃ p, A = .map (some p)) ∨ (kd = 3 ∧ ∃ f x c, A = .func f x c))))
    (hB : (b = true ∧ B = nilVal kd) ∨ (b = false ∧ ((kd = 0 ∧ ∃ p l c, B = .slice (some p) l c) ∨ (kd = 1 ∧ ∃ p, B = .pointer (some p)) ∨ (kd = 2 ∧ ∃ p, B = .map (some p)) ∨ (kd = 3 ∧ ∃ f x c, B = .func f x c)))) (hab : a = true ∨ b = true) :
    (Op.equal t A B).run P w = .ok (a && b) w := by
  have key : ∀ m, (Op.equalIn (m + 1) t A B).run P w = .ok (a && b) w := by
    intro m
    rw [Op.equalIn]
    simp only [Sem.run_bind, run_underlying hd, Result.andThen_ok]
    cases d <;> simp only [kdType, Bool.false_eq_true] at hk
    all_goals
      have hk := eq_of_beq hk
      subst hk
      rcases hA with ⟨rfl, rfl⟩ | ⟨rfl, hA⟩
      · rcases hB with ⟨rfl, rfl⟩ | ⟨rfl, hB⟩
        · simp [nilVal]
        · simp at hB
          first
          | (obtain ⟨p, l, c, rfl⟩ := hB; simp [nilVal]; done)
          | (obtain ⟨p, rfl⟩ := hB; simp [nilVal]; done)
      · rcases hB with ⟨rfl, rfl⟩ | ⟨rfl, hB⟩
        · simp at hA
          first
          | (obtain ⟨p, l, c, rfl⟩ := hA; simp [nilVal]; done)
          | (obtain ⟨p, rfl⟩ := hA; simp [nilVal]; done)
        · simp at hab
  exact key 9999
theorem op_eqNil {op : BinOp} {neg : Bool} {t u : TypeId} {x y : Operand} {d : TypeDesc} {kd : Nat} (ho : o.op = .binOp op t x y u) (hop : op = if neg then .neq else .eql) (hu : P.underlying t = some d) (hk : kdType kd d = true)
    (hx : TR g xs [ρ x, ρ y]) (hd : doOp L lim n (.eqNil neg kd) xs = some out) (hH : HR P g L w) (hW : WG g w) : Good P g lim w L n out (execOp ρ o) := by
  match xs, hx with
  | [], hx => have := hx.1; simp at this
  | [_], hx => have := hx.1; simp at this
  | [a, b], hx =>
    have ha := hx.head
    have hb := hx.tail.head
    simp only [doOp] at hd
    have spec : ∀ {x : AV} {V : Value} {r : Bool}, isNilv kd x = some r → VR g x V → (r = true ∧ V = nilVal kd) ∨ (r = false ∧ ((kd = 0 ∧ ∃ p l c, V = .slice (some p) l c) ∨ (kd = 1 ∧ ∃ p, V = .pointer (some p)) ∨ (kd = 2 ∧ ∃ p, V = .map (some p)) ∨ (kd = 3 ∧ ∃ f x c, V = .func f x c))) := by
      intro x V r h1 h2
      cases r
      · exact .inr ⟨rfl, nilv_false h1 h2⟩
      · exact .inl ⟨rfl, (nilv_true h1 h2).1⟩
    have fin : ∀ p q : Bool, isNilv kd a = some p → isNilv kd b = some q → (p = true ∨ q = true) → Good P g lim w L n { v := .v (.bool ((p && q) != neg)) } (execOp ρ o) := by
      intro p q h1 h2 h3
      have s1 := spec h1 ha
      have s2 := spec h2 hb
      have he := equal_nil (P := P) (w := w) hu hk s1 s2 h3
      have hg1 : (eqGuard op t x y (ρ x) (ρ y)).run P w = .ok () w := by
        rcases s1 with ⟨_, e⟩ | ⟨_, e⟩
        · rw [e]
          rename_i hp1
          subst hp1
          have := (nilv_true h1 ha).2
          match kd, this with
          | 0, _ => cases op <;> rfl
          | 1, _ => cases op <;> rfl
          | 2, _ => cases op <;> rfl
          | 3, _ => cases op <;> rfl
        · rcases e with ⟨_, _, _, _, e⟩ | ⟨_, _, e⟩ | ⟨_, _, e⟩ | ⟨_, _, _, _, e⟩ <;> rw [e] <;> cases op <;> rfl
      have hbin : (binOp op t (ρ x) (ρ y)).run P w = .ok (.bool ((p && q) != neg)) w := by
        have hns : (∀ k m, ρ x ≠ .int k m) ∧ (∀ k m, ρ x ≠ .float k m) ∧ (∀ k m r, ρ x ≠ .complex k m r) ∧ (∀ s, ρ x ≠ .string s) := by
          rcases s1 with ⟨_, e⟩ | ⟨_, e⟩
          · rw [e]
            unfold nilVal
            split <;> refine ⟨?_, ?_, ?_, ?_⟩ <;> intros <;> simp
          · rcases e with ⟨_, _, _, _, e⟩ | ⟨_, _, e⟩ | ⟨_, _, e⟩ | ⟨_, _, _, _, e⟩ <;> rw [e] <;> refine ⟨?_, ?_, ?_, ?_⟩ <;> intros <;> simp
        generalize ρ x = A at *
        generalize ρ y = B at *
        subst hop
        cases neg
        · cases A <;> first
            | exact absurd rfl (hns.1 _ _)
            | exact absurd rfl (hns.2.1 _ _)
            | exact absurd rfl (hns.2.2.1 _ _ _)
            | exact absurd rfl (hns.2.2.2 _)
            | (simp [binOp, he])
        · cases A <;> first
            | exact absurd rfl (hns.1 _ _)
            | exact absurd rfl (hns.2.1 _ _)
            | exact absurd rfl (hns.2.2.1 _ _ _)
            | exact absurd rfl (hns.2.2.2 _)
            | (simp [binOp, he])
      refine good_pure (V := .bool ((p && q) != neg)) ?_ (.v rfl) hH hW
      simp [execOp, ho, hg1, hbin]
    split at hd
    · rename_i p h1 h2
      cases hd
      have := fin p true h1 h2 (.inr rfl)
      simpa using this
    · rename_i q h0 h1 h2
      cases hd
      have := fin true q h1 h2 (.inl rfl)
      simpa using this
    · cases hd
  | _ :: _ :: _ :: _, hx => have := hx.1; simp at this
theorem builtin_run {b : Builtin} {args : Array Operand} {at_ : Array TypeId} (ho : o.op = .call { callee := .builtin b, args := args, argTypes := at_ }) {V : Value} {w' : World}
    (h : ∀ c, (builtin b at_ o.type c (args.map ρ)).run P w = .ok (.value V) w') : (execOp ρ o).run P w = .ok (.value V) w' := by
  simp only [execOp, ho, Sem.run_bind, resolve, Sem.run_pure, Result.andThen_ok, invoke]
  exact h _
theorem op_len {x : Operand} {t : TypeId} {d : TypeDesc} {kd : Nat} (ho : o.op = .call { callee := .builtin .len, args := #[x], argTypes := #[t] }) (hu : P.underlying t = some d)
    (hk : (kd = 0 ∧ ∃ e, d = .slice e) ∨ (kd = 1 ∧ d = .string) ∨ (kd = 2 ∧ ∃ k e, d = .map k e))
    (hx : TR g xs [ρ x]) (hd : doOp L lim n (.len kd) xs = some out) (hH : HR P g L w) (hW : WG g w) : Good P g lim w L n out (execOp ρ o) := by
  match xs, hx with
  | [], hx => have := hx.1; simp at this
  | [a], hx =>
    have ha := hx.head
    have fin : ∀ m : Nat, (Builtin.len_ #[t] o.type #[ρ x]).run P w = .ok (goInt m) w → Good P g lim w L n { v := .int m } (execOp ρ o) := by
      intro m h
      refine good_pure (V := goInt m) (builtin_run ρ o ho (fun c => ?_)) (.v rfl) hH hW
      simp [builtin, h]
    simp only [doOp] at hd
    split at hd
    · cases hd
      rcases hk with ⟨h, e, rfl⟩ | ⟨h, _⟩ | ⟨h, _⟩ <;> first | (cases h; done) | skip
      generalize hV : ρ x = V at ha
      cases ha with
      | is0 => exact fin _ (by simp [Builtin.len_, run_underlying hu, hV])
      | is => exact fin _ (by simp [Builtin.len_, run_underlying hu, hV])
    · cases hd
      rcases hk with ⟨h, e, rfl⟩ | ⟨h, _⟩ | ⟨h, _⟩ <;> first | (cases h; done) | skip
      generalize hV : ρ x = V at ha
      cases ha with
      | sl => exact fin _ (by simp [Builtin.len_, run_underlying hu, hV])
    · cases hd
      rcases hk with ⟨h, e, rfl⟩ | ⟨h, _⟩ | ⟨h, _⟩ <;> first | (cases h; done) | skip
      have hV := ha.ground
      exact fin 0 (by simp [Builtin.len_, run_underlying hu, hV])
    · cases hd
      rcases hk with ⟨h, e, rfl⟩ | ⟨h, _⟩ | ⟨h, _⟩ <;> first | (cases h; done) | skip
      generalize hV : ρ x = V at ha
      cases ha with
      | es => exact fin 0 (by simp [Builtin.len_, run_underlying hu, hV])
    · cases hd
      rcases hk with ⟨h, _⟩ | ⟨h, rfl⟩ | ⟨h, _⟩ <;> first | (cases h; done) | skip
      have hV := ha.ground
      exact fin _ (by simp [Builtin.len_, run_underlying hu, hV])
    · cases hd
      rcases hk with ⟨h, _⟩ | ⟨h, _⟩ | ⟨h, k, e, rfl⟩ <;> first | (cases h; done) | skip
      have hV := ha.ground
      exact fin 0 (by simp [Builtin.len_, run_underlying hu, hV])
    · rename_i id
      rcases hk with ⟨h, _⟩ | ⟨h, _⟩ | ⟨h, k, e, rfl⟩ <;> first | (cases h; done) | skip
      split at hd
      · rename_i es hL
        cases hd
        obtain ⟨loc, ents, clock, h1, h2, h3, h4, h5⟩ := hH id _ hL
        generalize hV : ρ x = V at ha
        cases ha with
        | @map _ _ b loc' hi hp =>
          rw [h1] at hi
          cases hi
          have := hp h2
          subst this
          have hg : (getObj loc.b).run P w = .ok (.map ents clock) w := by simp [getObj, Sem.run, h3]
          exact fin _ (by simp [Builtin.len_, run_underlying hu, hV, hg, h4])
      · cases hd
    · rename_i es
      cases hd
      rcases hk with ⟨h, _⟩ | ⟨h, _⟩ | ⟨h, k, e, rfl⟩ <;> first | (cases h; done) | skip
      generalize hV : ρ x = V at ha
      cases ha with
      | @im _ _ b clock ents hb hl hk' hv =>
        have hg : (getObj b).run P w = .ok (.map ents clock) w := by simp [getObj, Sem.run, hW.still _ _ hb]
        exact fin _ (by simp [Builtin.len_, run_underlying hu, hV, hg, hl])
    · cases hd
  | _ :: _ :: _, hx => have := hx.1; simp at this
theorem op_cap {x : Operand} {t e : TypeId} (ho : o.op = .call { callee := .builtin .cap, args := #[x], argTypes := #[t] }) (hu : P.underlying t = some (.slice e))
    (hx : TR g xs [ρ x]) (hd : doOp L lim n .cap xs = some out) (hH : HR P g L w) (hW : WG g w) : Good P g lim w L n out (execOp ρ o) := by
  match xs, hx with
  | [], hx => have := hx.1; simp at this
  | [a], hx =>
    have ha := hx.head
    have fin : ∀ m : Nat, (Builtin.cap_ #[t] o.type #[ρ x]).run P w = .ok (goInt m) w → Good P g lim w L n { v := .int m } (execOp ρ o) := by
      intro m h
      refine good_pure (V := goInt m) (builtin_run ρ o ho (fun c => ?_)) (.v rfl) hH hW
      simp [builtin, h]
    simp only [doOp] at hd
    split at hd
    · cases hd
      have hV := ha.ground
      exact fin 0 (by simp [Builtin.cap_, run_underlying hu, hV])
    · cases hd
      generalize hV : ρ x = V at ha
      cases ha with
      | es => exact fin 0 (by simp [Builtin.cap_, run_underlying hu, hV])
    · cases hd
  | _ :: _ :: _, hx => have := hx.1; simp at this
theorem foldMn_run : ∀ (xs : List AV) (vs : List Value) (k : IntKind) (a r : Int), TR g xs vs → foldMn k a xs = some r → (vs.foldlM Builtin.min2 (.int k a)).run P w = .ok (.int k r) w
  | [], vs, k, a, r, hx, h => by
    have : vs = [] := by have := hx.1; simpa using this.symm
    subst this
    simp only [foldMn, Option.some.injEq] at h
    subst h
    simp
  | x :: xs, [], k, a, r, hx, h => by have := hx.1; simp at this
  | x :: xs, v :: vs, k, a, r, hx, h => by
    simp only [foldMn] at h
    split at h
    · rename_i k' b
      split at h
      · rename_i e
        subst e
        have hv := hx.head.ground
        subst hv
        simp only [List.foldlM_cons, Sem.run_bind, Builtin.min2, Sem.run_pure, Result.andThen_ok]
        exact foldMn_run xs vs k _ r hx.tail h
      · cases h
    · cases h
theorem op_mn {args : Array Operand} {at_ : Array TypeId} (ho : o.op = .call { callee := .builtin .min, args := args, argTypes := at_ })
    (hx : TR g xs (args.toList.map ρ)) (hd : doOp L lim n .mn xs = some out) (hH : HR P g L w) (hW : WG g w) : Good P g lim w L n out (execOp ρ o) := by
  cases xs with
  | nil => simp [doOp] at hd
  | cons x xs =>
    simp only [doOp] at hd
    split at hd
    · rename_i k a
      simp only [Option.map_eq_some_iff] at hd
      obtain ⟨r, hr, rfl⟩ := hd
      cases hvs : args.toList.map ρ with
      | nil => rw [hvs] at hx; have := hx.1; simp at this
      | cons v vs =>
        rw [hvs] at hx
        have hv := hx.head.ground
        have := foldMn_run (P := P) (w := w) xs vs k a r hx.tail hr
        refine good_pure (V := .int k r) (builtin_run ρ o ho (fun c => ?_)) (.v rfl) hH hW
        have h2 : (args.map ρ).toList = v :: vs := by rw [Array.toList_map]; exact hvs
        simp only [builtin, Builtin.min_, h2, Sem.run_bind, hv, this, Result.andThen_ok, Sem.run_pure]
    · cases hd
theorem foldMx_run : ∀ (xs : List AV) (vs : List Value) (k : IntKind) (a r : Int), TR g xs vs → foldMx k a xs = some r → (vs.foldlM Builtin.max2 (.int k a)).run P w = .ok (.int k r) w
  | [], vs, k, a, r, hx, h => by
    have : vs = [] := by have := hx.1; simpa using this.symm
    subst this
    simp only [foldMx, Option.some.injEq] at h
    subst h
    simp
  | x :: xs, [], k, a, r, hx, h => by have := hx.1; simp at this
  | x :: xs, v :: vs, k, a, r, hx, h => by
    simp only [foldMx] at h
    split at h
    · rename_i k' b
      split at h
      · rename_i e
        subst e
        have hv := hx.head.ground
        subst hv
        simp only [List.foldlM_cons, Sem.run_bind, Builtin.max2, Sem.run_pure, Result.andThen_ok]
        exact foldMx_run xs vs k _ r hx.tail h
      · cases h
    · cases h
theorem op_mx {args : Array Operand} {at_ : Array TypeId} (ho : o.op = .call { callee := .builtin .max, args := args, argTypes := at_ })
    (hx : TR g xs (args.toList.map ρ)) (hd : doOp L lim n .mx xs = some out) (hH : HR P g L w) (hW : WG g w) : Good P g lim w L n out (execOp ρ o) := by
  cases xs with
  | nil => simp [doOp] at hd
  | cons x xs =>
    simp only [doOp] at hd
    split at hd
    · rename_i k a
      simp only [Option.map_eq_some_iff] at hd
      obtain ⟨r, hr, rfl⟩ := hd
      cases hvs : args.toList.map ρ with
      | nil => rw [hvs] at hx; have := hx.1; simp at this
      | cons v vs =>
        rw [hvs] at hx
        have hv := hx.head.ground
        have := foldMx_run (P := P) (w := w) xs vs k a r hx.tail hr
        refine good_pure (V := .int k r) (builtin_run ρ o ho (fun c => ?_)) (.v rfl) hH hW
        have h2 : (args.map ρ).toList = v :: vs := by rw [Array.toList_map]; exact hvs
        simp only [builtin, Builtin.max_, h2, Sem.run_bind, hv, this, Result.andThen_ok, Sem.run_pure]
    · cases hd
end
end Go.Sim
set_option linter.unusedVariables false
set_option linter.unusedSimpArgs false
namespace Go.Sim
section
variable {P : Program} {g : Gh} {lim : Nat} {w : World} {L : Nat → Option AO} {n : Nat}
variable (ρ : Operand → Value) (o : Oper) {k : OpK} {os : List Operand} {xs : List AV} {out : Out}
theorem good_write {s : Sem Next} {nx : Next} {V : Value} {v : AV} {zz id ver off len : Nat} {cap : Option Nat} {dv : Value} {bx : Bool} {ty : TypeId} {esz : Nat} {els new : List (List AV)} {news : List Value} (hH : HR P g L w) (hW : WG g w)
    (hL : L id = some (.arr bx ty esz ver els)) (hdv : VR g (.sl zz id ver off len cap) dv) (hlen : off + len ≤ els.length) (hlim : lim ≤ id) (hf : FlatR g esz new news) (hnl : new.length ≤ len)
    (hrun : ∀ (a : Addr) (c : Nat) (w' : World), dv = .slice (some a) len c → (storeCells a news).run P w = .ok () w' → s.run P w = .ok nx w') (hnx : nx = .value V ∨ (nx = .skip ∧ V = undef)) (hv : ∀ g', VR g' v V) :
    Good P g lim w L n { v := v, up := some (id, .arr bx ty esz ver (setL els off new)) } s := by
  obtain ⟨loc, cs, h1, h2, h3, h4, h5, h6, h7, h8, h9⟩ := hH id _ hL
  cases hdv with
  | @sl _ _ _ _ _ _ _ loc' p c hi hver hlc hsp hp =>
    rw [h1] at hi
    cases hi
    obtain ⟨hz, hp1, hp2, hp3, hp4⟩ := hp h3
    by_cases hn0 : new.length = 0
    · -- nothing is written
      have hne : new = [] := by simpa using hn0
      subst hne
      have hnn : news = [] := by have := hf.len; simpa using this
      subst hnn
      have hr := hrun p c w rfl rfl
      refine good_up (nx := nx) (V := V) (loc := loc) (ver := loc.ver) hr hnx h1 hlim (Nat.le_refl _) h5 (fun b hb => rfl) rfl rfl rfl rfl (fun g' _ _ => hv g') (fun g' hg' hi' => ?_) hH hW
      simp only [setL]
      exact ⟨_, cs, hi', h2, h3, h4, h5, h6, h7, h8, fun i row j x a b => by obtain ⟨y, k1, k2, k3⟩ := h9 i row j x a b; exact ⟨y, k1, k2, k3.mono hg'⟩⟩
    · have hpe : p = ⟨loc.b, off * loc.esz, none⟩ := hp1.resolve_left (by omega)
      subst hpe
      have hfit : off * esz + news.length ≤ cs.size := by
        rw [hf.len, h6, ← Nat.add_mul]
        exact Nat.mul_le_mul_right _ (by omega)
      have hst := run_storeCells_at P loc.b (off * esz) ty news 0 cs w h5 (by simpa using hfit) (fun y hy => oneCell_of (hf.cell y hy))
      simp only [Nat.add_zero] at hst
      have hr := hrun _ c _ rfl (by rw [h2]; exact hst)
      obtain ⟨p1, p2, p3, p4⟩ := setRow_pieces w loc.b (cs.toList.take (off * esz) ++ news ++ cs.toList.drop (off * esz + news.length)).toArray
      have hblk := setRow_heap w loc.b cs (cs.toList.take (off * esz) ++ news ++ cs.toList.drop (off * esz + news.length)).toArray ty (0, 0) h5
      refine good_up (nx := nx) (V := V) (loc := loc) (ver := loc.ver) hr hnx h1 hlim (Nat.le_refl _) hblk (fun b hb => setRow_other w loc.b b _ hb) p4 p1 p2 p3 (fun g' _ _ => hv g') (fun g' hg' hi' => ?_) hH hW
      obtain ⟨r1, r2⟩ := upd_repr (g' := g') hg' (cs := cs.toList) (k := off) (ct := loc.ct) (by simpa using h6) hf (by omega) h8 (fun i row j x a b => by simpa using h9 i row j x a b) (setL_hget (by omega))
      refine ⟨_, _, hi', h2, h3, h4, hblk, ?_, by rw [setL_length]; exact h7, r1, fun i row j x a b => ?_⟩
      · rw [List.size_toArray, seg_len _ _ _ (by simpa using hfit)]
        simpa using h6
      · simpa using r2 i row j x a b
theorem FlatR.take {esz : Nat} {rows : List (List AV)} {ys : List Value} (h : FlatR g esz rows ys) (m : Nat) : FlatR g esz (rows.take m) (ys.take (m * esz)) := by
  refine ⟨?_, fun i row hr => ?_, fun y hy => h.cell y (List.mem_of_mem_take hy), fun i row j x hr hx => ?_⟩
  · rw [List.length_take, List.length_take, h.len, Nat.mul_min_mul_right]
  · rw [List.getElem?_take] at hr
    split at hr
    · exact h.row i row hr
    · cases hr
  · rw [List.getElem?_take] at hr
    split at hr
    · rename_i hi
      obtain ⟨y, h1, h2⟩ := h.val i row j x hr hx
      have hj : j < esz := by rw [← h.row i row hr]; exact (List.getElem?_eq_some_iff.1 hx).1
      exact ⟨y, by rw [List.getElem?_take, if_pos (lin_lt hi hj)]; exact h1, h2⟩
    · cases hr
theorem first_of_src {u : TypeId} {i : TypeInfo} {z V : Value} {rows : List (List AV)} {news : List Value} (hs : AppSrc P w u i z V false rows.length news) (hH : HR P g L w) (hW : WG g w) (h0 : i.size ≠ 0)
    {x : AV} (hx : VR g x V) (hr : rowsOf L i.size x = some rows) (m : Nat) (hm : m ≤ rows.length) : (Builtin.firstCells i.size m V).run P w = .ok (news.take (m * i.size)).toArray w := by
  by_cases hstr : ∃ s, x = .v (.string s)
  · obtain ⟨s, rfl⟩ := hstr
    have hV := hx.ground
    subst hV
    have h2 := (hs.slice rfl).2 w rfl
    simp only [rowsOf] at hr
    split at hr
    · rename_i h1
      cases hr
      have hl : (byteRows s).length = s.size := by simp [byteRows]
      rw [hl] at hm h2
      simp only [Builtin.firstCells, Sem.run_pure, Result.ok.injEq] at h2 ⊢
      refine ⟨?_, trivial⟩
      have h3 : s.extract 0 s.size = s := by simp
      rw [h3] at h2
      have h4 := congrArg Array.toList h2.1
      simp at h4
      apply Array.ext'
      rw [← h4, h1]
      simp
    · cases hr
  · obtain ⟨a, cap, rfl, hrow, hnone, hsome⟩ := rows_cells hH hW h0 hx hr (fun s e => hstr ⟨s, e⟩)
    have h2 := (hs.slice rfl).2 w rfl
    cases a with
    | none =>
      obtain ⟨rfl, _⟩ := hnone rfl
      have : news = [] := by have := hs.len; simpa using this
      subst this
      simp [Builtin.firstCells]
    | some p =>
      obtain ⟨ys, y1, y2, y3, y4⟩ := hsome p rfl
      have hrun := run_firstCells_some (P := P) w i.size rows.length p rows.length cap ys y1 y2
      rw [hrun] at h2
      have e1 : ys = news := by
        have := congrArg (fun r => match r with | Result.ok a _ => a.toList | _ => []) h2
        simpa using this
      subst e1
      refine run_firstCells_some (P := P) w i.size m p rows.length cap (ys.take (m * i.size)) ?_ (fun j y hy => ?_)
      · rw [List.length_take, y1]
        have : m * i.size ≤ rows.length * i.size := Nat.mul_le_mul_right _ hm
        omega
      · rw [List.getElem?_take] at hy
        split at hy
        · exact y2 j y hy
        · cases hy
theorem op_copy {x y : Operand} {t u e : TypeId} {i : TypeInfo} (ho : o.op = .call { callee := .builtin .copy, args := #[x, y], argTypes := #[t, u] }) (ht : P.underlying t = some (.slice e)) (hi : P.info? e = some i) (h0 : i.size ≠ 0)
    (hu : (∃ e', P.underlying u = some (.slice e')) ∨ P.underlying u = some .string) (hx : TR g xs [ρ x, ρ y]) (hd : doOp L lim n (.copy i.size) xs = some out) (hH : HR P g L w) (hW : WG g w) : Good P g lim w L n out (execOp ρ o) := by
  match xs, hx with
  | [], hx => have := hx.1; simp at this
  | [_], hx => have := hx.1; simp at this
  | [d, sv], hx =>
    have hdv := hx.head
    have hsv := hx.tail.head
    simp only [doOp] at hd
    split at hd
    · rename_i rows hr
      obtain ⟨news, hsrc, hf⟩ := src_of_rows (z := default) hu hH hW h0 hsv hr
      have hlen := (hsrc.slice rfl).1
      split at hd
      · cases hd
        have hV := hdv.ground
        refine good_pure (V := goInt 0) (builtin_run ρ o ho (fun c => ?_)) (.v rfl) hH hW
        have hf0 := first_of_src hsrc hH hW h0 hsv hr 0 (Nat.zero_le _)
        simp [builtin, Builtin.copy_, run_underlying ht, hV, hlen, sizeOf_run hi, hf0]
      · cases hd
        generalize hV : ρ x = V at hdv
        cases hdv with
        | @es _ a =>
          refine good_pure (V := goInt 0) (builtin_run ρ o ho (fun c => ?_)) (.v rfl) hH hW
          have hf0 := first_of_src hsrc hH hW h0 hsv hr 0 (Nat.zero_le _)
          cases a <;> simp [builtin, Builtin.copy_, run_underlying ht, hV, hlen, sizeOf_run hi, hf0, storeCells]
      · rename_i zz id ver off len cap
        split at hd
        · rename_i bx ty ez ver' els hL
          split at hd
          · rename_i hc
            obtain ⟨rfl, rfl, hle, hlim⟩ := hc
            cases hd
            have hft := hf.take (min rows.length len)
            refine good_write (nx := .value (goInt (min rows.length len : Nat))) (V := goInt (min rows.length len : Nat)) hH hW hL hdv hle hlim hft (by simp; omega) (fun a c w' hdV hst => ?_) (.inl rfl) (fun g' => (by
              have e1 : (min (rows.length : Int) (len : Int)) = ((min rows.length len : Nat) : Int) := by omega
              rw [e1]
              exact .v rfl))
            refine builtin_run ρ o ho (fun cc => ?_)
            have hf1 := first_of_src hsrc hH hW h0 hsv hr (min rows.length len) (Nat.min_le_left _ _)
            have hmm : Nat.min rows.length len = min rows.length len := rfl
            simp only [builtin, Builtin.copy_, Array.getElem?_map, List.getElem?_toArray, List.getElem?_cons_zero, List.getElem?_cons_succ, Option.map_some, Sem.run_bind, run_underlying ht, Result.andThen_ok, hdV, hlen, sizeOf_run hi, hmm, hf1, hst]
            simp [hst]
          · cases hd
        · cases hd
      · cases hd
    · cases hd
  | _ :: _ :: _ :: _, hx => have := hx.1; simp at this
theorem op_clear {x : Operand} {t e : TypeId} {z : List Value} (ho : o.op = .call { callee := .builtin .clear, args := #[x], argTypes := #[t] }) (ht : P.underlying t = some (.slice e)) (hz : zeroOf P e = some z)
    (hx : TR g xs [ρ x]) (hd : doOp L lim n (.clear z.length z) xs = some out) (hH : HR P g L w) (hW : WG g w) : Good P g lim w L n out (execOp ρ o) := by
  obtain ⟨i, zv, hi, hzv, hzl, hg, hlen, hne⟩ := zeroOf_spec hz
  have hzs : zv.cells.size = z.length := by rw [← hzl]; simp
  match xs, hx with
  | [], hx => have := hx.1; simp at this
  | [d], hx =>
    have hdv := hx.head
    simp only [doOp] at hd
    split at hd
    · cases hd
      have hV := hdv.ground
      refine good_pure (V := undef) (builtin_run ρ o ho (fun c => ?_)) (.undef g) hH hW
      simp [builtin, Builtin.clear_, run_underlying ht, hV, undef]
    · cases hd
      generalize hV : ρ x = V at hdv
      cases hdv with
      | @es _ a =>
        refine good_pure (V := undef) (builtin_run ρ o ho (fun c => ?_)) (.undef g) hH hW
        cases a <;> simp [builtin, Builtin.clear_, run_underlying ht, hV, undef]
    · rename_i zz id ver off len cap
      split at hd
      · rename_i bx ty ez ver' els hL
        split at hd
        · rename_i hc
          obtain ⟨rfl, rfl, hle, hlim⟩ := hc
          cases hd
          have hf := flat_zero (g := g) (z := zv.cells) (m := len) (by rw [hzl]; exact hg)
          rw [hzs, hzl] at hf
          refine good_write (nx := .value undef) (V := undef) hH hW hL hdv hle hlim hf (by simp) (fun a c w' hdV hst => ?_) (.inl rfl) (fun g' => .undef g')
          refine builtin_run ρ o ho (fun cc => ?_)
          cases len with
          | zero =>
            have : w' = w := by
              simp [Builtin.zeroCells, Array.range_zero', storeCells] at hst
              exact hst.symm
            subst this
            simp [builtin, Builtin.clear_, run_underlying ht, hdV, undef]
          | succ m =>
            simp [builtin, Builtin.clear_, run_underlying ht, hdV, zeroValue_run hi hzv, hst, undef]
        · cases hd
      · cases hd
    · cases hd
  | _ :: _ :: _, hx => have := hx.1; simp at this
end
end Go.Sim
set_option linter.unusedVariables false
set_option linter.unusedSimpArgs false
namespace Go.Sim
section
variable {P : Program} {g : Gh} {lim : Nat} {w : World} {L : Nat → Option AO} {n : Nat}
variable (ρ : Operand → Value) (o : Oper) {k : OpK} {os : List Operand} {xs : List AV} {out : Out}
theorem bound_run {x : Value} {kk : IntKind} {i : Int} (hx : x = .int kk i) {y : Nat} (c : BoundsCode) (h1 : 0 ≤ i) (h2 : i ≤ y) : (Instr.sliceBound x y c).run P w = .ok i.toNat w := by
  simp [Instr.sliceBound, hx, asIntOf, h1, h2]
theorem bounds_spec {lo hi : Option Operand} {len : Nat} {bs : List AV} {l h : Int} (hb : bounds lo.isSome hi.isSome len bs = some (l, h)) (hx : TR g bs ((lo.toList ++ hi.toList).map ρ)) :
    ((lo = none ∧ l = 0) ∨ ∃ a k, lo = some a ∧ ρ a = .int k l) ∧ ((hi = none ∧ h = len) ∨ ∃ a k, hi = some a ∧ ρ a = .int k h) := by
  cases lo with
  | none =>
    cases hi with
    | none =>
      simp only [bounds, Option.isSome_none] at hb
      split at hb <;> simp_all
    | some b =>
      match bs, hx with
      | [], hx => have := hx.1; simp at this
      | [y], hx =>
        simp only [bounds, Option.isSome_none, Option.isSome_some] at hb
        simp only [Option.map_eq_some_iff, Prod.mk.injEq] at hb
        obtain ⟨m, hm, rfl, rfl⟩ := hb
        obtain ⟨k, hk⟩ := intOf_run hm hx.head
        exact ⟨.inl ⟨rfl, rfl⟩, .inr ⟨b, k, rfl, hk⟩⟩
      | _ :: _ :: _, hx => have := hx.1; simp at this
  | some a =>
    cases hi with
    | none =>
      match bs, hx with
      | [], hx => have := hx.1; simp at this
      | [y], hx =>
        simp only [bounds, Option.isSome_none, Option.isSome_some] at hb
        simp only [Option.map_eq_some_iff, Prod.mk.injEq] at hb
        obtain ⟨m, hm, rfl, rfl⟩ := hb
        obtain ⟨k, hk⟩ := intOf_run hm hx.head
        exact ⟨.inr ⟨a, k, rfl, hk⟩, .inl ⟨rfl, rfl⟩⟩
      | _ :: _ :: _, hx => have := hx.1; simp at this
    | some b =>
      match bs, hx with
      | [], hx => have := hx.1; simp at this
      | [_], hx => have := hx.1; simp at this
      | [y, z], hx =>
        simp only [bounds, Option.isSome_some] at hb
        split at hb
        · rename_i m q hm hq
          cases hb
          obtain ⟨k1, e1⟩ := intOf_run hm hx.head
          obtain ⟨k2, e2⟩ := intOf_run hq hx.tail.head
          exact ⟨.inr ⟨a, k1, rfl, e1⟩, .inr ⟨b, k2, rfl, e2⟩⟩
        · cases hb
      | _ :: _ :: _ :: _, hx => have := hx.1; simp at this
theorem bounds_run {lo hi mx : Option Operand} {isS : Bool} {len cap : Nat} {l h : Int} {m : Nat} (h1 : (lo = none ∧ l = 0) ∨ ∃ a k, lo = some a ∧ ρ a = .int k l) (h2 : (hi = none ∧ h = len) ∨ ∃ a k, hi = some a ∧ ρ a = .int k h)
    (h3 : (mx = none ∧ m = cap) ∨ (hi.isSome ∧ ∃ a k, mx = some a ∧ ρ a = .int k m)) (h4 : 0 ≤ l) (h5 : l ≤ h) (h6 : h ≤ m) (h7 : m ≤ cap) :
    (Instr.sliceBounds isS len cap (lo.map ρ) (hi.map ρ) (mx.map ρ)).run P w = .ok (l.toNat, h.toNat, m) w := by
  have hb : ∀ {x : Value} {kk : IntKind} {i : Int} {y : Nat} (c : BoundsCode), x = .int kk i → 0 ≤ i → i ≤ y → (Instr.sliceBound x y c).run P w = .ok i.toNat w := fun c hx h1 h2 => bound_run hx c h1 h2
  rcases h3 with ⟨rfl, rfl⟩ | ⟨hs, a, k, rfl, ha⟩
  · rcases h2 with ⟨rfl, rfl⟩ | ⟨b, kb, rfl, hb2⟩
    · rcases h1 with ⟨rfl, rfl⟩ | ⟨c, kc, rfl, hc⟩
      · simp [Instr.sliceBounds]
      · simp [Instr.sliceBounds, hb _ hc h4 h5]
    · have e1 : h ≤ ((h.toNat : Nat) : Int) := by omega
      rcases h1 with ⟨rfl, rfl⟩ | ⟨c, kc, rfl, hc⟩
      · simp [Instr.sliceBounds, hb _ hb2 (by omega) h6]
      · simp [Instr.sliceBounds, hb _ hb2 (by omega) h6, hb (y := h.toNat) _ hc h4 (by omega)]
  · rcases h2 with ⟨rfl, rfl⟩ | ⟨b, kb, rfl, hb2⟩
    · simp at hs
    · have e2 := hb (y := cap) (if isS then BoundsCode.slice3Acap else .slice3Alen) ha (by omega) (by omega)
      simp only [Int.toNat_natCast] at e2
      rcases h1 with ⟨rfl, rfl⟩ | ⟨c, kc, rfl, hc⟩
      · simp [Instr.sliceBounds, e2, hb (y := m) _ hb2 (by omega) h6]
      · simp [Instr.sliceBounds, e2, hb (y := m) _ hb2 (by omega) h6, hb (y := h.toNat) _ hc h4 (by omega)]
theorem op_slcStr {t : TypeId} {x : Operand} {lo hi : Option Operand} (ho : o.op = .slice t x lo hi none) (hu : P.underlying t = some .string) (hx : TR g xs ((x :: (lo.toList ++ hi.toList)).map ρ))
    (hd : doOp L lim n (.slcStr lo.isSome hi.isSome) xs = some out) (hH : HR P g L w) (hW : WG g w) : Good P g lim w L n out (execOp ρ o) := by
  cases xs with
  | nil => have := hx.1; simp at this
  | cons a bs =>
    simp only [doOp] at hd
    split at hd
    · rename_i s
      have hV := (TR.head (t := bs) (v := (lo.toList ++ hi.toList).map ρ) hx).ground
      have htl : TR g bs ((lo.toList ++ hi.toList).map ρ) := TR.tail (x := .v (.string s)) (y := ρ x) hx
      split at hd
      · rename_i l h hb
        split at hd
        · rename_i hc
          obtain ⟨c1, c2, c3⟩ := hc
          cases hd
          obtain ⟨b1, b2⟩ := bounds_spec ρ hb htl
          have hr := bounds_run (P := P) (w := w) ρ (isS := false) (len := s.size) (cap := s.size) (mx := none) (m := s.size) b1 b2 (.inl ⟨rfl, rfl⟩) c1 c2 c3 (Nat.le_refl _)
          simp only [Option.map_none] at hr
          refine good_pure (V := .string (s.extract l.toNat h.toNat)) ?_ (.v rfl) hH hW
          simp [execOp, ho, Instr.sliceAt, Instr.slice, run_underlying hu, hV, hr]
        · cases hd
      · cases hd
    · cases hd
theorem op_slc {t e : TypeId} {x : Operand} {lo hi mx : Option Operand} {i : TypeInfo} (ho : o.op = .slice t x lo hi mx) (hu : P.underlying t = some (.slice e)) (hi' : P.info? e = some i) (h0 : i.size ≠ 0) (hmh : mx.isSome → hi.isSome)
    (hx : TR g xs ((x :: (lo.toList ++ hi.toList ++ mx.toList)).map ρ))
    (hd : doOp L lim n (.slc i.size lo.isSome hi.isSome mx.isSome) xs = some out) (hH : HR P g L w) (hW : WG g w) : Good P g lim w L n out (execOp ρ o) := by
  simp only [doOp, Option.map_eq_some_iff] at hd
  obtain ⟨v, hv, rfl⟩ := hd
  cases xs with
  | nil => have := hx.1; simp at this
  | cons a bs =>
    have hav : VR g a (ρ x) := TR.head (t := bs) (v := (lo.toList ++ hi.toList ++ mx.toList).map ρ) hx
    have htl : TR g bs ((lo.toList ++ hi.toList ++ mx.toList).map ρ) := TR.tail (x := a) (y := ρ x) hx
    unfold sliceOp at hv
    simp only at hv
    -- the third bound
    obtain ⟨bs', m, hpair, hmx⟩ : ∃ (bs' : List AV) (m : Int), (if mx.isSome then (bs.dropLast, bs.getLast?.bind intOf) else (bs, some 0)) = (bs', some m) ∧
        TR g bs' ((lo.toList ++ hi.toList).map ρ) ∧ ((mx = none ∧ m = 0) ∨ ∃ a k, mx = some a ∧ ρ a = .int k m) := by
      cases mx with
      | none => exact ⟨bs, 0, by simp, by simpa using htl, .inl ⟨rfl, rfl⟩⟩
      | some c =>
        rw [List.map_append] at htl
        have hlen := htl.1
        simp only [Option.toList_some, List.map_cons, List.map_nil, List.length_append, List.length_cons, List.length_nil] at hlen
        rcases List.eq_nil_or_concat bs with rfl | ⟨ini, lst, rfl⟩
        · simp at hlen
        · rw [List.concat_eq_append] at *
          have hl : ((lo.toList ++ hi.toList).map ρ).length = ini.length := by simp at hlen ⊢; omega
          have h1 := htl.take ini.length
          have h2 := htl.drop ini.length
          rw [List.take_left' rfl, List.take_left' hl] at h1
          rw [List.drop_left' rfl, List.drop_left' hl] at h2
          simp only [Option.isSome_some, if_true, List.dropLast_concat, List.getLast?_concat, Option.bind_some] at hv ⊢
          cases hm : intOf lst with
          | none => rw [hm] at hv; simp at hv
          | some m =>
            obtain ⟨k, hk⟩ := intOf_run hm h2.head
            exact ⟨ini, m, rfl, h1, .inr ⟨c, k, rfl, hk⟩⟩
    rw [hpair] at hv
    obtain ⟨htr, hmx⟩ := hmx
    simp only at hv
    -- the run, once the bounds are met
    have key : ∀ {b : Option Addr} {len cap : Nat} {l h : Int} {q : Nat}, ρ x = .slice b len cap → bounds lo.isSome hi.isSome len bs' = some (l, h) → 0 ≤ l → l ≤ h → h ≤ q → q ≤ cap → ((mx = none ∧ q = cap) ∨ (mx.isSome ∧ (q : Int) = m)) →
        (execOp ρ o).run P w = .ok (.value (.slice (if q = l.toNat then b else b.map (·.add (l.toNat * i.size))) (h.toNat - l.toNat) (q - l.toNat))) w := by
      intro b len cap l h q hV hb c1 c2 c3 c4 hq
      obtain ⟨b1, b2⟩ := bounds_spec ρ hb htr
      have hr := bounds_run (P := P) (w := w) ρ (isS := true) (len := len) (cap := cap) (mx := mx) (m := q) b1 b2 (by
        rcases hq with hq | ⟨hs, hq⟩
        · exact .inl hq
        · rcases hmx with ⟨e, _⟩ | ⟨a, k, e, hk⟩
          · subst e; simp at hs
          · exact .inr ⟨hmh hs, a, k, e, by rw [hk, hq]⟩) c1 c2 c3 c4
      simp [execOp, ho, Instr.sliceAt, Instr.slice, run_underlying hu, hV, hr, sizeOf_run hi']
    have hnm : ∀ {len cap : Nat}, m = 0 → (mx = none ∧ cap = cap) ∨ (mx.isSome ∧ ((0 : Nat) : Int) = m) := by
      intro len cap e
      rcases hmx with ⟨e1, _⟩ | ⟨a, k, e1, _⟩
      · exact .inl ⟨e1, rfl⟩
      · exact .inr ⟨by simp [e1], by omega⟩
    split at hv
    · -- nil
      have hV := hav.ground
      split at hv
      · rename_i hb
        split at hv
        · rename_i hm0
          cases hv
          have := key (b := none) (len := 0) (cap := 0) (l := 0) (h := 0) (q := 0) hV hb (Int.le_refl _) (Int.le_refl _) (by simp) (Nat.le_refl _) (by
            rcases hmx with ⟨e1, _⟩ | ⟨a, k, e1, _⟩
            · exact .inl ⟨e1, rfl⟩
            · exact .inr ⟨by simp [e1], by simp [hm0]⟩)
          exact good_pure (V := .slice none 0 0) (by simpa using this) (.v rfl) hH hW
        · cases hv
      · cases hv
    · -- empty
      generalize hV : ρ x = V at hav
      cases hav with
      | @es _ p =>
        split at hv
        · rename_i hb
          split at hv
          · rename_i hm0
            cases hv
            have := key (b := p) (len := 0) (cap := 0) (l := 0) (h := 0) (q := 0) hV hb (Int.le_refl _) (Int.le_refl _) (by simp) (Nat.le_refl _) (by
              rcases hmx with ⟨e1, _⟩ | ⟨a, k, e1, _⟩
              · exact .inl ⟨e1, rfl⟩
              · exact .inr ⟨by simp [e1], by simp [hm0]⟩)
            exact good_pure (V := .slice p 0 0) (by simpa using this) .es hH hW
          · cases hv
        · cases hv
    · -- rows that never change
      rename_i ez els
      split at hv
      · rename_i l h hb
        split at hv
        · rename_i hc
          obtain ⟨rfl, c1, c2, c3⟩ := hc
          generalize hV : ρ x = V at hav
          cases hav with
          | @is0 _ _ cap p =>
            simp only [List.length_nil] at c3 hb
            have hl0 : l = 0 := by omega
            have hh0 : h = 0 := by omega
            subst hl0; subst hh0
            split at hv
            · rename_i hms
              split at hv
              · rename_i hlm
                obtain ⟨_, rfl⟩ := hlm
                cases hv
                have := key (b := some p) (len := 0) (cap := cap) (q := 0) hV hb (Int.le_refl _) (Int.le_refl _) (by omega) (by omega) (.inr ⟨hms, by omega⟩)
                exact good_pure (V := .slice (some p) 0 0) (by simpa using this) .es hH hW
              · cases hv
            · rename_i hms
              cases hv
              have hmn : mx = none := by cases mx <;> simp_all
              have := key (b := some p) (len := 0) (cap := cap) (q := cap) hV hb (Int.le_refl _) (Int.le_refl _) (by omega) (Nat.le_refl _) (.inl ⟨hmn, rfl⟩)
              refine good_pure this ?_ hH hW
              simp; split <;> exact VR.is0
          | @is _ _ _ p cap hs hl hr hc' hv' =>
            split at hv
            · rename_i hms
              split at hv
              · rename_i hlm
                obtain ⟨rfl, rfl⟩ := hlm
                cases hv
                have := key (b := some p) (q := m.toNat) hV hb c1 (Int.le_refl _) (by omega) (by omega) (.inr ⟨hms, by omega⟩)
                exact good_pure (V := .slice (some p) 0 0) (by simpa using this) .es hH hW
              · cases hv
            · rename_i hms
              cases hv
              have hmn : mx = none := by cases mx <;> simp_all
              have := key (b := some p) (q := cap) hV hb c1 c2 (by omega) (Nat.le_refl _) (.inl ⟨hmn, rfl⟩)
              have hln : ((els.drop l.toNat).take (h.toNat - l.toNat)).length = h.toNat - l.toNat := by simp; omega
              have hget : ∀ (j : Nat) (row : List AV), ((els.drop l.toNat).take (h.toNat - l.toNat))[j]? = some row → els[l.toNat + j]? = some row := by
                intro j row hj
                rw [List.getElem?_take] at hj
                split at hj
                · rw [List.getElem?_drop] at hj; exact hj
                · cases hj
              by_cases hcl : cap = l.toNat
              · rw [if_pos hcl] at this
                refine good_pure this ?_ hH hW
                have hz : h.toNat - l.toNat = 0 := by omega
                rw [hz, List.take_zero]
                exact .is hs (by simp) (fun i r h => by simp at h) (fun i r j y h => by simp at h) (fun i r j y z h => by simp at h)
              · rw [if_neg hcl] at this
                refine good_pure (V := .slice (some (p.add (l.toNat * i.size))) (h.toNat - l.toNat) (cap - l.toNat)) (by simpa using this) ?_ hH hW
                have hE : VR g (.is i.size ((els.drop l.toNat).take (h.toNat - l.toNat))) (.slice (some (p.add (l.toNat * i.size))) ((els.drop l.toNat).take (h.toNat - l.toNat)).length (cap - l.toNat)) := by
                  refine .is (add_spot hs _) (by rw [hln]; omega) (fun j r hj => hr _ r (hget j r hj)) (fun j r q y hj hq => ?_) (fun j r q y z hj hq hz => ?_)
                  · obtain ⟨z, z1, z2⟩ := hc' _ r q y (hget j r hj) hq
                    refine ⟨z, ?_, z2⟩
                    rw [gcell_add p hs, ← z1, Nat.add_mul, Nat.add_assoc]
                  · rw [gcell_add p hs] at hz
                    exact hv' _ r q y z (hget j r hj) hq (by rw [Nat.add_mul, Nat.add_assoc]; exact hz)
                rw [hln] at hE
                exact hE
        · cases hv
      · cases hv
    · -- a slice of an object
      rename_i zz id ver off len cap
      split at hv
      · rename_i bx ty ez ver' els hL
        split at hv
        · rename_i l h hb
          split at hv
          · rename_i hc
            obtain ⟨rfl, rfl, c1, c2, c3, c4⟩ := hc
            obtain ⟨loc, cs, h1, h2, h3, h4, h5, h6, h7, h8, h9⟩ := hH id _ hL
            generalize hV : ρ x = V at hav
            cases hav with
            | @sl _ _ _ _ _ _ _ loc' p c hi2 hver hlc hsp hp =>
              have e1 : loc' = loc := by rw [h1] at hi2; cases hi2; rfl
              subst e1
              obtain ⟨hz, hp1, hp2, hp3, hp4⟩ := hp h3
              -- the room that is known is there
              have hroom : roomOf cap els.length off ≤ c := by
                cases cap with
                | none => simp only [roomOf]; have := hp3 rfl; omega
                | some c' => simp only [roomOf]; have := hp4 c' rfl; omega
              have mk : ∀ (q : Nat) (cap' : Option Nat), h ≤ q → q ≤ c → (cap' = none → cap = none ∧ q = c) → (∀ k, cap' = some k → k = q - l.toNat) →
                  VR g (.sl zz id ver' (off + l.toNat) (h.toNat - l.toNat) cap') (.slice (if q = l.toNat then some p else (some p).map (·.add (l.toNat * i.size))) (h.toNat - l.toNat) (q - l.toNat)) := by
                intro q cap' hq1 hq2 hq3 hq4
                have hif : (if q = l.toNat then some p else (some p).map (·.add (l.toNat * i.size))) = some (if q = l.toNat then p else p.add (l.toNat * i.size)) := by split <;> rfl
                rw [hif]
                have hspot : (if q = l.toNat then p else p.add (l.toNat * i.size)).spot = none := by
                  split
                  · exact hsp
                  · unfold Addr.add
                    split
                    · exact hsp
                    · rfl
                refine .sl hi2 hver (by omega) hspot (fun hev => ⟨hz, ?_, by omega, fun hn => ?_, fun k hk => (hq4 k hk).symm⟩)
                · by_cases hql : q = l.toNat
                  · exact .inl (by omega)
                  · right
                    rw [if_neg hql]
                    have hpe : p = ⟨loc'.b, off * loc'.esz, none⟩ := hp1.resolve_left (by omega)
                    rw [hpe, addr_add, h2, Nat.add_mul]
                · obtain ⟨e1, e2⟩ := hq3 hn
                  have := hp3 e1
                  omega
              split at hv
              · rename_i hms
                split at hv
                · rename_i hlm
                  obtain ⟨d1, d2⟩ := hlm
                  cases hv
                  have := key (b := some p) (q := m.toNat) hV hb c1 c2 (by omega) (by omega) (.inr ⟨hms, by omega⟩)
                  exact good_pure this (mk m.toNat (some (m.toNat - l.toNat)) (by omega) (by omega) (fun h => by cases h) (fun k hk => by cases hk; rfl)) hH hW
                · cases hv
              · rename_i hms
                cases hv
                have hmn : mx = none := by cases mx <;> simp_all
                have := key (b := some p) (q := c) hV hb c1 c2 (by omega) (Nat.le_refl _) (.inl ⟨hmn, rfl⟩)
                refine good_pure this (mk c _ (by omega) (Nat.le_refl _) (fun hn => ?_) (fun k hk => ?_)) hH hW
                · cases cap with
                  | none => exact ⟨rfl, rfl⟩
                  | some c' => simp at hn
                · cases cap with
                  | none => simp at hk
                  | some c' => simp at hk; have := hp4 c' rfl; omega
          · cases hv
        · cases hv
      · cases hv
    · cases hv
end
end Go.Sim
