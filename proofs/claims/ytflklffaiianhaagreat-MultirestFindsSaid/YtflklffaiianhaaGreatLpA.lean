import Derived.Test.YtflklffaiianhaaGreatLaC
/- A text of the proof of MultirestFinds. -/
namespace Go.P
open Go.Sim (OpK CK Ex RV maxRoom)
inductive PV where
  | v (x : Value)
  | is (esz : Nat) (rows : List (List PV))
  | ip (cells : List PV)
  | im (es : List (PV × PV))
  | ref (k o : Nat)
  | own (k : Nat)
  | el (k i o : Nat)
  | map (k : Nat)
  | fn (f : FuncId) (first cap : List PV)
  | agg (cells : List PV)
  | tup (vs : List PV)
  | undef
  deriving Inhabited
inductive PX where
  | t (i : Nat)
  | c (x : PV)
  deriving Inhabited
inductive POs where
  | nil
  | op (d : Nat) (k : OpK) (xs : List PX) (kill : List Nat) (rest : POs)
  | sto (k : OpK) (xs : List PX) (kill : List Nat) (rest : POs)
  | ifx (d c : Nat) (w : Bool) (body : POs) (x : PX) (kill : List Nat) (rest : POs)
  | lax (d : Nat) (es : List (Option Nat)) (rest : POs)
  | own (d : Nat) (ty : TypeId) (e : Nat) (rest : POs)
  | ownc (d j : Nat) (ty : TypeId) (e : Nat) (rest : POs)
  deriving Inhabited
inductive PC where
  | skip
  | reg (ops : POs)
  | regD (ops : POs) (before : List Nat)
  | seq (a b : PC)
  | cond (c : PX) (a b : PC)
  | condJ (keep : List Nat) (c : PX) (a b : PC)
  | block (id : Nat) (c : PC)
  | loop (keep : List Nat) (c : PC)
  | exit (id : Nat)
  | ret
  deriving Inhabited
inductive PObj where
  | box (cells : List PV)
  | lst (ty : TypeId) (esz : Nat) (g : Bool) (rows : List (List PV))
  | mp (es : List (PV × PV))
abbrev Env := List (Nat × PV)
abbrev Heap := List (Nat × PObj)
theorem ifK_ex : ∃ f : {R : Type} → Bool → Option R → Option R → Option R, ∀ {R : Type} b (x y : Option R), f b x y = if b then x else y := ⟨fun b x y => if b then x else y, fun _ _ _ => rfl⟩
noncomputable def ifK {R : Type} (b : Bool) (x y : Option R) : Option R := Classical.choose ifK_ex b x y
theorem ifK_eq {R : Type} (b : Bool) (x y : Option R) : ifK b x y = if b then x else y := Classical.choose_spec ifK_ex b x y
theorem bindK_ex : ∃ f : {A R : Type} → Option A → (A → Option R) → Option R, ∀ {A R : Type} (x : Option A) (k : A → Option R), f x k = x.bind k := ⟨fun x k => x.bind k, fun _ _ => rfl⟩
noncomputable def bindK {A R : Type} (x : Option A) (k : A → Option R) : Option R := Classical.choose bindK_ex x k
theorem bindK_eq {A R : Type} (x : Option A) (k : A → Option R) : bindK x k = x.bind k := Classical.choose_spec bindK_ex x k
noncomputable section
variable {R : Type}
def fValue (x : Value) (K : Value → Option R) : Option R :=
  match x with
  | .int k n => K (.int k n)
  | .bool b => K (.bool b)
  | .string s => K (.string s)
  | x => K x
def fPV (x : PV) (K : PV → Option R) : Option R :=
  match x with
  | .v x => fValue x fun x => K (.v x)
  | .is e rows => K (.is e rows)
  | .ip cs => K (.ip cs)
  | .im es => K (.im es)
  | .ref k o => K (.ref k o)
  | .own k => K (.own k)
  | .el k i o => K (.el k i o)
  | .map k => K (.map k)
  | .fn f a b => K (.fn f a b)
  | .agg cs => K (.agg cs)
  | .tup cs => K (.tup cs)
  | .undef => K .undef
def fPVs : List PV → (List PV → Option R) → Option R
  | [], K => K []
  | x :: xs, K => fPV x fun x => fPVs xs fun xs => K (x :: xs)
def fV (x : PV) (K : PV → Option R) : Option R :=
  match x with
  | .v x => fValue x fun x => K (.v x)
  | .agg cs => fPVs cs fun cs => K (.agg cs)
  | .tup cs => fT cs fun cs => K (.tup cs)
  | .ip cs => fPVs cs fun cs => K (.ip cs)
  | .is e rows => K (.is e rows)
  | .im es => K (.im es)
  | .ref k o => K (.ref k o)
  | .own k => K (.own k)
  | .el k i o => K (.el k i o)
  | .map k => K (.map k)
  | .fn f a b => fPVs a fun a => fPVs b fun b => K (.fn f a b)
  | .undef => K .undef
  where
  fT : List PV → (List PV → Option R) → Option R
  | [], K => K []
  | x :: xs, K => (match x with
      | .agg cs => fPVs cs fun cs => fT xs fun xs => K (.agg cs :: xs)
      | x => fPV x fun x => fT xs fun xs => K (x :: xs))
def getK : Env → Nat → (PV → Option R) → Option R
  | [], _, _ => none
  | (j, v) :: r, i, K => bif Nat.beq j i then K v else getK r i K
def mem : Nat → List Nat → Bool
  | _, [] => false
  | i, j :: js => bif Nat.beq i j then true else mem i js
def delK : Env → List Nat → (Env → Option R) → Option R
  | [], _, K => K []
  | (j, v) :: r, is, K => bif mem j is then delK r is K else delK r is fun r => K ((j, v) :: r)
def evsK (e : Env) : List PX → (List PV → Option R) → Option R
  | [], K => K []
  | .t i :: xs, K => getK e i fun v => evsK e xs fun vs => K (v :: vs)
  | .c x :: xs, K => evsK e xs fun vs => K (x :: vs)
def takeK : Nat → List PV → (List PV → Option R) → Option R
  | 0, _, K => K []
  | _ + 1, [], _ => none
  | n + 1, a :: as, K => takeK n as fun l => K (a :: l)
def dropK : Nat → List PV → (List PV → Option R) → Option R
  | 0, l, K => K l
  | _ + 1, [], _ => none
  | n + 1, _ :: as, K => dropK n as K
def setK : List PV → Nat → List PV → (List PV → Option R) → Option R
  | l, 0, [], K => K l
  | [], _, _, _ => none
  | _ :: as, 0, c :: cs, K => setK as 0 cs fun l => K (c :: l)
  | a :: as, n + 1, cs, K => setK as n cs fun l => K (a :: l)
def hK : Heap → Nat → (PObj → Option R) → Option R
  | [], _, _ => none
  | (j, v) :: r, i, K => bif Nat.beq j i then K v else hK r i K
def hsetK : Heap → Nat → PObj → (Heap → Option R) → Option R
  | [], _, _, _ => none
  | (j, v) :: r, i, o, K => bif Nat.beq j i then K ((j, o) :: r) else hsetK r i o fun r => K ((j, v) :: r)
def cellsK (x : PV) (K : List PV → Option R) : Option R :=
  match x with
  | .agg cs => K cs
  | .tup _ => none
  | .undef => none
  | x => K [x]
def kEq (a b : IntKind) : Bool :=
  match a, b with
  | .i8, .i8 | .i16, .i16 | .i32, .i32 | .i64, .i64 | .u8, .u8 | .u16, .u16 | .u32, .u32 | .u64, .u64 => true
  | _, _ => false
def binK (op : BinOp) (x y : PV) (K : PV → Option R) : Option R :=
  match x, y with
  | .v x, .v y =>
    match x, y with
    | .int k a, .int k' b =>
      match op with
      | .shl => bindK (if b < 0 then none else some (k.wrap (a * 2 ^ min b.toNat k.bits))) fun r => K (.v (.int k r))
      | .shr => bindK (if b < 0 then none else some (a.fdiv (2 ^ min b.toNat k.bits))) fun r => K (.v (.int k r))
      | _ => bif kEq k k' then match op with
        | .add => K (.v (.int k (k.wrap (a + b))))
        | .sub => K (.v (.int k (k.wrap (a - b))))
        | .mul => K (.v (.int k (k.wrap (a * b))))
        | .quo => bindK (if b = 0 then none else some (k.wrap (a.tdiv b))) fun r => K (.v (.int k r))
        | .rem => bindK (if b = 0 then none else some (a.tmod b)) fun r => K (.v (.int k r))
        | .and => K (.v (.int k (k.wrap (BitVec.ofInt k.bits a &&& BitVec.ofInt k.bits b).toNat)))
        | .or => K (.v (.int k (k.wrap (BitVec.ofInt k.bits a ||| BitVec.ofInt k.bits b).toNat)))
        | .xor => K (.v (.int k (k.wrap (BitVec.ofInt k.bits a ^^^ BitVec.ofInt k.bits b).toNat)))
        | .andNot => K (.v (.int k (k.wrap (BitVec.ofInt k.bits a &&& ~~~ BitVec.ofInt k.bits b).toNat)))
        | .eql => K (.v (.bool (a == b)))
        | .neq => K (.v (.bool (a != b)))
        | .lss => K (.v (.bool (decide (a < b))))
        | .leq => K (.v (.bool (decide (a ≤ b))))
        | .gtr => K (.v (.bool (decide (a > b))))
        | .geq => K (.v (.bool (decide (a ≥ b))))
        | _ => none
      else none
    | .string a, .string b =>
      match op with
      | .add => bindK (if a.size + b.size ≤ 2 ^ 62 then some (a ++ b) else none) fun r => K (.v (.string r))
      | .eql => K (.v (.bool (a.toList == b.toList)))
      | .neq => K (.v (.bool !(a.toList == b.toList)))
      | .lss => K (.v (.bool (Op.bytesLess a.toList b.toList)))
      | .leq => K (.v (.bool (Op.bytesLess a.toList b.toList || a.toList == b.toList)))
      | .gtr => K (.v (.bool !(Op.bytesLess a.toList b.toList || a.toList == b.toList)))
      | .geq => K (.v (.bool !(Op.bytesLess a.toList b.toList)))
      | _ => none
    | _, _ => none
  | _, _ => none
def eqCK : List CK → List PV → List PV → (Bool → Option R) → Option R
  | [], [], [], K => K true
  | k :: ks, a :: as, b :: bs, K => eqCK ks as bs fun r => match k, a, b with
    | .i, .v (.int j x), .v (.int j' y) => bif kEq j j' then K ((x == y) && r) else none
    | .b, .v (.bool x), .v (.bool y) => K ((x == y) && r)
    | .s, .v (.string x), .v (.string y) => K ((x == y) && r)
    | _, _, _ => none
  | _, _, _, _ => none
def rowGet (rows : List (List PV)) (i : Int) : Option (List PV) := if 0 ≤ i then rows[i.toNat]? else none
def idxOK (n : Nat) (i : Int) : Option Nat := if 0 ≤ i ∧ i < n then some i.toNat else none
def rowSlice (rows : List (List PV)) (l h : Int) : Option (List (List PV)) :=
  if 0 ≤ l ∧ l ≤ h ∧ h ≤ rows.length then some ((rows.drop l.toNat).take (h.toNat - l.toNat)) else none
def strIdx (s : ByteArray) (i : Int) : Option Int := if 0 ≤ i then (s.data.toList[i.toNat]?).map fun b => (b.toNat : Int) else none
def strSlice (s : ByteArray) (l h : Int) : Option ByteArray := if 0 ≤ l ∧ l ≤ h ∧ h ≤ s.size then some (s.extract l.toNat h.toNat) else none
def rowPut (rows : List (List PV)) (i o : Nat) (cs : List PV) : Option (List (List PV)) :=
  match rows[i]? with
  | some row => if o + cs.length ≤ row.length then some (rows.set i (Sim.setL row o cs)) else none
  | none => none
def cellAt (rows : List (List PV)) (i o : Nat) : Option PV := (rows[i]?).bind fun row => row[o]?
def cellsAt (rows : List (List PV)) (i o n : Nat) : Option (List PV) := (rows[i]?).bind fun row => if o + n ≤ row.length then some ((row.drop o).take n) else none
def idxCell (cs : List PV) (i : Int) (len esz : Nat) : Option PV := if 0 ≤ i ∧ i < len then cs[i.toNat * esz]? else none
def idxCells (cs : List PV) (i : Int) (len esz : Nat) : Option (List PV) := if 0 ≤ i ∧ i < len ∧ (i.toNat + 1) * esz ≤ cs.length then some ((cs.drop (i.toNat * esz)).take esz) else none
def byteRows (s : ByteArray) : List (List PV) := s.data.toList.map fun b => [.v (.int .u8 b.toNat)]
def appRows (g : Bool) (rows new : List (List PV)) : Option (List (List PV)) :=
  if rows.length + new.length ≤ maxRoom ∧ (g = true → new.length ≤ 1) then some (rows ++ new) else none
def makeRows (l c : Int) (zero : List PV) : Option (List (List PV)) := if 0 ≤ l ∧ l ≤ c ∧ c ≤ maxRoom then some (List.replicate l.toNat zero) else none
def pCellEq : CK → PV → PV → Option Bool
  | .i, .v (.int k a), .v (.int k' b) => if k = k' then some (a == b) else none
  | .b, .v (.bool a), .v (.bool b) => some (a == b)
  | .s, .v (.string a), .v (.string b) => some (a == b)
  | _, _, _ => none
def pCellsEq : List CK → List PV → List PV → Option Bool
  | [], [], [] => some true
  | k :: ks, a :: as, b :: bs => match pCellEq k a b with
    | some true => pCellsEq ks as bs
    | some false => some false
    | none => none
  | _, _, _ => none
def pKeyEq (agg : Bool) (ks : List CK) (a b : PV) : Option Bool :=
  if agg then match a, b with
    | .agg as, .agg bs => if as.length = ks.length ∧ bs.length = ks.length then pCellsEq ks as bs else none
    | _, _ => none
  else pCellsEq ks [a] [b]
def pFind (agg : Bool) (ks : List CK) (k : PV) : List (PV × PV) → Nat → Option (Option (Nat × PV))
  | [], _ => some none
  | (k', x) :: r, i => match pKeyEq agg ks k k' with
    | some true => some (some (i, x))
    | some false => pFind agg ks k r (i + 1)
    | none => none
def pKeyOK (agg : Bool) (ks : List CK) : PV → Bool
  | .agg as => agg && as.length == ks.length
  | .v _ => !agg
  | _ => false
def mapGet (agg : Bool) (ks : List CK) (zero k : PV) (es : List (PV × PV)) : Option PV :=
  if pKeyOK agg ks k then (pFind agg ks k es 0).map fun r => match r with | some (_, x) => x | none => zero else none
def mapGet2 (agg : Bool) (ks : List CK) (zero k : PV) (es : List (PV × PV)) : Option (PV × Bool) :=
  if pKeyOK agg ks k then (pFind agg ks k es 0).map fun r => match r with | some (_, x) => (x, true) | none => (zero, false) else none
def mapPut (agg : Bool) (ks : List CK) (k x : PV) (es : List (PV × PV)) : Option (List (PV × PV)) :=
  if pKeyOK agg ks k then (pFind agg ks k es 0).map fun r => match r with | some (i, _) => es.set i (k, x) | none => es ++ [(k, x)] else none
def closedP : Nat → PV → Bool
  | 0, _ => false
  | d + 1, x => match x with
    | .v _ | .is _ _ | .ip _ | .im _ => true
    | .fn _ a b => a.all (closedP d) && b.all (closedP d)
    | .agg cs => cs.all (closedP d)
    | .tup cs => cs.all (closedP d)
    | _ => false
def plainP : PV → Bool
  | .v _ | .is _ _ | .ip _ => true
  | _ => false
def mapP : PV → Bool
  | .agg cs => cs.all plainP
  | x => plainP x
def gndP : Nat → PV → Bool
  | 0, _ => false
  | d + 1, x => match x with
    | .v _ => true
    | .agg cs => cs.all (gndP d)
    | .tup cs => cs.all (gndP d)
    | _ => false
def mapK (f : PV → (PV → Option R) → Option R) : List PV → (List PV → Option R) → Option R
  | [], K => K []
  | x :: xs, K => f x fun x => mapK f xs fun xs => K (x :: xs)
def frzK (h : Heap) : Nat → PV → (PV → Option R) → Option R
  | 0, _, _ => none
  | d + 1, x, K => match x with
    | .own k => hK h k fun ob => match ob with
      | .lst _ e _ rows => K (.is e rows)
      | _ => none
    | .map k => hK h k fun ob => match ob with
      | .mp es => K (.im es)
      | _ => none
    | .ref k o => hK h k fun ob => match ob with
      | .box cs => dropK o cs fun cs => mapK (frzK h d) cs fun cs => K (.ip cs)
      | _ => none
    | .fn f a b => mapK (frzK h d) a fun a => mapK (frzK h d) b fun b => K (.fn f a b)
    | .agg cs => mapK (frzK h d) cs fun cs => K (.agg cs)
    | .v x => K (.v x)
    | .is e rows => K (.is e rows)
    | .ip cs => K (.ip cs)
    | .im es => K (.im es)
    | _ => none
def killK (k : Nat) : Nat → PV → (PV → Option R) → Option R
  | 0, _, K => K .undef
  | d + 1, x, K => match x with
    | .own j => bif Nat.beq j k then K .undef else K (.own j)
    | .el j i o => bif Nat.beq j k then K .undef else K (.el j i o)
    | .ref j o => bif Nat.beq j k then K .undef else K (.ref j o)
    | .map j => bif Nat.beq j k then K .undef else K (.map j)
    | .fn f a b => kills d a fun a => kills d b fun b => K (.fn f a b)
    | .agg cs => kills d cs fun cs => K (.agg cs)
    | .tup cs => kills d cs fun cs => K (.tup cs)
    | x => K x
  where
  kills (d : Nat) : List PV → (List PV → Option R) → Option R
  | [], K => K []
  | x :: xs, K => killK k d x fun x => kills d xs fun xs => K (x :: xs)
def killE (k : Nat) : Env → (Env → Option R) → Option R
  | [], K => K []
  | (j, v) :: r, K => killK k 3 v fun v => killE k r fun r => K ((j, v) :: r)
def killH (k : Nat) : Heap → (Heap → Option R) → Option R
  | [], K => K []
  | (j, o) :: r, K => match o with
    | .box cs => killK.kills k 2 cs fun cs => killH k r fun r => K ((j, .box cs) :: r)
    | .lst ty e g rows => killH k r fun r => K ((j, .lst ty e g rows) :: r)
    | .mp es => killH k r fun r => K ((j, .mp es) :: r)
def rowsK (h : Heap) (e : Nat) (x : PV) (K : List (List PV) → Option R) : Option R :=
  match x with
  | .is e' rows => bif Nat.beq e' e then K rows else none
  | .own k => hK h k fun ob => match ob with
    | .lst _ e' _ rows => bif Nat.beq e' e then K rows else none
    | _ => none
  | .v (.slice none 0 0) => K []
  | _ => none
def boundsK (lo hi : Bool) (len : Nat) (bs : List PV) (K : Int → Int → Option R) : Option R :=
  match lo, hi, bs with
  | false, false, [] => K 0 len
  | true, false, [.v (.int _ l)] => K l len
  | false, true, [.v (.int _ h)] => K 0 h
  | true, true, [.v (.int _ l), .v (.int _ h)] => K l h
  | _, _, _ => none
def fillK : List PV → List (Nat × Nat) → List PV → (List PV → Option R) → Option R
  | cells, [], [], K => K cells
  | cells, (off, n) :: ps, x :: xs, K => cellsK x fun cs => bif Nat.beq cs.length n then setK cells off cs fun cells => fillK cells ps xs K else none
  | _, _, _, _ => none
def rowsOfK (e : Nat) : List PV → (List (List PV) → Option R) → Option R
  | [], K => K []
  | x :: xs, K => cellsK x fun cs => bif Nat.beq cs.length e && cs.all plainP then rowsOfK e xs fun r => K (cs :: r) else none
def upTo : Nat → List Nat → Bool
  | _, [] => true
  | i, j :: js => bif Nat.beq i j then upTo (i + 1) js else false
def mnK (mx : Bool) (k : IntKind) : Int → List PV → (Int → Option R) → Option R
  | a, [], K => K a
  | a, .v (.int k' b) :: r, K => bif kEq k k' then mnK mx k (bif mx then (if b > a then b else a) else (if b < a then b else a)) r K else none
  | _, _, _ => none
def stepK (k : OpK) (xs : List PV) (h : Heap) (n : Nat) (K : PV → Heap → Nat → Option R) : Option R :=
  match k, xs with
  | .mov, [x] => K x h n
  | .nilc, [x] => match x with
    | .ref .. | .ip .. | .el .. | .fn .. => K x h n
    | _ => none
  | .box _ size, [x] => cellsK x fun cs => bif Nat.beq cs.length size then (bif Nat.beq size 0 then none else K (.ref n 0) ((n, .box cs) :: h) (n + 1)) else none
  | .alloc _ zero, [] => fPVs (zero.map .v) fun cs => K (.ref n 0) ((n, .box cs) :: h) (n + 1)
  | .build zero parts, xs => fPVs (zero.map .v) fun cs => fillK cs parts xs fun cs => K (.agg cs) h n
  | .buildSl ty e len zero parts, xs => bif upTo 0 parts && Nat.beq zero.length e then (bif Nat.beq parts.length len then rowsOfK e xs fun rows => bif Nat.beq rows.length len then K (.own n) ((n, .lst ty e false rows) :: h) (n + 1) else none else none) else none
  | .loadS, [p] => match p with
    | .ref k o => hK h k fun ob => match ob with
      | .box cs => dropK o cs fun cs => match cs with
        | c :: _ => K c h n
        | [] => none
      | _ => none
    | .ip cs => match cs with
      | c :: _ => K c h n
      | [] => none
    | .el k i o => hK h k fun ob => match ob with
      | .lst _ _ _ rows => bindK (cellAt rows i o) fun c => K c h n
      | _ => none
    | _ => none
  | .loadA m, [p] => match p with
    | .ref k o => hK h k fun ob => match ob with
      | .box cs => dropK o cs fun cs => takeK m cs fun cs => K (.agg cs) h n
      | _ => none
    | .ip cs => takeK m cs fun cs => K (.agg cs) h n
    | .el k i o => hK h k fun ob => match ob with
      | .lst _ _ _ rows => bindK (cellsAt rows i o m) fun cs => K (.agg cs) h n
      | _ => none
    | _ => none
  | .store m, [p, x] => match p with
    | .ref k o => hK h k fun ob => match ob with
      | .box cs => cellsK x fun ys => bif Nat.beq ys.length m then setK cs o ys fun cs => hsetK h k (.box cs) fun h => K .undef h n else none
      | _ => none
    | .el k i o => hK h k fun ob => match ob with
      | .lst ty e g rows => cellsK x fun ys => bif Nat.beq ys.length m && ys.all plainP then bindK (rowPut rows i o ys) fun rows => hsetK h k (.lst ty e g rows) fun h => K .undef h n else none
      | _ => none
    | _ => none
  | .fad off, [p] => match p with
    | .ref k o => K (.ref k (o + off)) h n
    | .ip cs => dropK off cs fun cs => K (.ip cs) h n
    | .el k i o => K (.el k i (o + off)) h n
    | _ => none
  | .iad e, [x, i] => match i with
    | .v (.int _ i) => match x with
      | .is e' rows => bif Nat.beq e' e then bindK (rowGet rows i) fun row => K (.ip row) h n else none
      | .own k => hK h k fun ob => match ob with
        | .lst _ e' _ rows => bif Nat.beq e' e then bindK (idxOK rows.length i) fun i => K (.el k i 0) h n else none
        | _ => none
      | _ => none
    | _ => none
  | .fldS off, [x] => match x with
    | .agg cs => dropK off cs fun cs => match cs with
      | c :: _ => K c h n
      | [] => none
    | _ => none
  | .fldA off m, [x] => match x with
    | .agg cs => dropK off cs fun cs => takeK m cs fun cs => K (.agg cs) h n
    | _ => none
  | .idxStr, [x, i] => match x, i with
    | .v (.string s), .v (.int _ i) => bindK (strIdx s i) fun b => K (.v (.int .u8 b)) h n
    | _, _ => none
  | .idxA len e agg, [x, i] => match x, i with
    | .agg cs, .v (.int _ i) => bif agg then bindK (idxCells cs i len e) fun cs => K (.agg cs) h n else bindK (idxCell cs i len e) fun c => K c h n
    | _, _ => none
  | .bin op, [x, y] => binK op x y fun v => K v h n
  | .eqB neg, [x, y] => match x, y with
    | .v (.bool a), .v (.bool b) => K (.v (.bool ((a == b) != neg))) h n
    | _, _ => none
  | .eqA neg ks, [x, y] => match x, y with
    | .agg as, .agg bs => eqCK ks as bs fun r => K (.v (.bool (r != neg))) h n
    | _, _ => none
  | .eqNil neg kd, [x, y] => match x, y with
    | .v (.slice none 0 0), .v (.slice none 0 0) => bif Nat.beq kd 0 then K (.v (.bool (true != neg))) h n else none
    | .ref .., .v (.pointer none) => bif Nat.beq kd 1 then K (.v (.bool (false != neg))) h n else none
    | .ip .., .v (.pointer none) => bif Nat.beq kd 1 then K (.v (.bool (false != neg))) h n else none
    | .fn .., .v .nilFunc => bif Nat.beq kd 3 then K (.v (.bool (false != neg))) h n else none
    | _, _ => none
  | .un op, [x] => match op, x with
    | .not, .v (.bool b) => K (.v (.bool !b)) h n
    | .neg, .v (.int k m) => K (.v (.int k (k.wrap (0 - m)))) h n
    | .xor, .v (.int k m) => K (.v (.int k (k.wrap (BitVec.ofInt k.bits (if k.signed then -1 else k.max) ^^^ BitVec.ofInt k.bits m).toNat))) h n
    | _, _ => none
  | .convI k, [x] => match x with
    | .v (.int _ m) => K (.v (.int k (k.wrap m))) h n
    | _ => none
  | .convS, [x] => match x with
    | .v (.string s) => K (.v (.string s)) h n
    | _ => none
  | .s2b _, [x] => match x with
    | .v (.string s) => K (.is 1 (byteRows s)) h n
    | _ => none
  | .mkfn f m, xs => match f with
    | .func f => takeK m xs fun a => dropK m xs fun b => K (.fn f a b) h n
    | _ => none
  | .mkmap, [] => K (.map n) ((n, .mp []) :: h) (n + 1)
  | .mksl ty e _ zero, [l, c] => match l, c with
    | .v (.int _ l), .v (.int _ c) => fPVs (zero.map .v) fun z => bindK (makeRows l c z) fun rows => K (.own n) ((n, .lst ty e true rows) :: h) (n + 1)
    | _, _ => none
  | .slc e lo hi mx, x :: bs => bif mx then none else match x with
    | .is e' rows => bif Nat.beq e' e then boundsK lo hi rows.length bs fun l r => bindK (rowSlice rows l r) fun rows => K (.is e rows) h n else none
    | _ => none
  | .slcStr lo hi, x :: bs => match x with
    | .v (.string s) => boundsK lo hi s.size bs fun l r => bindK (strSlice s l r) fun s => K (.v (.string s)) h n
    | _ => none
  | .lookup agg ks zero ok, [m, k] =>
    match zero with
    | .v z => match m with
      | .im es => bif closedP 2 k then (bif ok then bindK (mapGet2 agg ks (.v z) k es) fun r => K (.tup [r.1, .v (.bool r.2)]) h n else bindK (mapGet agg ks (.v z) k es) fun r => K r h n) else none
      | .map j => hK h j fun ob => match ob with
        | .mp es => bif closedP 2 k then (bif ok then bindK (mapGet2 agg ks (.v z) k es) fun r => K (.tup [r.1, .v (.bool r.2)]) h n else bindK (mapGet agg ks (.v z) k es) fun r => K r h n) else none
        | _ => none
      | _ => none
    | _ => none
  | .mapup agg ks, [m, k, x] => match m with
    | .map j => hK h j fun ob => match ob with
      | .mp es => bif mapP k && mapP x then bindK (mapPut agg ks k x es) fun es => hsetK h j (.mp es) fun h => K .undef h n else none
      | _ => none
    | _ => none
  | .len kd, [x] => match x with
    | .is _ rows => bif Nat.beq kd 0 then K (.v (.int .i64 rows.length)) h n else none
    | .own k => bif Nat.beq kd 0 then hK h k fun ob => match ob with
      | .lst _ _ _ rows => K (.v (.int .i64 rows.length)) h n
      | _ => none else none
    | .v (.slice none 0 0) => bif Nat.beq kd 0 then K (.v (.int .i64 0)) h n else none
    | .v (.string s) => bif Nat.beq kd 1 then K (.v (.int .i64 s.size)) h n else none
    | _ => none
  | .mn, x :: xs => match x with
    | .v (.int k a) => mnK false k a xs fun r => K (.v (.int k r)) h n
    | _ => none
  | .mx, x :: xs => match x with
    | .v (.int k a) => mnK true k a xs fun r => K (.v (.int k r)) h n
    | _ => none
  | .ext i, [x] => match x with
    | .tup vs => dropK i vs fun vs => match vs with
      | v :: _ => K v h n
      | [] => none
    | _ => none
  | _, _ => none
abbrev Orc := FuncId → List PV → Option PV
def frzArgs (h : Heap) : List PV → (List PV → Option R) → Option R
  | [], K => K []
  | x :: xs, K => frzK h 5 x fun x => frzArgs h xs fun xs => K (x :: xs)
def callK (C : Orc) (f : FuncId) (xs : List PV) (h : Heap) (K : PV → Option R) : Option R :=
  bif xs.all (closedP 4) then bindK (C f xs) fun v => fV v K
  else frzArgs h xs fun xs => bindK (C f xs) fun v => fV v fun v => bif gndP 4 v then K v else none
def appK (e : Env) (h : Heap) (d ty es : Nat) (kill : List Nat) (s x : PV) (K : Env → Heap → Option R) : Option R :=
  match s with
  | .own k => rowsK h es x fun new => hK h k fun ob => match ob with
    | .lst ty' es' g rows => bif Nat.beq es' es && Nat.beq ty' ty then bindK (appRows g rows new) fun rows =>
        delK e (d :: kill) fun e => killE k e fun e => killH k h fun h => hsetK h k (.lst ty' es' g rows) fun h => K ((d, .own k) :: e) h
      else none
    | _ => none
  | _ => none
def opK (C : Orc) (k : OpK) (as : List PV) (h : Heap) (n : Nat) (K : PV → Heap → Nat → Option R) : Option R :=
  match k, as with
  | .callF f, as => callK C f as h fun v => K v h n
  | .callV, .fn f first cap :: as => callK C f (first ++ as ++ cap) h fun v => K v h n
  | k, as => stepK k as h n K
def laxK : List (Option Nat) → List PV → (List PV → Option R) → Option R
  | [], [], K => K []
  | o :: os, x :: xs, K => laxK os xs fun xs => match o with
    | none => K (x :: xs)
    | some e => match x with
      | .v (.slice none 0 0) => K (.is e [] :: xs)
      | _ => none
  | _, _, _ => none
def isSto : OpK → Bool
  | .store _ | .mapup .. => true
  | _ => false
def dsts : POs → List Nat → List Nat
  | .nil, a => a
  | .op d _ _ _ r, a => d :: dsts r a
  | .sto _ _ _ r, a => dsts r a
  | .ifx d _ _ b _ _ r, a => d :: dsts b (dsts r a)
  | .lax _ _ r, a => dsts r a
  | .own _ _ _ r, a => dsts r a
  | .ownc _ _ _ _ r, a => dsts r a
def opsK (C : Orc) : POs → Env → Heap → Nat → (Env → Heap → Nat → Option R) → Option R
  | .nil, e, h, n, K => K e h n
  | .op d k xs kill rest, e, h, n, K => evsK e xs fun as =>
    match k, as with
    | .append ty es _ _ false, [s, x] => appK e h d ty es kill s x fun e h => opsK C rest e h n K
    | k, as => opK C k as h n fun v h n => delK e (d :: kill) fun e => opsK C rest ((d, v) :: e) h n K
  | .sto k xs kill rest, e, h, n, K => evsK e xs fun as => stepK k as h n fun _ h n => delK e kill fun e => opsK C rest e h n K
  | .ifx d c w body x kill rest, e, h, n, K => getK e c fun cv => match cv with
    | .v (.bool b) =>
      bindK (bif w then ifK b (opsB C body e h n x) (some false) else ifK b (some true) (opsB C body e h n x))
        fun y => delK e (d :: dsts body kill) fun e => opsK C rest ((d, .v (.bool y)) :: e) h n K
    | _ => none
  | .lax d es rest, e, h, n, K => getK e d fun v => match v, es with
    | .v (.slice none 0 0), [some s] => delK e [d] fun e => opsK C rest ((d, .is s []) :: e) h n K
    | .agg cs, es => laxK es cs fun cs => delK e [d] fun e => opsK C rest ((d, .agg cs) :: e) h n K
    | _, _ => none
  | .own d ty s rest, e, h, n, K => getK e d fun v => match v with
    | .v (.slice none 0 0) => delK e [d] fun e => opsK C rest ((d, .own n) :: e) ((n, .lst ty s false []) :: h) (n + 1) K
    | _ => none
  | .ownc d j ty s rest, e, h, n, K => getK e d fun v => match v with
    | .ref k 0 => hK h k fun ob => match ob with
      | .box cs => dropK j cs fun cs' => match cs' with
        | .v (.slice none 0 0) :: _ => setK cs j [.own n] fun cs => hsetK h k (.box cs) fun h => opsK C rest e ((n, .lst ty s false []) :: h) (n + 1) K
        | _ => none
      | _ => none
    | _ => none
  where
    opsB (C : Orc) : POs → Env → Heap → Nat → PX → Option Bool
  | .nil, e, _, _, x => evsK e [x] fun vs => match vs with
    | [.v (.bool b)] => some b
    | _ => none
  | .op d k xs kill rest, e, h, n, x => evsK e xs fun as =>
    bif isSto k then none else opK C k as h n fun v h n => delK e (d :: kill) fun e => opsB C rest ((d, v) :: e) h n x
  | .ifx d c w body x' kill rest, e, h, n, x => getK e c fun cv => match cv with
    | .v (.bool b) =>
      bindK (bif w then ifK b (opsB C body e h n x') (some false) else ifK b (some true) (opsB C body e h n x'))
        fun y => delK e (d :: dsts body kill) fun e => opsB C rest ((d, .v (.bool y)) :: e) h n x
    | _ => none
  | _, _, _, _, _ => none
def below (n : Nat) : Nat → PV → Bool
  | 0, _ => false
  | d + 1, x => match x with
    | .ref k _ | .own k | .el k _ _ | .map k => Nat.blt k n
    | .fn _ a b => a.all (below n d) && b.all (below n d)
    | .agg cs => cs.all (below n d)
    | .tup cs => cs.all (below n d)
    | _ => true
def getOK : Env → Nat → (PV → Option R) → Option R → Option R
  | [], _, _, D => D
  | (j, v) :: r, i, K, D => bif Nat.beq j i then K v else getOK r i K D
def keepK : Env → List Nat → Nat → (Env → Option R) → Option R
  | _, [], _, K => K []
  | e, i :: is, n, K => getOK e i (fun v => bif below n 4 v then keepK e is n fun r => K ((i, v) :: r) else none) (keepK e is n K)
def objBelow (n : Nat) : PObj → Bool
  | .box cs => cs.all (below n 4)
  | _ => true
def heapK : Heap → Heap → Nat → (Heap → Option R) → Option R
  | [], _, _, K => K []
  | (k, _) :: r, h, n, K => hK h k fun o => bif objBelow n o then heapK r h n fun r => K ((k, o) :: r) else none
def loopN {S E : Type} (body : S → Option (S ⊕ E)) : Nat → S → Option E
  | 0, _ => none
  | n + 1, s => (body s).bind fun r => match r with
    | .inl s => loopN body n s
    | .inr e => some e
def B64 : Nat := 18446744073709551616
structure PSt where
  e : Env
  h : Heap
def canonK (keep : List Nat) (h0 : Heap) (n0 : Nat) (e : Env) (h : Heap) (K : PSt → Option R) : Option R :=
  keepK e keep n0 fun e => heapK h0 h n0 fun h => K ⟨e, h⟩
def execK (C : Orc) {R : Type} : PC → Env → Heap → Nat → (Ex → Env → Heap → Nat → Option R) → Option R
  | .skip, e, h, n, K => K .normal e h n
  | .reg ops, e, h, n, K => opsK C ops e h n (K .normal)
  | .regD ops _, e, h, n, K => opsK C ops e h n (K .normal)
  | .seq a b, e, h, n, K => execK C a e h n (fun x e h n => match x with | .normal => execK C b e h n K | .exit i => K (.exit i) e h n | .ret => K .ret e h n)
  | .cond c a b, e, h, n, K => evsK e [c] fun vs => match vs with
    | [.v (.bool t)] => ifK t (execK C a e h n K) (execK C b e h n K)
    | _ => none
  | .condJ keep c a b, e, h, n, K => evsK e [c] fun vs => match vs with
    | [.v (.bool t)] => bindK (ifK t (execK C a e h n fun x e' h' _ => canonK keep h n e' h' fun s => some (x, s)) (execK C b e h n fun x e' h' _ => canonK keep h n e' h' fun s => some (x, s)))
        fun r => K r.1 r.2.e r.2.h n
    | _ => none
  | .block id c, e, h, n, K => execK C c e h n (fun x e h n => match x with | .exit i => bif Nat.beq i id then K .normal e h n else K (.exit i) e h n | .normal => K .normal e h n | .ret => K .ret e h n)
  | .loop keep c, e, h, n, K => canonK keep h n e h fun s0 =>
      bindK (loopN (fun s : PSt => execK C c s.e s.h n fun x e' h' _ => canonK keep h n e' h' fun s' => some (match x with | .normal => .inl s' | x => .inr (x, s'))) B64 s0)
        fun r => K r.1 r.2.e r.2.h n
  | .exit id, e, h, n, K => K (.exit id) e h n
  | .ret, e, h, n, K => K .ret e h n
end
end Go.P
set_option linter.unusedVariables false
set_option linter.unusedSimpArgs false
namespace Go.P
open Go.Sim (AV AO Hp Ent upd St IC IX Ex OpK CK Wf)
inductive RC : Bool → PV → AV → Prop
  | v {p : Bool} (x : Value) : RC p (.v x) (.v x)
  | is {p : Bool} {e : Nat} {rows : List (List PV)} {rows' : List (List AV)} (hl : rows.length = rows'.length)
      (hr : ∀ (i : Nat) (r : List PV) (r' : List AV), rows[i]? = some r → rows'[i]? = some r' → r.length = r'.length)
      (hc : ∀ (i : Nat) (r : List PV) (r' : List AV) (j : Nat) (x : PV) (y : AV), rows[i]? = some r → rows'[i]? = some r' → r[j]? = some x → r'[j]? = some y → RC true x y) : RC p (.is e rows) (.is e rows')
  | isn {p : Bool} {e : Nat} : RC p (.is e []) (.v (.slice none 0 0))
  | ise {p : Bool} {e : Nat} : RC p (.is e []) .es
  | ip {p : Bool} {cs : List PV} {cs' : List AV} (hl : cs.length = cs'.length) (hc : ∀ (j : Nat) (x : PV) (y : AV), cs[j]? = some x → cs'[j]? = some y → RC false x y) : RC p (.ip cs) (.ip cs')
  | im {es : List (PV × PV)} {es' : List (AV × AV)} (hl : es.length = es'.length)
      (hk : ∀ (j : Nat) (x : PV × PV) (y : AV × AV), es[j]? = some x → es'[j]? = some y → RC false x.1 y.1)
      (hv : ∀ (j : Nat) (x : PV × PV) (y : AV × AV), es[j]? = some x → es'[j]? = some y → RC false x.2 y.2) : RC false (.im es) (.im es')
  | fn {f : FuncId} {a b : List PV} {a' b' : List AV} (h1 : a.length = a'.length) (h2 : b.length = b'.length)
      (v1 : ∀ (j : Nat) (x : PV) (y : AV), a[j]? = some x → a'[j]? = some y → RC false x y) (v2 : ∀ (j : Nat) (x : PV) (y : AV), b[j]? = some x → b'[j]? = some y → RC false x y) : RC false (.fn f a b) (.fn (.func f) a' b')
  | agg {cs : List PV} {cs' : List AV} (hl : cs.length = cs'.length) (hc : ∀ (j : Nat) (x : PV) (y : AV), cs[j]? = some x → cs'[j]? = some y → RC false x y) : RC false (.agg cs) (.agg cs')
  | tup {cs : List PV} {cs' : List AV} (hl : cs.length = cs'.length) (hc : ∀ (j : Nat) (x : PV) (y : AV), cs[j]? = some x → cs'[j]? = some y → RC false x y) : RC false (.tup cs) (.tup cs')
theorem RC.weak {p : Bool} {x : PV} {y : AV} (h : RC p x y) : RC false x y := by
  cases h with
  | v x => exact .v x
  | is hl hr hc => exact .is hl hr hc
  | isn => exact .isn
  | ise => exact .ise
  | ip hl hc => exact .ip hl hc
  | im a b c => exact .im a b c
  | fn a b c d => exact .fn a b c d
  | agg a b => exact .agg a b
  | tup a b => exact .tup a b
theorem RC.plain {x : PV} {y : AV} (h : RC false x y) (hp : plainP x = true) : RC true x y := by
  cases h with
  | v x => exact .v x
  | is hl hr hc => exact .is hl hr hc
  | isn => exact .isn
  | ise => exact .ise
  | ip hl hc => exact .ip hl hc
  | _ => simp [plainP] at hp
inductive Pl where
  | nil
  | atp (id ver e len : Nat)
abbrev Cx := Nat → Option Pl
inductive RV (C : Cx) : PV → AV → Prop
  | cl {x : PV} {y : AV} (h : RC false x y) : RV C x y
  | undef {y : AV} : RV C .undef y
  | ref {k o id ver e len : Nat} (h : C k = some (.atp id ver e len)) : RV C (.ref k o) (.ptr id ver 0 o)
  | own {k id ver e len : Nat} (h : C k = some (.atp id ver e len)) : RV C (.own k) (.sl e id ver 0 len none)
  | ownn {k : Nat} {y : AV} (h : C k = some .nil) (hy : y = .v (.slice none 0 0) ∨ y = .es) : RV C (.own k) y
  | el {k i o id ver e len : Nat} (h : C k = some (.atp id ver e len)) : RV C (.el k i o) (.ptr id ver i o)
  | map {k id ver e len : Nat} (h : C k = some (.atp id ver e len)) : RV C (.map k) (.map id)
  | fn {f : FuncId} {a b : List PV} {a' b' : List AV} (h1 : a.length = a'.length) (h2 : b.length = b'.length)
      (v1 : ∀ (j : Nat) (x : PV) (y : AV), a[j]? = some x → a'[j]? = some y → RV C x y) (v2 : ∀ (j : Nat) (x : PV) (y : AV), b[j]? = some x → b'[j]? = some y → RV C x y) : RV C (.fn f a b) (.fn (.func f) a' b')
  | agg {cs : List PV} {cs' : List AV} (hl : cs.length = cs'.length) (hc : ∀ (j : Nat) (x : PV) (y : AV), cs[j]? = some x → cs'[j]? = some y → RV C x y) : RV C (.agg cs) (.agg cs')
  | tup {cs : List PV} {cs' : List AV} (hl : cs.length = cs'.length) (hc : ∀ (j : Nat) (x : PV) (y : AV), cs[j]? = some x → cs'[j]? = some y → RV C x y) : RV C (.tup cs) (.tup cs')
theorem RV.mono {C C' : Cx} (hC : ∀ k pl, C k = some pl → C' k = some pl) {x : PV} {y : AV} (h : RV C x y) : RV C' x y := by
  induction h with
  | cl h => exact .cl h
  | undef => exact .undef
  | ref h => exact .ref (hC _ _ h)
  | own h => exact .own (hC _ _ h)
  | ownn h hy => exact .ownn (hC _ _ h) hy
  | el h => exact .el (hC _ _ h)
  | map h => exact .map (hC _ _ h)
  | fn h1 h2 v1 v2 i1 i2 => exact .fn h1 h2 i1 i2
  | agg hl hc ih => exact .agg hl ih
  | tup hl hc ih => exact .tup hl ih
def LR (R : PV → AV → Prop) (xs : List PV) (ys : List AV) : Prop := xs.length = ys.length ∧ ∀ (j : Nat) (x : PV) (y : AV), xs[j]? = some x → ys[j]? = some y → R x y
section
variable {R : PV → AV → Prop}
theorem LR.nil : LR R [] [] := ⟨rfl, fun j x y h => by simp at h⟩
theorem LR.cons {x : PV} {y : AV} {xs : List PV} {ys : List AV} (h : R x y) (ht : LR R xs ys) : LR R (x :: xs) (y :: ys) :=
  ⟨by simp [ht.1], fun j a b ha hb => by
    cases j with
    | zero => simp at ha hb; subst ha hb; exact h
    | succ j => simp at ha hb; exact ht.2 j a b ha hb⟩
theorem LR.head {x : PV} {y : AV} {xs : List PV} {ys : List AV} (h : LR R (x :: xs) (y :: ys)) : R x y := h.2 0 x y rfl rfl
theorem LR.tail {x : PV} {y : AV} {xs : List PV} {ys : List AV} (h : LR R (x :: xs) (y :: ys)) : LR R xs ys :=
  ⟨by simpa using h.1, fun j a b ha hb => h.2 (j + 1) a b (by simpa using ha) (by simpa using hb)⟩
theorem LR.inv_nil {ys : List AV} (h : LR R [] ys) : ys = [] := by
  have := h.1
  cases ys with
  | nil => rfl
  | cons a as => simp at this
theorem LR.inv_cons {x : PV} {xs : List PV} {ys : List AV} (h : LR R (x :: xs) ys) : ∃ y ys', ys = y :: ys' ∧ R x y ∧ LR R xs ys' := by
  cases ys with
  | nil => have := h.1; simp at this
  | cons a as => exact ⟨a, as, rfl, h.head, h.tail⟩
theorem LR.append {xs xs' : List PV} {ys ys' : List AV} (h : LR R xs ys) (h' : LR R xs' ys') : LR R (xs ++ xs') (ys ++ ys') := by
  induction xs generalizing ys with
  | nil => rw [h.inv_nil]; exact h'
  | cons a as ih =>
    obtain ⟨y, ys1, rfl, h1, h2⟩ := h.inv_cons
    exact .cons h1 (ih h2)
theorem LR.take {xs : List PV} {ys : List AV} (h : LR R xs ys) (n : Nat) : LR R (xs.take n) (ys.take n) :=
  ⟨by simp [h.1], fun j x y hx hy => by
    rw [List.getElem?_take] at hx hy
    split at hx
    · rename_i hj
      rw [if_pos hj] at hy
      exact h.2 j x y hx hy
    · cases hx⟩
theorem LR.drop {xs : List PV} {ys : List AV} (h : LR R xs ys) (n : Nat) : LR R (xs.drop n) (ys.drop n) :=
  ⟨by simp [h.1], fun j x y hx hy => by
    rw [List.getElem?_drop] at hx hy
    exact h.2 _ x y hx hy⟩
theorem LR.get {xs : List PV} {ys : List AV} (h : LR R xs ys) {j : Nat} {x : PV} (hx : xs[j]? = some x) : ∃ y, ys[j]? = some y ∧ R x y := by
  have hlt : j < ys.length := by rw [← h.1]; exact (List.getElem?_eq_some_iff.1 hx).1
  exact ⟨ys[j], by simp [hlt], h.2 j x _ hx (by simp [hlt])⟩
theorem LR.mono {R' : PV → AV → Prop} {xs : List PV} {ys : List AV} (h : LR R xs ys) (hR : ∀ x y, R x y → R' x y) : LR R' xs ys := ⟨h.1, fun j x y a b => hR x y (h.2 j x y a b)⟩
theorem LR.set {xs : List PV} {ys : List AV} (h : LR R xs ys) {x : PV} {y : AV} (hx : R x y) (n : Nat) : LR R (xs.set n x) (ys.set n y) :=
  ⟨by simp [h.1], fun j a b ha hb => by
    rw [List.getElem?_set] at ha hb
    split at ha
    · rename_i e; subst e
      rw [if_pos rfl] at hb
      split at ha
      · split at hb
        · cases ha; cases hb; exact hx
        · cases hb
      · cases ha
    · rename_i e
      rw [if_neg e] at hb
      exact h.2 j a b ha hb⟩
theorem LR.setL {xs xs' : List PV} {ys ys' : List AV} (h : LR R xs ys) (h' : LR R xs' ys') (o : Nat) : LR R (Sim.setL xs o xs') (Sim.setL ys o ys') := by
  induction xs' generalizing xs ys ys' o with
  | nil => rw [h'.inv_nil]; exact h
  | cons a as ih =>
    obtain ⟨y, ys1, rfl, h1, h2⟩ := h'.inv_cons
    exact ih (h.set h1 o) h2 (o + 1)
end
def RR (rows : List (List PV)) (rows' : List (List AV)) : Prop :=
  rows.length = rows'.length ∧ ∀ (i : Nat) (r : List PV) (r' : List AV), rows[i]? = some r → rows'[i]? = some r' → LR (RC true) r r'
theorem RR.is {p : Bool} {e : Nat} {rows : List (List PV)} {rows' : List (List AV)} (h : RR rows rows') : RC p (.is e rows) (.is e rows') :=
  .is h.1 (fun i r r' a b => (h.2 i r r' a b).1) (fun i r r' j x y a b c d => (h.2 i r r' a b).2 j x y c d)
theorem RR.of_is {rows : List (List PV)} {rows' : List (List AV)} (hl : rows.length = rows'.length)
      (hr : ∀ (i : Nat) (r : List PV) (r' : List AV), rows[i]? = some r → rows'[i]? = some r' → r.length = r'.length)
      (hc : ∀ (i : Nat) (r : List PV) (r' : List AV) (j : Nat) (x : PV) (y : AV), rows[i]? = some r → rows'[i]? = some r' → r[j]? = some x → r'[j]? = some y → RC true x y) : RR rows rows' :=
  ⟨hl, fun i r r' a b => ⟨hr i r r' a b, fun j x y c d => hc i r r' j x y a b c d⟩⟩
theorem RR.nil : RR [] [] := ⟨rfl, fun i r r' h => by simp at h⟩
theorem RR.cons {r : List PV} {r' : List AV} {rows : List (List PV)} {rows' : List (List AV)} (h : LR (RC true) r r') (ht : RR rows rows') : RR (r :: rows) (r' :: rows') :=
  ⟨by simp [ht.1], fun j a b ha hb => by
    cases j with
    | zero => simp at ha hb; subst ha hb; exact h
    | succ j => simp at ha hb; exact ht.2 j a b ha hb⟩
theorem RR.get {rows : List (List PV)} {rows' : List (List AV)} (h : RR rows rows') {i : Nat} {r : List PV} (hr : rows[i]? = some r) : ∃ r', rows'[i]? = some r' ∧ LR (RC true) r r' := by
  have hlt : i < rows'.length := by rw [← h.1]; exact (List.getElem?_eq_some_iff.1 hr).1
  exact ⟨rows'[i], by simp [hlt], h.2 i r _ hr (by simp [hlt])⟩
theorem RR.append {a b : List (List PV)} {a' b' : List (List AV)} (h : RR a a') (k : RR b b') : RR (a ++ b) (a' ++ b') :=
  ⟨by simp [h.1, k.1], fun i r r' h1 h2 => by
    rw [List.getElem?_append] at h1 h2
    rw [← h.1] at h2
    split at h1
    · rename_i hi; rw [if_pos hi] at h2; exact h.2 i r r' h1 h2
    · rename_i hi; rw [if_neg hi] at h2; exact k.2 _ r r' h1 h2⟩
theorem RR.take {a : List (List PV)} {a' : List (List AV)} (h : RR a a') (n : Nat) : RR (a.take n) (a'.take n) :=
  ⟨by simp [h.1], fun j x y hx hy => by
    rw [List.getElem?_take] at hx hy
    split at hx
    · rename_i hj; rw [if_pos hj] at hy; exact h.2 j x y hx hy
    · cases hx⟩
theorem RR.drop {a : List (List PV)} {a' : List (List AV)} (h : RR a a') (n : Nat) : RR (a.drop n) (a'.drop n) :=
  ⟨by simp [h.1], fun j x y hx hy => by
    rw [List.getElem?_drop] at hx hy
    exact h.2 _ x y hx hy⟩
theorem RR.set {a : List (List PV)} {a' : List (List AV)} (h : RR a a') {x : List PV} {y : List AV} (hx : LR (RC true) x y) (n : Nat) : RR (a.set n x) (a'.set n y) :=
  ⟨by simp [h.1], fun j p q ha hb => by
    rw [List.getElem?_set] at ha hb
    split at ha
    · rename_i e; subst e
      rw [if_pos rfl] at hb
      split at ha
      · split at hb
        · cases ha; cases hb; exact hx
        · cases hb
      · cases ha
    · rename_i e
      rw [if_neg e] at hb
      exact h.2 j p q ha hb⟩
theorem RR.replicate {r : List PV} {r' : List AV} (h : LR (RC true) r r') (n : Nat) : RR (List.replicate n r) (List.replicate n r') :=
  ⟨by simp, fun i x y hx hy => by
    simp only [List.getElem?_replicate] at hx hy
    split at hx
    · rename_i hi; rw [if_pos hi] at hy; cases hx; cases hy; exact h
    · cases hx⟩
def ER (es : List (PV × PV)) (es' : List (AV × AV)) : Prop :=
  es.length = es'.length ∧ ∀ (j : Nat) (x : PV × PV) (y : AV × AV), es[j]? = some x → es'[j]? = some y → RC false x.1 y.1 ∧ RC false x.2 y.2
theorem ER.im {es : List (PV × PV)} {es' : List (AV × AV)} (h : ER es es') : RC false (.im es) (.im es') := .im h.1 (fun j x y a b => (h.2 j x y a b).1) (fun j x y a b => (h.2 j x y a b).2)
def RK (x : PV) (y : AV) : Prop := RC true x y ∨ ∃ cs cs', x = .agg cs ∧ y = .agg cs' ∧ LR (RC true) cs cs'
theorem RK.rc {x : PV} {y : AV} (h : RK x y) : RC false x y := by
  rcases h with h | ⟨cs, cs', rfl, rfl, h⟩
  · exact h.weak
  · exact .agg h.1 fun j x y a b => (h.2 j x y a b).weak
def EM (es : List (PV × PV)) (es' : List (AV × AV)) : Prop :=
  es.length = es'.length ∧ ∀ (j : Nat) (x : PV × PV) (y : AV × AV), es[j]? = some x → es'[j]? = some y → RK x.1 y.1 ∧ RK x.2 y.2
theorem EM.er {es : List (PV × PV)} {es' : List (AV × AV)} (h : EM es es') : ER es es' := ⟨h.1, fun j x y a b => ⟨(h.2 j x y a b).1.rc, (h.2 j x y a b).2.rc⟩⟩
def eget : Env → Nat → Option PV
  | [], _ => none
  | (j, v) :: r, i => if j = i then some v else eget r i
def hget : Heap → Nat → Option PObj
  | [], _ => none
  | (j, v) :: r, i => if j = i then some v else hget r i
def ObjR (C : Cx) (L : Nat → Option AO) (lim nS : Nat) : PObj → Pl → Prop
  | .box cells, .atp id ver _ _ => lim ≤ id ∧ id < nS ∧ ∃ ty esz row, L id = some (.arr true ty esz ver [row]) ∧ LR (RV C) cells row
  | .lst _ e _ rows, .nil => rows = []
  | .lst ty e g rows, .atp id ver e' len => lim ≤ id ∧ id < nS ∧ e' = e ∧ len = rows.length ∧ ∃ els, L id = some (.arr false ty e ver els) ∧ RR rows (els.take rows.length) ∧ rows.length ≤ els.length ∧ (g = false → els.length = rows.length)
  | .mp es, .atp id _ _ _ => lim ≤ id ∧ id < nS ∧ ∃ es', L id = some (.map es') ∧ EM es es'
  | _, _ => False
structure HR (C : Cx) (h : Heap) (L : Nat → Option AO) (lim nS : Nat) : Prop where
  ob : ∀ k po, hget h k = some po → ∃ pl, C k = some pl ∧ ObjR C L lim nS po pl
  inj : ∀ k k' id v e l v' e' l', hget h k ≠ none → hget h k' ≠ none → C k = some (.atp id v e l) → C k' = some (.atp id v' e' l') → k = k'
def Own (C : Cx) (h : Heap) (id : Nat) : Prop := ∃ k v e l, hget h k ≠ none ∧ C k = some (.atp id v e l)
def SameSk : List Ent → List Ent → Prop
  | [], [] => True
  | .mark :: a, .mark :: b => SameSk a b
  | .ob i _ :: a, .ob j _ :: b => i = j ∧ SameSk a b
  | _, _ => False
def Sk (h h' : List Ent) (n : Nat) : Prop := ∃ pre r, h' = pre ++ r ∧ SameSk r h ∧ ∀ e ∈ pre, ∃ i o, e = .ob i o ∧ n ≤ i
theorem SameSk.refl : ∀ h, SameSk h h
  | [] => trivial
  | .mark :: a => SameSk.refl a
  | .ob _ _ :: a => ⟨rfl, SameSk.refl a⟩
theorem SameSk.trans : ∀ {a b c : List Ent}, SameSk a b → SameSk b c → SameSk a c
  | [], [], [], _, _ => trivial
  | .mark :: a, .mark :: b, .mark :: c, h, k => SameSk.trans (a := a) h k
  | .ob _ _ :: a, .ob _ _ :: b, .ob _ _ :: c, h, k => ⟨h.1.trans k.1, SameSk.trans h.2 k.2⟩
theorem SameSk.upd : ∀ (h : List Ent) (id : Nat) (o : AO), SameSk (upd h id o) h
  | [], _, _ => trivial
  | .mark :: a, id, o => SameSk.upd a id o
  | .ob i o' :: a, id, o => by
    simp only [Sim.upd]
    split
    · exact ⟨rfl, .refl a⟩
    · exact ⟨rfl, SameSk.upd a id o⟩
theorem SameSk.split : ∀ {x pre r : List Ent}, SameSk x (pre ++ r) → ∃ p q, x = p ++ q ∧ SameSk p pre ∧ SameSk q r
  | x, [], r, h => ⟨[], x, rfl, trivial, h⟩
  | .mark :: x, .mark :: pre, r, h => by
    obtain ⟨p, q, rfl, h1, h2⟩ := SameSk.split (x := x) (pre := pre) (r := r) h
    exact ⟨.mark :: p, q, rfl, h1, h2⟩
  | .ob i o :: x, .ob j o' :: pre, r, h => by
    obtain ⟨p, q, rfl, h1, h2⟩ := SameSk.split (x := x) (pre := pre) (r := r) h.2
    exact ⟨.ob i o :: p, q, rfl, ⟨h.1, h1⟩, h2⟩
  | [], .mark :: _, _, h => h.elim
  | [], .ob _ _ :: _, _, h => h.elim
  | .mark :: _, .ob _ _ :: _, _, h => h.elim
  | .ob _ _ :: _, .mark :: _, _, h => h.elim
theorem SameSk.obs {n : Nat} : ∀ {p pre : List Ent}, SameSk p pre → (∀ e ∈ pre, ∃ i o, e = .ob i o ∧ n ≤ i) → ∀ e ∈ p, ∃ i o, e = .ob i o ∧ n ≤ i
  | [], [], _, _, e, he => by simp at he
  | .mark :: p, .mark :: pre, h, hp, e, he => by
    obtain ⟨i, o, k, _⟩ := hp .mark (by simp)
    cases k
  | .ob i o :: p, .ob j o' :: pre, h, hp, e, he => by
    rcases List.mem_cons.1 he with rfl | he
    · obtain ⟨i', o'', k, hk⟩ := hp (.ob j o') (by simp)
      cases k
      exact ⟨i, o, rfl, by rw [h.1]; exact hk⟩
    · exact SameSk.obs h.2 (fun e he => hp e (by simp [he])) e he
theorem Sk.refl (h : List Ent) (n : Nat) : Sk h h n := ⟨[], h, rfl, .refl h, fun e he => by simp at he⟩
theorem Sk.trans {a b c : List Ent} {n m : Nat} (h : Sk a b n) (k : Sk b c m) (hn : n ≤ m) : Sk a c n := by
  obtain ⟨p, r, rfl, h1, h2⟩ := h
  obtain ⟨q, r', rfl, k1, k2⟩ := k
  obtain ⟨x, y, rfl, e1, e2⟩ := k1.split
  refine ⟨q ++ x, y, by simp, e2.trans h1, fun e he => ?_⟩
  rcases List.mem_append.1 he with he | he
  · obtain ⟨i, o, rfl, hi⟩ := k2 e he
    exact ⟨i, o, rfl, by omega⟩
  · exact e1.obs h2 e he
theorem Sk.upd (h : List Ent) (id : Nat) (o : AO) (n : Nat) : Sk h (upd h id o) n := ⟨[], _, rfl, .upd h id o, fun e he => by simp at he⟩
theorem Sk.new (h : List Ent) (o : AO) (n : Nat) : Sk h (.ob n o :: h) n := ⟨[.ob n o], h, rfl, .refl h, fun e he => by simp at he; exact ⟨n, o, he, Nat.le_refl _⟩⟩
theorem look_pre {n : Nat} : ∀ {pre r : List Ent} {id : Nat}, (∀ e ∈ pre, ∃ i o, e = .ob i o ∧ n ≤ i) → id < n → Sim.look (pre ++ r) id = Sim.look r id
  | [], r, id, _, _ => rfl
  | e :: pre, r, id, h, hid => by
    obtain ⟨i, o, rfl, hi⟩ := h e (by simp)
    simp only [List.cons_append, Sim.look]
    rw [if_neg (by omega)]
    exact look_pre (fun e he => h e (by simp [he])) hid
theorem pop_pre {n : Nat} : ∀ {pre r : List Ent}, (∀ e ∈ pre, ∃ i o, e = .ob i o ∧ n ≤ i) → ∃ pre', Sim.popMark (pre ++ .mark :: r) = pre' ++ r ∧ ∀ e ∈ pre', ∃ i o, e = .ob i o ∧ n ≤ i
  | [], r, _ => ⟨[], rfl, fun e he => by simp at he⟩
  | e :: pre, r, h => by
    obtain ⟨i, o, rfl, hi⟩ := h e (by simp)
    obtain ⟨pre', h1, h2⟩ := pop_pre (r := r) (fun e he => h e (List.mem_cons_of_mem _ he))
    have keep : ∃ pre'', Ent.ob i o :: Sim.popMark (pre ++ .mark :: r) = pre'' ++ r ∧ ∀ e ∈ pre'', ∃ i o, e = .ob i o ∧ n ≤ i :=
      ⟨.ob i o :: pre', by rw [h1]; rfl, fun e he => by
        rcases List.mem_cons.1 he with rfl | he
        · exact ⟨i, o, rfl, hi⟩
        · exact h2 e he⟩
    simp only [List.cons_append, Sim.popMark]
    split
    · exact ⟨pre', h1, h2⟩
    · exact keep
theorem Sk.pop {h h' : List Ent} {n : Nat} (hs : Sk (.mark :: h) h' n) : Sk h (Sim.popMark h') n ∧ ∀ id, id < n → Sim.look (Sim.popMark h') id = Sim.look h' id := by
  obtain ⟨pre, r, rfl, h1, h2⟩ := hs
  match r, h1 with
  | .mark :: r, h1 =>
    obtain ⟨pre', k1, k2⟩ := pop_pre (r := r) h2
    rw [k1]
    refine ⟨⟨pre', r, rfl, h1, k2⟩, fun id hid => ?_⟩
    rw [look_pre k2 hid, look_pre h2 hid]
    rfl
end Go.P
set_option linter.unusedVariables false
set_option linter.unusedSimpArgs false
namespace Go.P
open Go.Sim (AV AO Hp Ent upd St IC IX Ex OpK CK Wf)
section
variable {R : Type}
theorem fValue_eq (x : Value) (K : Value → Option R) : fValue x K = K x := by cases x <;> rfl
theorem fPV_eq (x : PV) (K : PV → Option R) : fPV x K = K x := by
  cases x <;> simp [fPV, fValue_eq]
theorem fPVs_eq : ∀ (xs : List PV) (K : List PV → Option R), fPVs xs K = K xs
  | [], K => rfl
  | x :: xs, K => by simp [fPVs, fPV_eq, fPVs_eq xs]
theorem fT_eq : ∀ (xs : List PV) (K : List PV → Option R), fV.fT xs K = K xs
  | [], K => rfl
  | x :: xs, K => by
    have ih := fun K => fT_eq xs (K : List PV → Option R)
    cases x <;> simp [fV.fT, fPV_eq, fPVs_eq, ih]
theorem fV_eq (x : PV) (K : PV → Option R) : fV x K = K x := by
  cases x <;> simp [fV, fValue_eq, fPVs_eq, fT_eq]
theorem beq_iff {a b : Nat} : Nat.beq a b = decide (a = b) := by
  rw [Bool.eq_iff_iff]; simp [Nat.beq_eq]
theorem getK_eq : ∀ (e : Env) (i : Nat) (K : PV → Option R), getK e i K = (eget e i).bind K
  | [], _, _ => rfl
  | (j, v) :: r, i, K => by
    simp only [getK, eget, beq_iff]
    by_cases h : j = i <;> simp [h, getK_eq r i K]
theorem mem_eq : ∀ (i : Nat) (js : List Nat), mem i js = js.contains i
  | _, [] => rfl
  | i, j :: js => by
    simp only [mem, beq_iff, List.contains_cons, mem_eq i js]
    by_cases h : i = j <;> simp [h]
def edel : Env → List Nat → Env
  | [], _ => []
  | (j, v) :: r, is => if j ∈ is then edel r is else (j, v) :: edel r is
theorem delK_eq : ∀ (e : Env) (is : List Nat) (K : Env → Option R), delK e is K = K (edel e is)
  | [], _, _ => rfl
  | (j, v) :: r, is, K => by
    simp only [delK, mem_eq, edel]
    by_cases h : j ∈ is
    · simp [h, delK_eq r is K]
    · simp [h, delK_eq r is]
theorem eget_edel : ∀ (e : Env) (is : List Nat) (i : Nat), eget (edel e is) i = if i ∈ is then none else eget e i
  | [], is, i => by simp [edel, eget]
  | (j, v) :: r, is, i => by
    have ih := eget_edel r is i
    simp only [edel]
    by_cases h : j ∈ is
    · rw [if_pos h, ih]
      by_cases h2 : j = i
      · subst h2; simp [h]
      · simp [eget, h2]
    · rw [if_neg h]
      by_cases h2 : j = i
      · subst h2; simp [eget, h]
      · simp only [eget, if_neg h2, ih]
def evs (e : Env) : List PX → Option (List PV)
  | [] => some []
  | .t i :: xs => (eget e i).bind fun v => (evs e xs).bind fun vs => some (v :: vs)
  | .c x :: xs => (evs e xs).bind fun vs => some (x :: vs)
theorem evsK_eq (e : Env) : ∀ (xs : List PX) (K : List PV → Option R), evsK e xs K = (evs e xs).bind K
  | [], K => rfl
  | .t i :: xs, K => by
    simp only [evsK, getK_eq, evs, Option.bind_assoc]
    congr 1
    funext v
    rw [evsK_eq e xs]
    simp [Option.bind_assoc]
  | .c x :: xs, K => by
    simp only [evsK, evs, Option.bind_assoc]
    rw [evsK_eq e xs]
    simp [Option.bind_assoc]
theorem takeK_some : ∀ (n : Nat) (l : List PV) (K : List PV → Option R) (r : R), takeK n l K = some r → n ≤ l.length ∧ K (l.take n) = some r
  | 0, l, K, r, h => ⟨Nat.zero_le _, by simpa [takeK] using h⟩
  | n + 1, [], K, r, h => by simp [takeK] at h
  | n + 1, a :: as, K, r, h => by
    simp only [takeK] at h
    obtain ⟨h1, h2⟩ := takeK_some n as _ r h
    exact ⟨by simp; omega, by simpa using h2⟩
theorem dropK_some : ∀ (n : Nat) (l : List PV) (K : List PV → Option R) (r : R), dropK n l K = some r → n ≤ l.length ∧ K (l.drop n) = some r
  | 0, l, K, r, h => ⟨Nat.zero_le _, by simpa [dropK] using h⟩
  | n + 1, [], K, r, h => by simp [dropK] at h
  | n + 1, a :: as, K, r, h => by
    simp only [dropK] at h
    obtain ⟨h1, h2⟩ := dropK_some n as _ r h
    exact ⟨by simp; omega, by simpa using h2⟩
theorem setL_cons {α : Type} (a : α) : ∀ (cs as : List α) (n : Nat), Sim.setL (a :: as) (n + 1) cs = a :: Sim.setL as n cs
  | [], as, n => rfl
  | c :: cs, as, n => by simp only [Sim.setL, List.set_cons_succ]; exact setL_cons a cs _ _
theorem setK_some : ∀ (l : List PV) (o : Nat) (cs : List PV) (K : List PV → Option R) (r : R), setK l o cs K = some r → o + cs.length ≤ l.length ∧ K (Sim.setL l o cs) = some r
  | l, 0, [], K, r, h => ⟨by simp, by simpa [setK, Sim.setL] using h⟩
  | [], 0, c :: cs, K, r, h => by simp [setK] at h
  | [], n + 1, cs, K, r, h => by simp [setK] at h
  | a :: as, 0, c :: cs, K, r, h => by
    simp only [setK] at h
    obtain ⟨h1, h2⟩ := setK_some as 0 cs _ r h
    refine ⟨by simp; omega, ?_⟩
    simp only [Sim.setL, List.set_cons_zero]
    rw [setL_cons]
    exact h2
  | a :: as, n + 1, cs, K, r, h => by
    simp only [setK] at h
    obtain ⟨h1, h2⟩ := setK_some as n cs _ r h
    exact ⟨by simp; omega, by rw [setL_cons]; exact h2⟩
theorem hK_eq : ∀ (h : Heap) (k : Nat) (K : PObj → Option R), hK h k K = (hget h k).bind K
  | [], _, _ => rfl
  | (j, v) :: r, i, K => by
    simp only [hK, hget, beq_iff]
    by_cases h : j = i <;> simp [h, hK_eq r i K]
def hset : Heap → Nat → PObj → Heap
  | [], _, _ => []
  | (j, v) :: r, i, o => if j = i then (j, o) :: r else (j, v) :: hset r i o
theorem hsetK_some : ∀ (h : Heap) (k : Nat) (o : PObj) (K : Heap → Option R) (r : R), hsetK h k o K = some r → K (hset h k o) = some r
  | [], _, _, _, _, h => by simp [hsetK] at h
  | (j, v) :: t, i, o, K, r, h => by
    simp only [hsetK, beq_iff] at h
    by_cases e : j = i
    · simp only [e, decide_true, cond_true] at h
      simp only [hset, e, if_true]; exact h
    · simp only [e, decide_false, cond_false] at h
      simp only [hset, if_neg e]
      exact hsetK_some t i o _ r h
theorem hget_hset : ∀ (h : Heap) (k : Nat) (o : PObj) (j : Nat), hget (hset h k o) j = if j = k ∧ (hget h k).isSome then some o else hget h j
  | [], k, o, j => by simp [hset, hget]
  | (i, v) :: r, k, o, j => by
    have ih := hget_hset r k o j
    by_cases h1 : i = k
    · subst h1
      simp only [hset, if_true, hget]
      by_cases h2 : i = j
      · subst h2; simp
      · have h3 : ¬ j = i := fun e => h2 e.symm
        simp [h2, h3]
    · simp only [hset, if_neg h1, hget]
      by_cases h2 : i = j
      · subst h2; simp [h1]
      · simp only [if_neg h2]
        exact ih
def cellsD : PV → Option (List PV)
  | .agg cs => some cs
  | .tup _ => none
  | .undef => none
  | x => some [x]
theorem cellsK_eq (x : PV) (K : List PV → Option R) : cellsK x K = (cellsD x).bind K := by cases x <;> rfl
theorem cells_rv {C : Cx} {x : PV} {y : AV} {cs : List PV} (h : RV C x y) (hc : cellsD x = some cs) : ∃ cs', y.cells = some cs' ∧ LR (RV C) cs cs' := by
  have one : ∀ {z : PV} {w : AV}, RV C z w → (∀ l, w ≠ .agg l) → (∀ l, w ≠ .tup l) → cs = [z] → ∃ cs', w.cells = some cs' ∧ LR (RV C) cs cs' := by
    intro z w hz h1 h2 e
    subst e
    refine ⟨[w], ?_, .cons hz .nil⟩
    cases w <;> simp_all [AV.cells]
  cases h with
  | cl h =>
    cases h with
    | agg hl hc' => simp [cellsD] at hc; subst hc; exact ⟨_, rfl, hl, fun j x y a b => .cl (hc' j x y a b)⟩
    | tup hl hc' => simp [cellsD] at hc
    | v x => exact one (.cl (.v x)) (by intro l e; cases e) (by intro l e; cases e) (by simpa [cellsD] using hc.symm)
    | is a b c => exact one (.cl (.is a b c)) (by intro l e; cases e) (by intro l e; cases e) (by simpa [cellsD] using hc.symm)
    | isn => exact one (.cl .isn) (by intro l e; cases e) (by intro l e; cases e) (by simpa [cellsD] using hc.symm)
    | ise => exact one (.cl .ise) (by intro l e; cases e) (by intro l e; cases e) (by simpa [cellsD] using hc.symm)
    | ip a b => exact one (.cl (.ip a b)) (by intro l e; cases e) (by intro l e; cases e) (by simpa [cellsD] using hc.symm)
    | im a b c => exact one (.cl (.im a b c)) (by intro l e; cases e) (by intro l e; cases e) (by simpa [cellsD] using hc.symm)
    | fn a b c d => exact one (.cl (.fn a b c d)) (by intro l e; cases e) (by intro l e; cases e) (by simpa [cellsD] using hc.symm)
  | undef => simp [cellsD] at hc
  | agg hl hc' => simp [cellsD] at hc; subst hc; exact ⟨_, rfl, hl, hc'⟩
  | tup hl hc' => simp [cellsD] at hc
  | ref h => exact one (.ref h) (by intro l e; cases e) (by intro l e; cases e) (by simpa [cellsD] using hc.symm)
  | own h => exact one (.own h) (by intro l e; cases e) (by intro l e; cases e) (by simpa [cellsD] using hc.symm)
  | ownn h hy => rcases hy with rfl | rfl <;> exact one (.ownn h (by simp)) (by intro l e; cases e) (by intro l e; cases e) (by simpa [cellsD] using hc.symm)
  | el h => exact one (.el h) (by intro l e; cases e) (by intro l e; cases e) (by simpa [cellsD] using hc.symm)
  | map h => exact one (.map h) (by intro l e; cases e) (by intro l e; cases e) (by simpa [cellsD] using hc.symm)
  | fn a b c d => exact one (.fn a b c d) (by intro l e; cases e) (by intro l e; cases e) (by simpa [cellsD] using hc.symm)
theorem kEq_iff (a b : IntKind) : kEq a b = decide (a = b) := by cases a <;> cases b <;> rfl
theorem LR.zero {C : Cx} (zero : List Value) : LR (RV C) (zero.map .v) (Sim.zeroRow zero) := by
  unfold Sim.zeroRow
  induction zero with
  | nil => exact .nil
  | cons a as ih => exact .cons (.cl (.v a)) ih
theorem LR.zeroP (zero : List Value) : LR (RC true) (zero.map .v) (Sim.zeroRow zero) := by
  unfold Sim.zeroRow
  induction zero with
  | nil => exact .nil
  | cons a as ih => exact .cons (.v a) ih
def plainL (xs : List PV) : Bool := xs.all plainP
theorem RV.plain {C : Cx} {x : PV} {y : AV} (h : RV C x y) (hp : plainP x = true) : RC true x y := by
  cases h with
  | cl h => exact h.plain hp
  | _ => simp [plainP] at hp
theorem LR.plain {C : Cx} {xs : List PV} {ys : List AV} (h : LR (RV C) xs ys) (hp : xs.all plainP = true) : LR (RC true) xs ys :=
  ⟨h.1, fun j x y a b => (h.2 j x y a b).plain (List.all_eq_true.1 hp x (List.mem_of_getElem? a))⟩
theorem rowsOfK_some (e : Nat) : ∀ (xs : List PV) (K : List (List PV) → Option R) (r : R), rowsOfK e xs K = some r → ∃ rows, K rows = some r ∧ rows.length = xs.length ∧
    ∀ (i : Nat) (x : PV), xs[i]? = some x → ∃ cs, cellsD x = some cs ∧ cs.length = e ∧ cs.all plainP = true ∧ rows[i]? = some cs
  | [], K, r, h => ⟨[], h, rfl, fun i x hx => by simp at hx⟩
  | x :: xs, K, r, h => by
    simp only [rowsOfK, cellsK_eq, Option.bind_eq_some_iff] at h
    obtain ⟨cs, hcs, h⟩ := h
    by_cases hc : (Nat.beq cs.length e && cs.all plainP) = true
    · rw [hc, cond_true] at h
      simp only [Bool.and_eq_true, beq_iff, decide_eq_true_eq] at hc
      obtain ⟨rows, h1, h2, h3⟩ := rowsOfK_some e xs _ r h
      refine ⟨cs :: rows, h1, by simp [h2], fun i y hy => ?_⟩
      cases i with
      | zero => simp at hy; subst hy; exact ⟨cs, hcs, hc.1, hc.2, rfl⟩
      | succ i => simp at hy; obtain ⟨c, k1, k2, k3, k4⟩ := h3 i y hy; exact ⟨c, k1, k2, k3, by simpa using k4⟩
    · simp only [Bool.not_eq_true] at hc
      rw [hc] at h
      simp at h
theorem upTo_spec : ∀ (i : Nat) (js : List Nat), upTo i js = true → js = List.range' i js.length
  | _, [], _ => rfl
  | i, j :: js, h => by
    simp only [upTo, beq_iff] at h
    by_cases e : i = j
    · simp only [e, decide_true, cond_true] at h
      subst e
      rw [List.length_cons, List.range'_succ]
      congr 1
      exact upTo_spec _ js h
    · simp [e] at h
end
end Go.P
set_option linter.unusedVariables false
set_option linter.unusedSimpArgs false
namespace Go.P
open Go.Sim (AV AO Hp Ent upd St IC IX Ex OpK CK Wf Out doOp)
structure Mem (C : Cx) (n : Nat) (h : Heap) (lim : Nat) (s : Hp) : Prop where
  hr : HR C h (Sim.look s.h) lim s.n
  dom : ∀ k pl, C k = some pl → k < n
  wf : Wf s.h s.n
  lim : lim ≤ s.n
def isBox : PObj → Bool
  | .box _ => true
  | _ => false
structure Fr (C : Cx) (h : Heap) (s : Hp) (C' : Cx) (h' : Heap) (s' : Hp) : Prop where
  sk : Sk s.h s'.h s.n
  n : s.n ≤ s'.n
  keep : ∀ id, id < s.n → ¬ Own C h id → Sim.look s'.h id = Sim.look s.h id
  own : ∀ id, id < s.n → Own C' h' id → Own C h id
  kd : ∀ k o, hget h k = some o → ∃ o', hget h' k = some o' ∧ (isBox o' = true → isBox o = true ∧ C' k = C k)
theorem Fr.refl (C : Cx) (h : Heap) (s : Hp) : Fr C h s C h s := ⟨.refl _ _, Nat.le_refl _, fun _ _ _ => rfl, fun _ _ h => h, fun k o h => ⟨o, h, fun hb => ⟨hb, rfl⟩⟩⟩
theorem Fr.trans {C C' C'' : Cx} {h h' h'' : Heap} {s s' s'' : Hp} (a : Fr C h s C' h' s') (b : Fr C' h' s' C'' h'' s'') : Fr C h s C'' h'' s'' :=
  ⟨a.sk.trans b.sk a.n, Nat.le_trans a.n b.n, fun id hid hn => by
    rw [b.keep id (Nat.lt_of_lt_of_le hid a.n) (fun ho => hn (a.own id hid ho)), a.keep id hid hn],
   fun id hid ho => a.own id hid (b.own id (Nat.lt_of_lt_of_le hid a.n) ho),
   fun k o hk => by
    obtain ⟨o', h1, h2⟩ := a.kd k o hk
    obtain ⟨o'', h3, h4⟩ := b.kd k o' h1
    exact ⟨o'', h3, fun hb => ⟨(h2 (h4 hb).1).1, (h4 hb).2.trans (h2 (h4 hb).1).2⟩⟩⟩
def StepR {R : Type} (C : Cx) (n : Nat) (h : Heap) (lim : Nat) (s : Hp) (k : OpK) (ys : List AV) (K : PV → Heap → Nat → Option R) (r : R) : Prop :=
  ∃ v h' n' C' out, K v h' n' = some r ∧ doOp (Sim.look s.h) lim s.n k ys = some out ∧ RV C' v out.v ∧ Mem C' n' h' lim (out.apply s) ∧
    (∀ k pl, C k = some pl → C' k = some pl) ∧ n ≤ n' ∧ Fr C h s C' h' (out.apply s) ∧ (isSto k = false → ∀ id, id < s.n → Sim.look (out.apply s).h id = Sim.look s.h id)
section
variable {R : Type} {C : Cx} {n : Nat} {h : Heap} {lim : Nat} {s : Hp} {k : OpK} {ys : List AV} {K : PV → Heap → Nat → Option R} {r : R}
theorem pureStep (hM : Mem C n h lim s) {v : PV} {y : AV} (hd : doOp (Sim.look s.h) lim s.n k ys = some { v := y }) (hv : RV C v y) (hK : K v h n = some r) : StepR C n h lim s k ys K r :=
  ⟨v, h, n, C, _, hK, hd, hv, hM, fun _ _ h => h, Nat.le_refl _, .refl _ _ _, fun _ _ _ => rfl⟩
theorem look_new {h : List Ent} {n : Nat} {o : AO} {id : Nat} : Sim.look (.ob n o :: h) id = if n = id then some o else Sim.look h id := rfl
def ext (C : Cx) (n : Nat) (pl : Pl) : Cx := fun k => if k = n then some pl else C k
theorem ext_le (hM : Mem C n h lim s) (pl : Pl) : ∀ k q, C k = some q → ext C n pl k = some q := fun k q hk => by
  have := hM.dom k q hk
  simp only [ext]
  rw [if_neg (by omega)]
  exact hk
theorem ObjR.mono {C' : Cx} {L L' : Nat → Option AO} {nS nS' : Nat} {po : PObj} {pl : Pl} (hn : nS ≤ nS') (hC : ∀ k q, C k = some q → C' k = some q) (hL : ∀ id ver e len, pl = .atp id ver e len → L' id = L id) (ho : ObjR C L lim nS po pl) : ObjR C' L' lim nS' po pl := by
  cases po with
  | box cells =>
    cases pl with
    | nil => exact ho
    | atp id ver e len =>
      obtain ⟨h1, h2, ty, esz, row, h3, h4⟩ := ho
      exact ⟨h1, by omega, ty, esz, row, by rw [hL id ver e len rfl]; exact h3, h4.mono (fun x y hv => hv.mono hC)⟩
  | lst ty e g rows =>
    cases pl with
    | nil => exact ho
    | atp id ver e' len =>
      obtain ⟨h1, h2, h3, h4, els, h5, h6⟩ := ho
      exact ⟨h1, by omega, h3, h4, els, by rw [hL id ver e' len rfl]; exact h5, h6⟩
  | mp es =>
    cases pl with
    | nil => exact ho
    | atp id ver e len =>
      obtain ⟨h1, h2, es', h3, h4⟩ := ho
      exact ⟨h1, by omega, es', by rw [hL id ver e len rfl]; exact h3, h4⟩
theorem ObjR.lt {L : Nat → Option AO} {nS id ver e len : Nat} {po : PObj} (ho : ObjR C L lim nS po (.atp id ver e len)) : lim ≤ id ∧ id < nS := by
  cases po with
  | box cells => exact ⟨ho.1, ho.2.1⟩
  | lst ty e g rows => exact ⟨ho.1, ho.2.1⟩
  | mp es => exact ⟨ho.1, ho.2.1⟩
theorem HR.lt {L : Nat → Option AO} {nS : Nat} (H : HR C h L lim nS) {k id ver e len : Nat} (hk : hget h k ≠ none) (hC : C k = some (.atp id ver e len)) : lim ≤ id ∧ id < nS := by
  cases ho : hget h k with
  | none => exact absurd ho hk
  | some po =>
    obtain ⟨pl, h1, h2⟩ := H.ob k po ho
    rw [hC] at h1
    cases h1
    exact h2.lt
theorem dom_none (hM : Mem C n h lim s) {k : Nat} (hk : n ≤ k) : C k = none := by
  cases hc : C k with
  | none => rfl
  | some pl => have := hM.dom k pl hc; omega
theorem hget_none (hM : Mem C n h lim s) {k : Nat} (hk : n ≤ k) : hget h k = none := by
  cases hc : hget h k with
  | none => rfl
  | some po =>
    obtain ⟨pl, h1, _⟩ := hM.hr.ob k po hc
    have := hM.dom k pl h1
    omega
theorem newKd (hM : Mem C n h lim s) {po : PObj} {pl : Pl} : ∀ k o, hget h k = some o → ∃ o', hget ((n, po) :: h) k = some o' ∧ (isBox o' = true → isBox o = true ∧ ext C n pl k = C k) := fun k o hk => by
  have hne : n ≠ k := fun e => by rw [hget_none hM (by omega)] at hk; cases hk
  exact ⟨o, by simp [hget, hne, hk], fun hb => ⟨hb, by simp [ext, Ne.symm hne]⟩⟩
theorem newMem (hM : Mem C n h lim s) {po : PObj} {ao : AO} {ver e len : Nat} (ho : ObjR (ext C n (.atp s.n ver e len)) (Sim.look (.ob s.n ao :: s.h)) lim (s.n + 1) po (.atp s.n ver e len)) :
    Mem (ext C n (.atp s.n ver e len)) (n + 1) ((n, po) :: h) lim { h := .ob s.n ao :: s.h, n := s.n + 1 } ∧ Fr C h s (ext C n (.atp s.n ver e len)) ((n, po) :: h) { h := .ob s.n ao :: s.h, n := s.n + 1 } ∧
    ∀ id, id < s.n → Sim.look (.ob s.n ao :: s.h) id = Sim.look s.h id := by
  have hle := ext_le hM (.atp s.n ver e len)
  have hlook : ∀ id, id < s.n → Sim.look (.ob s.n ao :: s.h) id = Sim.look s.h id := fun id hid => by
    rw [look_new, if_neg (by omega)]
  have hgn : ∀ k, hget ((n, po) :: h) k ≠ none → k ≠ n → hget h k ≠ none := fun k hk hne => by
    simpa [hget, Ne.symm hne] using hk
  have hCn : ∀ k q, k ≠ n → ext C n (.atp s.n ver e len) k = some q → C k = some q := fun k q hne hk => by
    simpa [ext, hne] using hk
  refine ⟨⟨⟨fun k o hk => ?_, fun k k' id v1 e1 l1 v2 e2 l2 h1 h2 h3 h4 => ?_⟩, fun k pl hk => ?_, ⟨by simp, hM.wf⟩, by have := hM.lim; show lim ≤ s.n + 1; omega⟩, ⟨.new _ _ _, by simp, fun id hid _ => hlook id hid, fun id hid ho' => ?_, newKd hM⟩, hlook⟩
  · simp only [hget] at hk
    split at hk
    · rename_i e1
      subst e1
      cases hk
      exact ⟨_, by simp [ext], ho⟩
    · obtain ⟨pl, k1, k2⟩ := hM.hr.ob k o hk
      refine ⟨pl, hle _ _ k1, k2.mono (by simp) hle (fun id ver e len hp => ?_)⟩
      subst hp
      exact hlook id k2.lt.2
  · by_cases a : k = n
    · by_cases b : k' = n
      · rw [a, b]
      · exfalso
        subst a
        simp [ext] at h3
        have := (hM.hr.lt (hgn k' h2 b) (hCn k' _ b h4)).2
        omega
    · by_cases b : k' = n
      · exfalso
        subst b
        simp [ext] at h4
        have := (hM.hr.lt (hgn k h1 a) (hCn k _ a h3)).2
        omega
      · exact hM.hr.inj k k' id v1 e1 l1 v2 e2 l2 (hgn k h1 a) (hgn k' h2 b) (hCn k _ a h3) (hCn k' _ b h4)
  · by_cases a : k = n
    · omega
    · have := hM.dom k pl (hCn k pl a hk)
      omega
  · obtain ⟨k, v1, e1, l1, k1, k2⟩ := ho'
    by_cases a : k = n
    · subst a
      simp [ext] at k2
      omega
    · exact ⟨k, v1, e1, l1, hgn k k1 a, hCn k _ a k2⟩
theorem nilMem (hM : Mem C n h lim s) {ty e : Nat} {g : Bool} : Mem (ext C n .nil) (n + 1) ((n, .lst ty e g []) :: h) lim s ∧ Fr C h s (ext C n .nil) ((n, .lst ty e g []) :: h) s := by
  have hle := ext_le hM .nil
  have hgn : ∀ k, hget ((n, .lst ty e g []) :: h) k ≠ none → k ≠ n → hget h k ≠ none := fun k hk hne => by
    simpa [hget, Ne.symm hne] using hk
  have hCn : ∀ k q, k ≠ n → ext C n .nil k = some q → C k = some q := fun k q hne hk => by
    simpa [ext, hne] using hk
  refine ⟨⟨⟨fun k o hk => ?_, fun k k' id v1 e1 l1 v2 e2 l2 h1 h2 h3 h4 => ?_⟩, fun k pl hk => ?_, hM.wf, hM.lim⟩, ⟨.refl _ _, Nat.le_refl _, fun id hid _ => rfl, fun id hid ho' => ?_, newKd hM⟩⟩
  · simp only [hget] at hk
    split at hk
    · rename_i e1
      subst e1
      cases hk
      exact ⟨.nil, by simp [ext], rfl⟩
    · obtain ⟨pl, k1, k2⟩ := hM.hr.ob k o hk
      exact ⟨pl, hle _ _ k1, k2.mono (Nat.le_refl _) hle (fun _ _ _ _ _ => rfl)⟩
  · by_cases a : k = n
    · subst a; simp [ext] at h3
    · by_cases b : k' = n
      · subst b; simp [ext] at h4
      · exact hM.hr.inj k k' id v1 e1 l1 v2 e2 l2 (hgn k h1 a) (hgn k' h2 b) (hCn k _ a h3) (hCn k' _ b h4)
  · by_cases a : k = n
    · omega
    · have := hM.dom k pl (hCn k pl a hk)
      omega
  · obtain ⟨k, v1, e1, l1, k1, k2⟩ := ho'
    by_cases a : k = n
    · subst a; simp [ext] at k2
    · exact ⟨k, v1, e1, l1, hgn k k1 a, hCn k _ a k2⟩
theorem updMem (hM : Mem C n h lim s) {k id ver e len : Nat} {po po' : PObj} {ao : AO} (hk : hget h k = some po) (hC : C k = some (.atp id ver e len))
    (ho : ObjR C (Sim.look (upd s.h id ao)) lim s.n po' (.atp id ver e len)) (hb : isBox po' = isBox po) :
    Mem C n (hset h k po') lim { h := upd s.h id ao, n := s.n } ∧ Fr C h s C (hset h k po') { h := upd s.h id ao, n := s.n } := by
  have hget' : ∀ j, hget (hset h k po') j = if j = k then some po' else hget h j := fun j => by
    rw [hget_hset]
    simp [hk]
  have hne : ∀ j, hget (hset h k po') j ≠ none → hget h j ≠ none := fun j hj => by
    rw [hget'] at hj
    split at hj
    · rename_i e1; subst e1; rw [hk]; simp
    · exact hj
  have hlook : ∀ j, j ≠ id → Sim.look (upd s.h id ao) j = Sim.look s.h j := fun j hj => by
    rw [Sim.look_upd]
    simp [hj]
  refine ⟨⟨⟨fun j o hj => ?_, fun j j' i v1 e1 l1 v2 e2 l2 h1 h2 h3 h4 => hM.hr.inj j j' i v1 e1 l1 v2 e2 l2 (hne j h1) (hne j' h2) h3 h4⟩, hM.dom, hM.wf.upd _ _, hM.lim⟩, ⟨.upd _ _ _ _, Nat.le_refl _, fun i hi hn => hlook i (fun e1 => hn ?_), fun i hi hn => ?_, fun j o hj => ?_⟩⟩
  · rw [hget'] at hj
    split at hj
    · rename_i e1
      subst e1
      cases hj
      exact ⟨_, hC, ho⟩
    · rename_i hjk
      obtain ⟨pl, k1, k2⟩ := hM.hr.ob j o hj
      refine ⟨pl, k1, k2.mono (Nat.le_refl _) (fun _ _ h => h) (fun i v1 e1 l1 hp => hlook i (fun e2 => hjk ?_))⟩
      subst hp
      subst e2
      exact hM.hr.inj j k i v1 e1 l1 ver e len (by rw [hj]; simp) (by rw [hk]; simp) k1 hC
  · subst e1
    exact ⟨k, ver, e, len, by rw [hk]; simp, hC⟩
  · obtain ⟨j, v1, e1, l1, k1, k2⟩ := hn
    exact ⟨j, v1, e1, l1, hne j k1, k2⟩
  · rw [hget']
    by_cases e1 : j = k
    · subst e1
      rw [hk] at hj
      cases hj
      exact ⟨po', by simp, fun h => ⟨by rw [← hb]; exact h, rfl⟩⟩
    · exact ⟨o, by simp [e1, hj], fun h => ⟨h, rfl⟩⟩
end
end Go.P
set_option linter.unusedVariables false
set_option linter.unusedSimpArgs false
namespace Go.P
open Go.Sim (AV AO Hp Ent upd St IC IX Ex OpK CK Wf Out doOp)
section
variable {C : Cx} {y : AV}
theorem rv_v {x : Value} (h : RV C (.v x) y) : y = .v x := by cases h with | cl h => cases h; rfl
theorem rv_agg {cs : List PV} (h : RV C (.agg cs) y) : ∃ cs', y = .agg cs' ∧ LR (RV C) cs cs' := by
  cases h with
  | cl h => cases h with | agg a b => exact ⟨_, rfl, a, fun j x y p q => .cl (b j x y p q)⟩
  | agg a b => exact ⟨_, rfl, a, b⟩
theorem rv_tup {cs : List PV} (h : RV C (.tup cs) y) : ∃ cs', y = .tup cs' ∧ LR (RV C) cs cs' := by
  cases h with
  | cl h => cases h with | tup a b => exact ⟨_, rfl, a, fun j x y p q => .cl (b j x y p q)⟩
  | tup a b => exact ⟨_, rfl, a, b⟩
theorem rv_ip {cs : List PV} (h : RV C (.ip cs) y) : ∃ cs', y = .ip cs' ∧ LR (RC false) cs cs' := by
  cases h with
  | cl h => cases h with | ip a b => exact ⟨_, rfl, a, b⟩
theorem rv_is {e : Nat} {rows : List (List PV)} (h : RV C (.is e rows) y) : (∃ rows', y = .is e rows' ∧ RR rows rows') ∨ (rows = [] ∧ (y = .v (.slice none 0 0) ∨ y = .es)) := by
  cases h with
  | cl h => cases h with
    | is a b c => exact .inl ⟨_, rfl, .of_is a b c⟩
    | isn => exact .inr ⟨rfl, .inl rfl⟩
    | ise => exact .inr ⟨rfl, .inr rfl⟩
theorem rv_im {es : List (PV × PV)} (h : RV C (.im es) y) : ∃ es', y = .im es' ∧ ER es es' := by
  cases h with
  | cl h => cases h with | im a b c => exact ⟨_, rfl, a, fun j x y p q => ⟨b j x y p q, c j x y p q⟩⟩
theorem rv_ref {k o : Nat} (h : RV C (.ref k o) y) : ∃ id ver e len, C k = some (.atp id ver e len) ∧ y = .ptr id ver 0 o := by
  cases h with
  | cl h => cases h
  | ref h => exact ⟨_, _, _, _, h, rfl⟩
theorem rv_own {k : Nat} (h : RV C (.own k) y) : (∃ id ver e len, C k = some (.atp id ver e len) ∧ y = .sl e id ver 0 len none) ∨ (C k = some .nil ∧ (y = .v (.slice none 0 0) ∨ y = .es)) := by
  cases h with
  | cl h => cases h
  | own h => exact .inl ⟨_, _, _, _, h, rfl⟩
  | ownn h hy => exact .inr ⟨h, hy⟩
theorem rv_el {k i o : Nat} (h : RV C (.el k i o) y) : ∃ id ver e len, C k = some (.atp id ver e len) ∧ y = .ptr id ver i o := by
  cases h with
  | cl h => cases h
  | el h => exact ⟨_, _, _, _, h, rfl⟩
theorem rv_map {k : Nat} (h : RV C (.map k) y) : ∃ id ver e len, C k = some (.atp id ver e len) ∧ y = .map id := by
  cases h with
  | cl h => cases h
  | map h => exact ⟨_, _, _, _, h, rfl⟩
theorem rv_fn {f : FuncId} {a b : List PV} (h : RV C (.fn f a b) y) : ∃ a' b', y = .fn (.func f) a' b' ∧ LR (RV C) a a' ∧ LR (RV C) b b' := by
  cases h with
  | cl h => cases h with | fn p q r s => exact ⟨_, _, rfl, ⟨p, fun j x y h1 h2 => .cl (r j x y h1 h2)⟩, ⟨q, fun j x y h1 h2 => .cl (s j x y h1 h2)⟩⟩
  | fn p q r s => exact ⟨_, _, rfl, ⟨p, r⟩, ⟨q, s⟩⟩
theorem LR.closed {xs : List PV} {ys : List AV} {p : Bool} (h : LR (RC p) xs ys) : LR (RV C) xs ys := h.mono fun _ _ h => .cl h.weak
theorem drop_cons {α : Type} {l : List α} {o : Nat} {c : α} {t : List α} (h : l.drop o = c :: t) : l[o]? = some c := by
  have := congrArg (fun l => l[0]?) h
  simpa [List.getElem?_drop] using this
end
section
variable {R : Type} {C : Cx} {n : Nat} {h : Heap} {lim : Nat} {s : Hp} {k : OpK} {xs : List PV} {ys : List AV} {K : PV → Heap → Nat → Option R} {r : R}
theorem ext_at (C : Cx) (n : Nat) (pl : Pl) : ext C n pl n = some pl := if_pos rfl
theorem none_some {A : Type} {a : A} {P : Prop} (h : (none : Option A) = some a) : P := by cases h
theorem st_mov (hM : Mem C n h lim s) (hx : LR (RV C) xs ys) (hk : stepK .mov xs h n K = some r) : StepR C n h lim s .mov ys K r := by
  rcases xs with _ | ⟨x, _ | ⟨x2, t⟩⟩
  · exact none_some hk
  · have hk : K x h n = some r := hk
    obtain ⟨y, _, rfl, h1, h2⟩ := hx.inv_cons
    rw [h2.inv_nil]
    exact pureStep hM rfl h1 hk
  · exact none_some hk
theorem st_nilc (hM : Mem C n h lim s) (hx : LR (RV C) xs ys) (hk : stepK .nilc xs h n K = some r) : StepR C n h lim s .nilc ys K r := by
  rcases xs with _ | ⟨x, _ | ⟨x2, t⟩⟩
  · exact none_some hk
  · obtain ⟨y, _, rfl, h1, h2⟩ := hx.inv_cons
    rw [h2.inv_nil]
    cases x with
    | ref k o => obtain ⟨id, ver, e, len, hc, rfl⟩ := rv_ref h1; exact pureStep hM rfl h1 hk
    | ip cs => obtain ⟨cs', rfl, _⟩ := rv_ip h1; exact pureStep hM rfl h1 hk
    | el k i o => obtain ⟨id, ver, e, len, hc, rfl⟩ := rv_el h1; exact pureStep hM rfl h1 hk
    | fn f a b => obtain ⟨a', b', rfl, _⟩ := rv_fn h1; exact pureStep hM rfl h1 hk
    | _ => exact none_some hk
  · exact none_some hk
theorem st_box {ty : TypeId} {size : Nat} (hM : Mem C n h lim s) (hx : LR (RV C) xs ys) (hk : stepK (.box ty size) xs h n K = some r) : StepR C n h lim s (.box ty size) ys K r := by
  rcases xs with _ | ⟨x, _ | ⟨x2, t⟩⟩
  · exact none_some hk
  · have hk : cellsK x (fun cs => bif Nat.beq cs.length size then (bif Nat.beq size 0 then none else K (.ref n 0) ((n, .box cs) :: h) (n + 1)) else none) = some r := hk
    obtain ⟨y, _, rfl, h1, h2⟩ := hx.inv_cons
    rw [h2.inv_nil]
    rw [cellsK_eq, Option.bind_eq_some_iff] at hk
    obtain ⟨cs, hcs, hk⟩ := hk
    obtain ⟨cs', hc', hl⟩ := cells_rv h1 hcs
    rw [beq_iff] at hk
    by_cases e1 : cs.length = size
    · rw [decide_eq_true e1, cond_true, beq_iff] at hk
      by_cases e2 : size = 0
      · rw [decide_eq_true e2] at hk; exact none_some hk
      · rw [decide_eq_false e2, cond_false] at hk
        have hle := ext_le hM (.atp s.n 0 size 1)
        obtain ⟨m1, m2, m3⟩ := newMem hM (po := .box cs) (ao := .arr true ty size 0 [cs']) (ver := 0) (e := size) (len := 1) ⟨hM.lim, by omega, ty, size, cs', by rw [look_new, if_pos rfl], hl.mono (fun _ _ h => h.mono hle)⟩
        refine ⟨_, _, _, _, { v := .ptr s.n 0 0 0, new := some (.arr true ty size 0 [cs']) }, hk, ?_, .ref (ext_at C n _), m1, hle, by omega, m2, fun _ => m3⟩
        simp only [doOp, hc']
        rw [if_pos ⟨by rw [← hl.1]; exact e1, e2⟩]
    · rw [decide_eq_false e1] at hk; exact none_some hk
  · exact none_some hk
theorem st_alloc {ty : TypeId} {zero : List Value} (hM : Mem C n h lim s) (hx : LR (RV C) xs ys) (hk : stepK (.alloc ty zero) xs h n K = some r) : StepR C n h lim s (.alloc ty zero) ys K r := by
  rcases xs with _ | ⟨x, t⟩
  · have hk : fPVs (zero.map .v) (fun cs => K (.ref n 0) ((n, .box cs) :: h) (n + 1)) = some r := hk
    rw [fPVs_eq] at hk
    rw [hx.inv_nil]
    have hle := ext_le hM (.atp s.n 0 zero.length 1)
    obtain ⟨m1, m2, m3⟩ := newMem hM (po := .box (zero.map .v)) (ao := .arr true ty zero.length 0 [Sim.zeroRow zero]) (ver := 0) (e := zero.length) (len := 1) ⟨hM.lim, by omega, ty, zero.length, Sim.zeroRow zero, by rw [look_new, if_pos rfl], LR.zero zero⟩
    exact ⟨_, _, _, _, { v := .ptr s.n 0 0 0, new := some (.arr true ty zero.length 0 [Sim.zeroRow zero]) }, hk, rfl, .ref (ext_at C n _), m1, hle, by omega, m2, fun _ => m3⟩
  · exact none_some hk
theorem fillK_some : ∀ (cells : List PV) (parts : List (Nat × Nat)) (xs : List PV) (K : List PV → Option R) (r : R) (cells' : List AV) (ys : List AV), fillK cells parts xs K = some r → LR (RV C) cells cells' → LR (RV C) xs ys →
    ∃ cs cs', K cs = some r ∧ Sim.fillParts cells' parts ys = some cs' ∧ LR (RV C) cs cs'
  | cells, [], [], K, r, cells', ys, h, hl, hx => by
    rw [hx.inv_nil]
    exact ⟨cells, cells', h, rfl, hl⟩
  | cells, (off, m) :: ps, x :: xs, K, r, cells', ys, h, hl, hx => by
    obtain ⟨y, ys', rfl, h1, h2⟩ := hx.inv_cons
    simp only [fillK, cellsK_eq, Option.bind_eq_some_iff] at h
    obtain ⟨cs, hcs, h⟩ := h
    obtain ⟨cs', hc', hl'⟩ := cells_rv h1 hcs
    rw [beq_iff] at h
    by_cases e1 : cs.length = m
    · rw [decide_eq_true e1, cond_true] at h
      obtain ⟨k1, k2⟩ := setK_some _ _ _ _ _ h
      obtain ⟨q, q', q1, q2, q3⟩ := fillK_some _ ps xs K r _ ys' k2 (hl.setL hl' off) h2
      refine ⟨q, q', q1, ?_, q3⟩
      simp only [Sim.fillParts, hc']
      rw [if_pos ⟨by rw [← hl'.1]; exact e1, by rw [← hl.1]; omega⟩]
      exact q2
    · rw [decide_eq_false e1] at h; exact none_some h
  | cells, [], _ :: _, K, r, cells', ys, h, hl, hx => none_some h
  | cells, _ :: _, [], K, r, cells', ys, h, hl, hx => none_some h
theorem st_build {zero : List Value} {parts : List (Nat × Nat)} (hM : Mem C n h lim s) (hx : LR (RV C) xs ys) (hk : stepK (.build zero parts) xs h n K = some r) : StepR C n h lim s (.build zero parts) ys K r := by
  have hk : fPVs (zero.map .v) (fun cs => fillK cs parts xs fun cs => K (.agg cs) h n) = some r := by
    rcases xs with _ | ⟨a, _ | ⟨b, _ | ⟨c, t⟩⟩⟩ <;> exact hk
  rw [fPVs_eq] at hk
  obtain ⟨cs, cs', k1, k2, k3⟩ := fillK_some _ _ _ _ _ _ _ hk (LR.zero (C := C) zero) hx
  refine pureStep hM ?_ (.agg k3.1 k3.2) k1
  rcases ys with _ | ⟨a, _ | ⟨b, _ | ⟨c, t⟩⟩⟩ <;> simp [doOp, k2]
theorem box_of (hM : Mem C n h lim s) {k id ver e len : Nat} {cs : List PV} (hg : hget h k = some (.box cs)) (hC : C k = some (.atp id ver e len)) : lim ≤ id ∧ ∃ ty esz row, Sim.look s.h id = some (.arr true ty esz ver [row]) ∧ LR (RV C) cs row := by
  obtain ⟨pl, h1, h2⟩ := hM.hr.ob k _ hg
  rw [hC] at h1
  cases h1
  obtain ⟨a, b, c⟩ := h2
  exact ⟨a, c⟩
theorem lst_of (hM : Mem C n h lim s) {k id ver e len e2 ty : Nat} {g : Bool} {rows : List (List PV)} (hg : hget h k = some (.lst ty e2 g rows)) (hC : C k = some (.atp id ver e len)) : lim ≤ id ∧ e = e2 ∧ len = rows.length ∧ ∃ els, Sim.look s.h id = some (.arr false ty e2 ver els) ∧ RR rows (els.take rows.length) ∧ rows.length ≤ els.length ∧ (g = false → els.length = rows.length) := by
  obtain ⟨pl, h1, h2⟩ := hM.hr.ob k _ hg
  rw [hC] at h1
  cases h1
  obtain ⟨a, b, c, d, f⟩ := h2
  exact ⟨a, c, d, f⟩
theorem lst_nil (hM : Mem C n h lim s) {k e2 ty : Nat} {g : Bool} {rows : List (List PV)} (hg : hget h k = some (.lst ty e2 g rows)) (hC : C k = some .nil) : rows = [] := by
  obtain ⟨pl, h1, h2⟩ := hM.hr.ob k _ hg
  rw [hC] at h1
  cases h1
  exact h2
theorem mp_of (hM : Mem C n h lim s) {k id ver e len : Nat} {es : List (PV × PV)} (hg : hget h k = some (.mp es)) (hC : C k = some (.atp id ver e len)) : lim ≤ id ∧ ∃ es', Sim.look s.h id = some (.map es') ∧ EM es es' := by
  obtain ⟨pl, h1, h2⟩ := hM.hr.ob k _ hg
  rw [hC] at h1
  cases h1
  obtain ⟨a, b, c⟩ := h2
  exact ⟨a, c⟩
theorem row_of {rows : List (List PV)} {els : List (List AV)} (hr : RR rows (els.take rows.length)) {i : Nat} {row : List PV} (hi : rows[i]? = some row) : ∃ row', els[i]? = some row' ∧ LR (RC true) row row' := by
  obtain ⟨row', h1, h2⟩ := hr.get hi
  have hlt : i < rows.length := (List.getElem?_eq_some_iff.1 hi).1
  rw [List.getElem?_take, if_pos hlt] at h1
  exact ⟨row', h1, h2⟩
def LoadR (C : Cx) (n : Nat) (h : Heap) (s : Hp) (k : OpK) (ys : List AV) (K : PV → Heap → Nat → Option R) (r : R) : Prop := ∃ v y, (∀ lim nS, doOp (Sim.look s.h) lim nS k ys = some { v := y }) ∧ RV C v y ∧ K v h n = some r
theorem loadR {k : OpK} {v : PV} {y : AV} (hd : ∀ lim nS, doOp (Sim.look s.h) lim nS k ys = some { v := y }) (hv : RV C v y) (hK : K v h n = some r) : LoadR C n h s k ys K r := ⟨v, y, hd, hv, hK⟩
theorem LoadR.step (hM : Mem C n h lim s) {k : OpK} (h1 : LoadR C n h s k ys K r) : StepR C n h lim s k ys K r := by
  obtain ⟨v, y, a, b, c⟩ := h1
  exact pureStep hM (a _ _) b c
theorem st_loadS_p (hM : Mem C n h lim s) (hx : LR (RV C) xs ys) (hk : stepK .loadS xs h n K = some r) : LoadR C n h s .loadS ys K r := by
  rcases xs with _ | ⟨x, _ | ⟨x2, t⟩⟩
  · exact none_some hk
  · obtain ⟨y, _, rfl, h1, h2⟩ := hx.inv_cons
    rw [h2.inv_nil]
    cases x with
    | ref k o =>
      have hk : hK h k (fun ob => match ob with
        | .box cs => dropK o cs fun cs => match cs with
          | c :: _ => K c h n
          | [] => none
        | _ => none) = some r := hk
      rw [hK_eq, Option.bind_eq_some_iff] at hk
      obtain ⟨ob, hg, hk⟩ := hk
      cases ob with
      | box cs =>
        obtain ⟨k1, k2⟩ := dropK_some _ _ _ _ hk
        obtain ⟨id, ver, e, len, hC, rfl⟩ := rv_ref h1
        obtain ⟨_, ty, esz, row, hL, hl⟩ := box_of hM hg hC
        cases hd : cs.drop o with
        | nil => rw [hd] at k2; exact none_some k2
        | cons c t =>
          rw [hd] at k2
          obtain ⟨y, hy, hv⟩ := hl.get (drop_cons hd)
          exact loadR (fun lim nS => by simp [doOp, hL, hy]) hv k2
      | _ => exact none_some hk
    | ip cs =>
      obtain ⟨cs', rfl, hl⟩ := rv_ip h1
      cases cs with
      | nil => exact none_some hk
      | cons c t =>
        obtain ⟨y, ys', rfl, hv, _⟩ := hl.inv_cons
        exact loadR (fun _ _ => rfl) (.cl hv) hk
    | el k i o =>
      have hk : hK h k (fun ob => match ob with
        | .lst _ _ _ rows => bindK (cellAt rows i o) fun c => K c h n
        | _ => none) = some r := hk
      rw [hK_eq, Option.bind_eq_some_iff] at hk
      obtain ⟨ob, hg, hk⟩ := hk
      cases ob with
      | lst ty e2 g rows =>
        simp only [bindK_eq, Option.bind_eq_some_iff, cellAt] at hk
        obtain ⟨c, ⟨row, hi, ho⟩, hk⟩ := hk
        obtain ⟨id, ver, e, len, hC, rfl⟩ := rv_el h1
        obtain ⟨_, rfl, _, els, hL, hr, _⟩ := lst_of hM hg hC
        obtain ⟨row', hi', hl⟩ := row_of hr hi
        obtain ⟨y, hy, hv⟩ := hl.get ho
        exact loadR (fun lim nS => by simp [doOp, hL, hi', hy]) (.cl hv.weak) hk
      | _ => exact none_some hk
    | _ => exact none_some hk
  · exact none_some hk
theorem st_loadA_p {m : Nat} (hM : Mem C n h lim s) (hx : LR (RV C) xs ys) (hk : stepK (.loadA m) xs h n K = some r) : LoadR C n h s (.loadA m) ys K r := by
  rcases xs with _ | ⟨x, _ | ⟨x2, t⟩⟩
  · exact none_some hk
  · obtain ⟨y, _, rfl, h1, h2⟩ := hx.inv_cons
    rw [h2.inv_nil]
    cases x with
    | ref k o =>
      have hk : hK h k (fun ob => match ob with
        | .box cs => dropK o cs fun cs => takeK m cs fun cs => K (.agg cs) h n
        | _ => none) = some r := hk
      rw [hK_eq, Option.bind_eq_some_iff] at hk
      obtain ⟨ob, hg, hk⟩ := hk
      cases ob with
      | box cs =>
        obtain ⟨k1, k2⟩ := dropK_some _ _ _ _ hk
        obtain ⟨k3, k4⟩ := takeK_some _ _ _ _ k2
        obtain ⟨id, ver, e, len, hC, rfl⟩ := rv_ref h1
        obtain ⟨_, ty, esz, row, hL, hl⟩ := box_of hM hg hC
        have hlen := hl.1
        simp only [List.length_drop] at k3
        have hq := (hl.drop o).take m
        exact loadR (fun lim nS => by simp [doOp, hL]; omega) (.agg hq.1 hq.2) k4
      | _ => exact none_some hk
    | ip cs =>
      obtain ⟨cs', rfl, hl⟩ := rv_ip h1
      have hk : takeK m cs (fun cs => K (.agg cs) h n) = some r := hk
      obtain ⟨k3, k4⟩ := takeK_some _ _ _ _ hk
      have hq := hl.take m
      refine loadR (fun lim nS => ?_) (.cl (.agg hq.1 hq.2)) k4
      simp only [doOp]
      rw [if_pos (by rw [← hl.1]; exact k3)]
    | el k i o =>
      have hk : hK h k (fun ob => match ob with
        | .lst _ _ _ rows => bindK (cellsAt rows i o m) fun cs => K (.agg cs) h n
        | _ => none) = some r := hk
      rw [hK_eq, Option.bind_eq_some_iff] at hk
      obtain ⟨ob, hg, hk⟩ := hk
      cases ob with
      | lst ty e2 g rows =>
        simp only [bindK_eq, Option.bind_eq_some_iff, cellsAt] at hk
        obtain ⟨c, ⟨row, hi, ho⟩, hk⟩ := hk
        split at ho
        · rename_i hlt
          cases ho
          obtain ⟨id, ver, e, len, hC, rfl⟩ := rv_el h1
          obtain ⟨_, rfl, _, els, hL, hr, _⟩ := lst_of hM hg hC
          obtain ⟨row', hi', hl⟩ := row_of hr hi
          have hq := (hl.drop o).take m
          have hlen := hl.1
          exact loadR (fun lim nS => by simp [doOp, hL, hi']; omega) (.cl (.agg hq.1 fun j x y a b => (hq.2 j x y a b).weak)) hk
        · cases ho
      | _ => exact none_some hk
    | _ => exact none_some hk
  · exact none_some hk
theorem st_loadS (hM : Mem C n h lim s) (hx : LR (RV C) xs ys) (hk : stepK .loadS xs h n K = some r) : StepR C n h lim s .loadS ys K r := (st_loadS_p hM hx hk).step hM
theorem st_loadA {m : Nat} (hM : Mem C n h lim s) (hx : LR (RV C) xs ys) (hk : stepK (.loadA m) xs h n K = some r) : StepR C n h lim s (.loadA m) ys K r := (st_loadA_p hM hx hk).step hM
theorem st_store {m : Nat} (hM : Mem C n h lim s) (hx : LR (RV C) xs ys) (hk : stepK (.store m) xs h n K = some r) : StepR C n h lim s (.store m) ys K r := by
  rcases xs with _ | ⟨p, _ | ⟨x, _ | ⟨x2, t⟩⟩⟩
  · exact none_some hk
  · exact none_some hk
  · obtain ⟨y1, _, rfl, h1, h2⟩ := hx.inv_cons
    obtain ⟨y2, _, rfl, h3, h4⟩ := h2.inv_cons
    rw [h4.inv_nil]
    cases p with
    | ref k o =>
      have hk : hK h k (fun ob => match ob with
        | .box cs => cellsK x fun ys => bif Nat.beq ys.length m then setK cs o ys fun cs => hsetK h k (.box cs) fun h => K .undef h n else none
        | _ => none) = some r := hk
      rw [hK_eq, Option.bind_eq_some_iff] at hk
      obtain ⟨ob, hg, hk⟩ := hk
      cases ob with
      | box cs =>
        simp only [cellsK_eq, Option.bind_eq_some_iff] at hk
        obtain ⟨zs, hzs, hk⟩ := hk
        obtain ⟨zs', hz', hzl⟩ := cells_rv h3 hzs
        rw [beq_iff] at hk
        by_cases e1 : zs.length = m
        · rw [decide_eq_true e1, cond_true] at hk
          obtain ⟨k1, k2⟩ := setK_some _ _ _ _ _ hk
          have k3 := hsetK_some _ _ _ _ _ k2
          obtain ⟨id, ver, e, len, hC, rfl⟩ := rv_ref h1
          obtain ⟨hlim, ty, esz, row, hL, hl⟩ := box_of hM hg hC
          have hid := (hM.hr.lt (by rw [hg]; simp) hC).2
          obtain ⟨m1, m2⟩ := updMem hM (po' := .box (Sim.setL cs o zs)) (ao := .arr true ty esz ver [Sim.setL row o zs']) hg hC ⟨hlim, hid, ty, esz, _, by rw [Sim.look_upd]; simp [hL], hl.setL hzl o⟩ rfl
          have hlen := hl.1
          have hlen2 := hzl.1
          refine ⟨_, _, _, _, { v := .undef, up := some (id, .arr true ty esz ver [Sim.setL row o zs']) }, k3, ?_, .undef, m1, fun _ _ h => h, Nat.le_refl _, m2, fun he => by cases he⟩
          simp only [doOp, hz', hL]
          rw [if_pos ⟨by trivial, hlim, by omega⟩]
          simp only [List.getElem?_cons_zero]
          rw [if_pos (by omega)]
          rfl
        · rw [decide_eq_false e1] at hk; exact none_some hk
      | _ => exact none_some hk
    | el k i o =>
      have hk : hK h k (fun ob => match ob with
        | .lst ty e g rows => cellsK x fun ys => bif Nat.beq ys.length m && ys.all plainP then bindK (rowPut rows i o ys) fun rows => hsetK h k (.lst ty e g rows) fun h => K .undef h n else none
        | _ => none) = some r := hk
      rw [hK_eq, Option.bind_eq_some_iff] at hk
      obtain ⟨ob, hg, hk⟩ := hk
      cases ob with
      | lst ty e2 g rows =>
        simp only [cellsK_eq, Option.bind_eq_some_iff] at hk
        obtain ⟨zs, hzs, hk⟩ := hk
        obtain ⟨zs', hz', hzl⟩ := cells_rv h3 hzs
        by_cases hc : (Nat.beq zs.length m && zs.all plainP) = true
        · rw [hc, cond_true, bindK_eq, Option.bind_eq_some_iff] at hk
          simp only [Bool.and_eq_true, beq_iff, decide_eq_true_eq] at hc
          obtain ⟨rows2, hput, hk⟩ := hk
          have k3 := hsetK_some _ _ _ _ _ hk
          unfold rowPut at hput
          split at hput
          · rename_i row hi
            split at hput
            · rename_i hle
              cases hput
              obtain ⟨id, ver, e, len, hC, rfl⟩ := rv_el h1
              obtain ⟨hlim, rfl, hlen, els, hL, hr, hle2, hg2⟩ := lst_of hM hg hC
              have hid := (hM.hr.lt (by rw [hg]; simp) hC).2
              obtain ⟨row', hi', hl⟩ := row_of hr hi
              have hilt : i < rows.length := (List.getElem?_eq_some_iff.1 hi).1
              have hzp := hzl.plain hc.2
              obtain ⟨m1, m2⟩ := updMem hM (po' := .lst ty e g (rows.set i (Sim.setL row o zs))) (ao := .arr false ty e ver (els.set i (Sim.setL row' o zs'))) hg hC
                ⟨hlim, hid, rfl, by simpa using hlen, els.set i (Sim.setL row' o zs'), by rw [Sim.look_upd]; simp [hL], by
                  rw [List.length_set, List.take_set]
                  exact hr.set (hl.setL hzp o) i, by simpa using hle2, by simpa using hg2⟩ rfl
              have hlen1 := hl.1
              have hlen2 := hzl.1
              refine ⟨_, _, _, _, { v := .undef, up := some (id, .arr false ty e ver (els.set i (Sim.setL row' o zs'))) }, k3, ?_, .undef, m1, fun _ _ h => h, Nat.le_refl _, m2, fun he => by cases he⟩
              simp only [doOp, hz', hL]
              rw [if_pos ⟨by trivial, hlim, by omega⟩, hi']
              simp only
              rw [if_pos (by omega)]
            · cases hput
          · cases hput
        · simp only [Bool.not_eq_true] at hc
          rw [hc] at hk; exact none_some hk
      | _ => exact none_some hk
    | _ => exact none_some hk
  · exact none_some hk
theorem st_fad {off : Nat} (hM : Mem C n h lim s) (hx : LR (RV C) xs ys) (hk : stepK (.fad off) xs h n K = some r) : StepR C n h lim s (.fad off) ys K r := by
  rcases xs with _ | ⟨x, _ | ⟨x2, t⟩⟩
  · exact none_some hk
  · obtain ⟨y, _, rfl, h1, h2⟩ := hx.inv_cons
    rw [h2.inv_nil]
    cases x with
    | ref k o =>
      obtain ⟨id, ver, e, len, hC, rfl⟩ := rv_ref h1
      exact pureStep hM rfl (.ref hC) hk
    | ip cs =>
      have hk : dropK off cs (fun cs => K (.ip cs) h n) = some r := hk
      obtain ⟨k1, k2⟩ := dropK_some _ _ _ _ hk
      obtain ⟨cs', rfl, hl⟩ := rv_ip h1
      have hq := hl.drop off
      exact pureStep hM rfl (.cl (.ip hq.1 hq.2)) k2
    | el k i o =>
      obtain ⟨id, ver, e, len, hC, rfl⟩ := rv_el h1
      exact pureStep hM rfl (.el hC) hk
    | _ => exact none_some hk
  · exact none_some hk
end
end Go.P
set_option linter.unusedVariables false
set_option linter.unusedSimpArgs false
namespace Go.P
open Go.Sim (AV AO Hp Ent upd St IC IX Ex OpK CK Wf Out doOp)
section
variable {R : Type} {C : Cx} {n : Nat} {h : Heap} {lim : Nat} {s : Hp} {k : OpK} {xs : List PV} {ys : List AV} {K : PV → Heap → Nat → Option R} {r : R}
theorem st_iad {e : Nat} (hM : Mem C n h lim s) (hx : LR (RV C) xs ys) (hk : stepK (.iad e) xs h n K = some r) : StepR C n h lim s (.iad e) ys K r := by
  rcases xs with _ | ⟨x, _ | ⟨i, _ | ⟨x2, t⟩⟩⟩
  · exact none_some hk
  · exact none_some hk
  · obtain ⟨y1, _, rfl, h1, h2⟩ := hx.inv_cons
    obtain ⟨y2, _, rfl, h3, h4⟩ := h2.inv_cons
    rw [h4.inv_nil]
    cases i with
    | v iv =>
      cases iv with
      | int kk i =>
        rw [rv_v h3]
        cases x with
        | is e' rows =>
          have hk : (bif Nat.beq e' e then bindK (rowGet rows i) (fun row => K (.ip row) h n) else none) = some r := hk
          rw [beq_iff] at hk
          by_cases e1 : e' = e
          · subst e1
            simp only [decide_true, cond_true, bindK_eq, Option.bind_eq_some_iff, rowGet] at hk
            obtain ⟨row, hrow, hk⟩ := hk
            split at hrow
            · rename_i h0
              rcases rv_is h1 with ⟨rows', rfl, hr⟩ | ⟨rfl, _⟩
              · obtain ⟨row', hr', hl⟩ := hr.get hrow
                exact pureStep hM (by simp [doOp, Sim.intOf, h0, hr']) (.cl (.ip hl.1 fun j x y a b => (hl.2 j x y a b).weak)) hk
              · simp at hrow
            · cases hrow
          · rw [decide_eq_false e1] at hk; exact none_some hk
        | own k =>
          have hk : hK h k (fun ob => match ob with
            | .lst _ e' _ rows => bif Nat.beq e' e then bindK (idxOK rows.length i) (fun i => K (.el k i 0) h n) else none
            | _ => none) = some r := hk
          rw [hK_eq, Option.bind_eq_some_iff] at hk
          obtain ⟨ob, hg, hk⟩ := hk
          cases ob with
          | lst ty e2 g rows =>
            simp only [beq_iff] at hk
            by_cases e1 : e2 = e
            · subst e1
              simp only [decide_true, cond_true, bindK_eq, Option.bind_eq_some_iff, idxOK] at hk
              obtain ⟨m, hm, hk2⟩ := hk
              split at hm
              · rename_i h0
                cases hm
                rcases rv_own h1 with ⟨id, ver, e3, len, hC, rfl⟩ | ⟨hC, _⟩
                · obtain ⟨_, rfl, hlen, _⟩ := lst_of hM hg hC
                  refine pureStep (v := .el k i.toNat 0) (y := .ptr id ver i.toNat 0) hM ?_ (.el hC) hk2
                  simp only [doOp, Sim.intOf]
                  rw [if_pos ⟨by trivial, h0.1, by omega⟩, Nat.zero_add]
                · have := lst_nil hM hg hC
                  subst this
                  simp at h0
                  omega
              · cases hm
            · rw [decide_eq_false e1] at hk; exact none_some hk
          | _ => exact none_some hk
        | _ => exact none_some hk
      | _ => exact none_some hk
    | _ => exact none_some hk
  · exact none_some hk
theorem st_fldS {off : Nat} (hM : Mem C n h lim s) (hx : LR (RV C) xs ys) (hk : stepK (.fldS off) xs h n K = some r) : StepR C n h lim s (.fldS off) ys K r := by
  rcases xs with _ | ⟨x, _ | ⟨x2, t⟩⟩
  · exact none_some hk
  · obtain ⟨y, _, rfl, h1, h2⟩ := hx.inv_cons
    rw [h2.inv_nil]
    cases x with
    | agg cs =>
      have hk : dropK off cs (fun cs => match cs with
        | c :: _ => K c h n
        | [] => none) = some r := hk
      obtain ⟨k1, k2⟩ := dropK_some _ _ _ _ hk
      obtain ⟨cs', rfl, hl⟩ := rv_agg h1
      cases hd : cs.drop off with
      | nil => rw [hd] at k2; exact none_some k2
      | cons c t =>
        rw [hd] at k2
        obtain ⟨y, hy, hv⟩ := hl.get (drop_cons hd)
        exact pureStep hM (by simp [doOp, hy]) hv k2
    | _ => exact none_some hk
  · exact none_some hk
theorem st_fldA {off m : Nat} (hM : Mem C n h lim s) (hx : LR (RV C) xs ys) (hk : stepK (.fldA off m) xs h n K = some r) : StepR C n h lim s (.fldA off m) ys K r := by
  rcases xs with _ | ⟨x, _ | ⟨x2, t⟩⟩
  · exact none_some hk
  · obtain ⟨y, _, rfl, h1, h2⟩ := hx.inv_cons
    rw [h2.inv_nil]
    cases x with
    | agg cs =>
      have hk : dropK off cs (fun cs => takeK m cs fun cs => K (.agg cs) h n) = some r := hk
      obtain ⟨k1, k2⟩ := dropK_some _ _ _ _ hk
      obtain ⟨k3, k4⟩ := takeK_some _ _ _ _ k2
      obtain ⟨cs', rfl, hl⟩ := rv_agg h1
      have hq := (hl.drop off).take m
      exact pureStep hM rfl (.agg hq.1 hq.2) k4
    | _ => exact none_some hk
  · exact none_some hk
theorem st_idxStr (hM : Mem C n h lim s) (hx : LR (RV C) xs ys) (hk : stepK .idxStr xs h n K = some r) : StepR C n h lim s .idxStr ys K r := by
  rcases xs with _ | ⟨x, _ | ⟨i, _ | ⟨x2, t⟩⟩⟩
  · exact none_some hk
  · exact none_some hk
  · obtain ⟨y1, _, rfl, h1, h2⟩ := hx.inv_cons
    obtain ⟨y2, _, rfl, h3, h4⟩ := h2.inv_cons
    rw [h4.inv_nil]
    cases x with
    | v xv =>
      cases xv with
      | string b =>
        cases i with
        | v iv =>
          cases iv with
          | int kk i =>
            rw [rv_v h1, rv_v h3]
            have hk : bindK (strIdx b i) (fun b => K (.v (.int .u8 b)) h n) = some r := hk
            simp only [bindK_eq, Option.bind_eq_some_iff, strIdx] at hk
            obtain ⟨m, hm, hk⟩ := hk
            split at hm
            · rename_i h0
              simp only [Option.map_eq_some_iff] at hm
              obtain ⟨b0, hb, rfl⟩ := hm
              refine pureStep hM ?_ (.cl (.v _)) hk
              simp only [doOp, Sim.intOf]
              rw [if_pos h0, hb]
            · cases hm
          | _ => exact none_some hk
        | _ => exact none_some hk
      | _ => cases i with
        | v iv => cases iv <;> exact none_some hk
        | _ => exact none_some hk
    | _ => cases i with
      | v iv => cases iv <;> exact none_some hk
      | _ => exact none_some hk
  · exact none_some hk
theorem st_idxA {len e : Nat} {agg : Bool} (hM : Mem C n h lim s) (hx : LR (RV C) xs ys) (hk : stepK (.idxA len e agg) xs h n K = some r) : StepR C n h lim s (.idxA len e agg) ys K r := by
  rcases xs with _ | ⟨x, _ | ⟨i, _ | ⟨x2, t⟩⟩⟩
  · exact none_some hk
  · exact none_some hk
  · obtain ⟨y1, _, rfl, h1, h2⟩ := hx.inv_cons
    obtain ⟨y2, _, rfl, h3, h4⟩ := h2.inv_cons
    rw [h4.inv_nil]
    cases x with
    | agg cs =>
      obtain ⟨cs', rfl, hl⟩ := rv_agg h1
      cases i with
      | v iv =>
        cases iv with
        | int kk i =>
          rw [rv_v h3]
          have hk : (bif agg then bindK (idxCells cs i len e) (fun cs => K (.agg cs) h n) else bindK (idxCell cs i len e) fun c => K c h n) = some r := hk
          cases agg with
          | true =>
            simp only [cond_true, bindK_eq, Option.bind_eq_some_iff, idxCells] at hk
            obtain ⟨q, hq, hk⟩ := hk
            split at hq
            · rename_i h0
              cases hq
              have hz := (hl.drop (i.toNat * e)).take e
              refine pureStep hM ?_ (.agg hz.1 hz.2) hk
              simp only [doOp, Sim.intOf]
              rw [if_pos ⟨h0.1, h0.2.1⟩]
              rfl
            · cases hq
          | false =>
            simp only [cond_false, bindK_eq, Option.bind_eq_some_iff, idxCell] at hk
            obtain ⟨q, hq, hk⟩ := hk
            split at hq
            · rename_i h0
              obtain ⟨y, hy, hv⟩ := hl.get hq
              refine pureStep hM ?_ hv hk
              simp only [doOp, Sim.intOf]
              rw [if_pos h0]
              simp [hy]
            · cases hq
        | _ => exact none_some hk
      | _ => exact none_some hk
    | _ => cases i with
      | v iv => cases iv <;> exact none_some hk
      | _ => exact none_some hk
  · exact none_some hk
theorem binK_some {op : BinOp} {x y : PV} {K : PV → Option R} {r : R} (hk : binK op x y K = some r) : ∃ a b c, x = .v a ∧ y = .v b ∧ Sim.binS op a b = some c ∧ K (.v c) = some r := by
  cases x with
  | v a =>
    cases y with
    | v b =>
      cases a with
      | int k a =>
        cases b with
        | int k' b =>
          have key : ∀ {z : Option R} {w : Option Value}, (op ≠ .shl ∧ op ≠ .shr) → (binK op (.v (.int k a)) (.v (.int k' b)) K = bif kEq k k' then z else none) → (Sim.binS op (.int k a) (.int k' b) = if k = k' then w else none) → (z = some r → ∃ c, w = some c ∧ K (.v c) = some r) → ∃ a' b' c, PV.v (.int k a) = .v a' ∧ PV.v (.int k' b) = .v b' ∧ Sim.binS op a' b' = some c ∧ K (.v c) = some r := by
            intro z w _ e1 e2 e3
            rw [e1, kEq_iff] at hk
            by_cases e : k = k'
            · rw [decide_eq_true e, cond_true] at hk
              obtain ⟨c, k1, k2⟩ := e3 hk
              exact ⟨_, _, c, rfl, rfl, by rw [e2, if_pos e]; exact k1, k2⟩
            · rw [decide_eq_false e] at hk; exact none_some hk
          cases op
          case shl =>
            have hk : bindK (if b < 0 then none else some (k.wrap (a * 2 ^ min b.toNat k.bits))) (fun r => K (.v (.int k r))) = some r := hk
            simp only [bindK_eq, Option.bind_eq_some_iff] at hk
            obtain ⟨q, hq, hk⟩ := hk
            split at hq
            · cases hq
            · rename_i h0
              cases hq
              exact ⟨_, _, _, rfl, rfl, by simp only [Sim.binS]; rw [if_neg h0], hk⟩
          case shr =>
            have hk : bindK (if b < 0 then none else some (a.fdiv (2 ^ min b.toNat k.bits))) (fun r => K (.v (.int k r))) = some r := hk
            simp only [bindK_eq, Option.bind_eq_some_iff] at hk
            obtain ⟨q, hq, hk⟩ := hk
            split at hq
            · cases hq
            · rename_i h0
              cases hq
              exact ⟨_, _, _, rfl, rfl, by simp only [Sim.binS]; rw [if_neg h0], hk⟩
          case add => exact key (by simp) rfl rfl (fun h => ⟨_, rfl, h⟩)
          case sub => exact key (by simp) rfl rfl (fun h => ⟨_, rfl, h⟩)
          case mul => exact key (by simp) rfl rfl (fun h => ⟨_, rfl, h⟩)
          case and => exact key (by simp) rfl rfl (fun h => ⟨_, rfl, h⟩)
          case or => exact key (by simp) rfl rfl (fun h => ⟨_, rfl, h⟩)
          case xor => exact key (by simp) rfl rfl (fun h => ⟨_, rfl, h⟩)
          case andNot => exact key (by simp) rfl rfl (fun h => ⟨_, rfl, h⟩)
          case eql => exact key (by simp) rfl rfl (fun h => ⟨_, rfl, h⟩)
          case neq => exact key (by simp) rfl rfl (fun h => ⟨_, rfl, h⟩)
          case lss => exact key (by simp) rfl rfl (fun h => ⟨_, rfl, h⟩)
          case leq => exact key (by simp) rfl rfl (fun h => ⟨_, rfl, h⟩)
          case gtr => exact key (by simp) rfl rfl (fun h => ⟨_, rfl, h⟩)
          case geq => exact key (by simp) rfl rfl (fun h => ⟨_, rfl, h⟩)
          case quo => exact key (z := bindK (if b = 0 then none else some (k.wrap (a.tdiv b))) fun r => K (.v (.int k r))) (by simp) rfl rfl (fun h => by
            simp only [bindK_eq, Option.bind_eq_some_iff] at h
            obtain ⟨q, hq, h⟩ := h
            split at hq
            · cases hq
            · rename_i h0; cases hq; exact ⟨_, by rw [if_neg h0], h⟩)
          case rem => exact key (z := bindK (if b = 0 then none else some (a.tmod b)) fun r => K (.v (.int k r))) (by simp) rfl rfl (fun h => by
            simp only [bindK_eq, Option.bind_eq_some_iff] at h
            obtain ⟨q, hq, h⟩ := h
            split at hq
            · cases hq
            · rename_i h0; cases hq; exact ⟨_, by rw [if_neg h0], h⟩)
          all_goals (first | exact none_some hk | exact key (z := none) (w := none) (by simp) rfl rfl (fun h => none_some h))
        | _ => exact none_some hk
      | string a =>
        cases b with
        | string b =>
          cases op
          case add =>
            have hk : bindK (if a.size + b.size ≤ 2 ^ 62 then some (a ++ b) else none) (fun r => K (.v (.string r))) = some r := hk
            simp only [bindK_eq, Option.bind_eq_some_iff] at hk
            obtain ⟨q, hq, hk⟩ := hk
            split at hq
            · rename_i h0
              cases hq
              exact ⟨_, _, _, rfl, rfl, by simp only [Sim.binS]; rw [if_pos h0], hk⟩
            · cases hq
          all_goals first | exact none_some hk | exact ⟨_, _, _, rfl, rfl, rfl, hk⟩
        | _ => exact none_some hk
      | _ => exact none_some hk
    | _ => exact none_some hk
  | _ => exact none_some hk
theorem st_bin {op : BinOp} (hM : Mem C n h lim s) (hx : LR (RV C) xs ys) (hk : stepK (.bin op) xs h n K = some r) : StepR C n h lim s (.bin op) ys K r := by
  rcases xs with _ | ⟨x, _ | ⟨i, _ | ⟨x2, t⟩⟩⟩
  · exact none_some hk
  · exact none_some hk
  · obtain ⟨y1, _, rfl, h1, h2⟩ := hx.inv_cons
    obtain ⟨y2, _, rfl, h3, h4⟩ := h2.inv_cons
    rw [h4.inv_nil]
    obtain ⟨a, b, c, rfl, rfl, hb, hk⟩ := binK_some (K := fun v => K v h n) hk
    rw [rv_v h1, rv_v h3]
    exact pureStep hM (by simp [doOp, hb]) (.cl (.v c)) hk
  · exact none_some hk
theorem st_eqB {neg : Bool} (hM : Mem C n h lim s) (hx : LR (RV C) xs ys) (hk : stepK (.eqB neg) xs h n K = some r) : StepR C n h lim s (.eqB neg) ys K r := by
  rcases xs with _ | ⟨x, _ | ⟨i, _ | ⟨x2, t⟩⟩⟩
  · exact none_some hk
  · exact none_some hk
  · obtain ⟨y1, _, rfl, h1, h2⟩ := hx.inv_cons
    obtain ⟨y2, _, rfl, h3, h4⟩ := h2.inv_cons
    rw [h4.inv_nil]
    cases x with
    | v xv =>
      cases xv with
      | bool a =>
        cases i with
        | v iv =>
          cases iv with
          | bool b =>
            rw [rv_v h1, rv_v h3]
            exact pureStep hM rfl (.cl (.v _)) hk
          | _ => exact none_some hk
        | _ => exact none_some hk
      | _ => cases i with
        | v iv => cases iv <;> exact none_some hk
        | _ => exact none_some hk
    | _ => cases i with
      | v iv => cases iv <;> exact none_some hk
      | _ => exact none_some hk
  · exact none_some hk
theorem eqCK_some : ∀ (ks : List CK) (as bs : List PV) (K : Bool → Option R) (r : R) (as' bs' : List AV), eqCK ks as bs K = some r → LR (RV C) as as' → LR (RV C) bs bs' →
    ∃ b, Sim.cellsEq ks as' bs' = some b ∧ K b = some r ∧ as'.length = ks.length ∧ bs'.length = ks.length
  | [], [], [], K, r, as', bs', h, ha, hb => by
    rw [ha.inv_nil, hb.inv_nil]
    exact ⟨true, rfl, h, rfl, rfl⟩
  | k :: ks, a :: as, b :: bs, K, r, as', bs', h, ha, hb => by
    obtain ⟨y, ys, rfl, h1, h2⟩ := ha.inv_cons
    obtain ⟨z, zs, rfl, h3, h4⟩ := hb.inv_cons
    simp only [eqCK] at h
    obtain ⟨t, t1, t2, t3, t4⟩ := eqCK_some ks as bs _ r ys zs h h2 h4
    have fin : ∀ q : Bool, Sim.cellEq k y z = some q → K (q && t) = some r → ∃ b, Sim.cellsEq (k :: ks) (y :: ys) (z :: zs) = some b ∧ K b = some r ∧ (y :: ys).length = (k :: ks).length ∧ (z :: zs).length = (k :: ks).length := by
      intro q hq hK
      refine ⟨q && t, ?_, hK, by simp [t3], by simp [t4]⟩
      simp only [Sim.cellsEq, hq]
      cases q
      · rfl
      · simpa using t1
    split at t2
    · rename_i j x j' x'
      rw [kEq_iff] at t2
      by_cases e : j = j'
      · rw [decide_eq_true e, cond_true] at t2
        rw [rv_v h1, rv_v h3] at fin ⊢
        exact fin (x == x') (by simp [Sim.cellEq, e]) t2
      · rw [decide_eq_false e] at t2; exact none_some t2
    · rename_i x x'
      rw [rv_v h1, rv_v h3] at fin ⊢
      exact fin (x == x') rfl t2
    · rename_i x x'
      rw [rv_v h1, rv_v h3] at fin ⊢
      exact fin (x == x') rfl t2
    · exact none_some t2
  | [], _ :: _, _, _, _, _, _, h, _, _ => none_some h
  | [], [], _ :: _, _, _, _, _, h, _, _ => none_some h
  | _ :: _, [], _, _, _, _, _, h, _, _ => none_some h
  | _ :: _, _ :: _, [], _, _, _, _, h, _, _ => none_some h
theorem st_eqA {neg : Bool} {ks : List CK} (hM : Mem C n h lim s) (hx : LR (RV C) xs ys) (hk : stepK (.eqA neg ks) xs h n K = some r) : StepR C n h lim s (.eqA neg ks) ys K r := by
  rcases xs with _ | ⟨x, _ | ⟨i, _ | ⟨x2, t⟩⟩⟩
  · exact none_some hk
  · exact none_some hk
  · obtain ⟨y1, _, rfl, h1, h2⟩ := hx.inv_cons
    obtain ⟨y2, _, rfl, h3, h4⟩ := h2.inv_cons
    rw [h4.inv_nil]
    cases x with
    | agg as =>
      cases i with
      | agg bs =>
        obtain ⟨as', rfl, ha⟩ := rv_agg h1
        obtain ⟨bs', rfl, hb⟩ := rv_agg h3
        obtain ⟨b, k1, k2, k3, k4⟩ := eqCK_some ks as bs _ r as' bs' hk ha hb
        refine pureStep hM ?_ (.cl (.v _)) k2
        simp only [doOp]
        rw [if_pos ⟨k3, k4⟩, k1]
      | _ => exact none_some hk
    | _ => cases i <;> exact none_some hk
  · exact none_some hk
theorem st_un {op : UnOp} (hM : Mem C n h lim s) (hx : LR (RV C) xs ys) (hk : stepK (.un op) xs h n K = some r) : StepR C n h lim s (.un op) ys K r := by
  rcases xs with _ | ⟨x, _ | ⟨x2, t⟩⟩
  · exact none_some hk
  · obtain ⟨y, _, rfl, h1, h2⟩ := hx.inv_cons
    rw [h2.inv_nil]
    cases x with
    | v xv =>
      rw [rv_v h1]
      cases op <;> cases xv <;> first | exact none_some hk | exact pureStep hM rfl (.cl (.v _)) hk
    | _ => cases op <;> exact none_some hk
  · exact none_some hk
theorem st_convI {k : IntKind} (hM : Mem C n h lim s) (hx : LR (RV C) xs ys) (hk : stepK (.convI k) xs h n K = some r) : StepR C n h lim s (.convI k) ys K r := by
  rcases xs with _ | ⟨x, _ | ⟨x2, t⟩⟩
  · exact none_some hk
  · obtain ⟨y, _, rfl, h1, h2⟩ := hx.inv_cons
    rw [h2.inv_nil]
    cases x with
    | v xv =>
      rw [rv_v h1]
      cases xv <;> first | exact none_some hk | exact pureStep hM rfl (.cl (.v _)) hk
    | _ => exact none_some hk
  · exact none_some hk
theorem st_convS (hM : Mem C n h lim s) (hx : LR (RV C) xs ys) (hk : stepK .convS xs h n K = some r) : StepR C n h lim s .convS ys K r := by
  rcases xs with _ | ⟨x, _ | ⟨x2, t⟩⟩
  · exact none_some hk
  · obtain ⟨y, _, rfl, h1, h2⟩ := hx.inv_cons
    rw [h2.inv_nil]
    cases x with
    | v xv =>
      rw [rv_v h1]
      cases xv <;> first | exact none_some hk | exact pureStep hM rfl (.cl (.v _)) hk
    | _ => exact none_some hk
  · exact none_some hk
theorem byteRows_rr (b : ByteArray) : RR (byteRows b) (Sim.byteRows b) := by
  unfold byteRows Sim.byteRows
  induction b.data.toList with
  | nil => exact .nil
  | cons a as ih => exact .cons (.cons (.v _) .nil) ih
theorem st_s2b {t : TypeId} (hM : Mem C n h lim s) (hx : LR (RV C) xs ys) (hk : stepK (.s2b t) xs h n K = some r) : StepR C n h lim s (.s2b t) ys K r := by
  rcases xs with _ | ⟨x, _ | ⟨x2, t⟩⟩
  · exact none_some hk
  · obtain ⟨y, _, rfl, h1, h2⟩ := hx.inv_cons
    rw [h2.inv_nil]
    cases x with
    | v xv =>
      rw [rv_v h1]
      cases xv with
      | string b => exact pureStep hM rfl (.cl (byteRows_rr b).is) hk
      | _ => exact none_some hk
    | _ => exact none_some hk
  · exact none_some hk
theorem st_mkfn {f : Fn} {m : Nat} (hM : Mem C n h lim s) (hx : LR (RV C) xs ys) (hk : stepK (.mkfn f m) xs h n K = some r) : StepR C n h lim s (.mkfn f m) ys K r := by
  cases f with
  | func f =>
    have hk : takeK m xs (fun a => dropK m xs fun b => K (.fn f a b) h n) = some r := by
      rcases xs with _ | ⟨a, _ | ⟨b, _ | ⟨c, t⟩⟩⟩ <;> exact hk
    obtain ⟨_, k1⟩ := takeK_some _ _ _ _ hk
    obtain ⟨_, k2⟩ := dropK_some _ _ _ _ k1
    have ha := hx.take m
    have hb := hx.drop m
    refine pureStep hM ?_ (.fn ha.1 hb.1 ha.2 hb.2) k2
    rcases ys with _ | ⟨a, _ | ⟨b, _ | ⟨c, t⟩⟩⟩ <;> rfl
  | _ => rcases xs with _ | ⟨a, _ | ⟨b, _ | ⟨c, t⟩⟩⟩ <;> exact none_some hk
theorem st_mkmap (hM : Mem C n h lim s) (hx : LR (RV C) xs ys) (hk : stepK .mkmap xs h n K = some r) : StepR C n h lim s .mkmap ys K r := by
  rcases xs with _ | ⟨x, t⟩
  · have hk : K (.map n) ((n, .mp []) :: h) (n + 1) = some r := hk
    rw [hx.inv_nil]
    have hle := ext_le hM (.atp s.n 0 0 1)
    obtain ⟨m1, m2, m3⟩ := newMem hM (po := .mp []) (ao := .map []) (ver := 0) (e := 0) (len := 1) ⟨hM.lim, by omega, [], by rw [look_new, if_pos rfl], rfl, fun j x y h => by simp at h⟩
    exact ⟨_, _, _, _, { v := .map s.n, new := some (.map []) }, hk, rfl, .map (ext_at C n _), m1, hle, by omega, m2, fun _ => m3⟩
  · exact none_some hk
theorem st_mksl {ty : TypeId} {e b : Nat} {zero : List Value} (hM : Mem C n h lim s) (hx : LR (RV C) xs ys) (hk : stepK (.mksl ty e b zero) xs h n K = some r) : StepR C n h lim s (.mksl ty e b zero) ys K r := by
  rcases xs with _ | ⟨x, _ | ⟨i, _ | ⟨x2, t⟩⟩⟩
  · exact none_some hk
  · exact none_some hk
  · obtain ⟨y1, _, rfl, h1, h2⟩ := hx.inv_cons
    obtain ⟨y2, _, rfl, h3, h4⟩ := h2.inv_cons
    rw [h4.inv_nil]
    cases x with
    | v xv =>
      cases xv with
      | int k1 l =>
        cases i with
        | v iv =>
          cases iv with
          | int k2 c =>
            rw [rv_v h1, rv_v h3]
            have hk : fPVs (zero.map .v) (fun z => bindK (makeRows l c z) fun rows => K (.own n) ((n, .lst ty e true rows) :: h) (n + 1)) = some r := hk
            simp only [fPVs_eq, bindK_eq, Option.bind_eq_some_iff, makeRows] at hk
            obtain ⟨rows, hm, hk⟩ := hk
            split at hm
            · rename_i h0
              cases hm
              have hle := ext_le hM (.atp s.n 0 e l.toNat)
              have hlt : l.toNat ≤ c.toNat := by omega
              obtain ⟨m1, m2, m3⟩ := newMem hM (po := .lst ty e true (List.replicate l.toNat (zero.map .v))) (ao := .arr false ty e 0 (List.replicate c.toNat (Sim.zeroRow zero))) (ver := 0) (e := e) (len := l.toNat)
                ⟨hM.lim, by omega, rfl, by simp, _, by rw [look_new, if_pos rfl], by
                  rw [List.length_replicate, List.take_replicate, Nat.min_eq_left hlt]
                  exact RR.replicate (LR.zeroP zero) _, by simpa using hlt, fun h => by cases h⟩
              refine ⟨_, _, _, _, { v := .sl e s.n 0 0 l.toNat none, new := some (.arr false ty e 0 (List.replicate c.toNat (Sim.zeroRow zero))) }, hk, ?_, .own (ext_at C n _), m1, hle, by omega, m2, fun _ => m3⟩
              simp only [doOp, Sim.intOf]
              rw [if_pos h0]
            · cases hm
          | _ => exact none_some hk
        | _ => exact none_some hk
      | _ => cases i with
        | v iv => cases iv <;> exact none_some hk
        | _ => exact none_some hk
    | _ => cases i with
      | v iv => cases iv <;> exact none_some hk
      | _ => exact none_some hk
  · exact none_some hk
end
end Go.P
set_option linter.unusedVariables false
set_option linter.unusedSimpArgs false
namespace Go.P
open Go.Sim (AV AO Hp Ent upd St IC IX Ex OpK CK Wf Out doOp)
section
variable {R : Type} {C : Cx} {n : Nat} {h : Heap} {lim : Nat} {s : Hp} {k : OpK} {xs : List PV} {ys : List AV} {K : PV → Heap → Nat → Option R} {r : R}
theorem st_eqNil {neg : Bool} {kd : Nat} (hM : Mem C n h lim s) (hx : LR (RV C) xs ys) (hk : stepK (.eqNil neg kd) xs h n K = some r) : StepR C n h lim s (.eqNil neg kd) ys K r := by
  rcases xs with _ | ⟨x, _ | ⟨i, _ | ⟨x2, t⟩⟩⟩
  · exact none_some hk
  · exact none_some hk
  · obtain ⟨y1, _, rfl, h1, h2⟩ := hx.inv_cons
    obtain ⟨y2, _, rfl, h3, h4⟩ := h2.inv_cons
    rw [h4.inv_nil]
    have key : ∀ (q : Nat) (b : Bool), (bif Nat.beq kd q then K (.v (.bool (b != neg))) h n else none) = some r → (kd = q → ∃ a c, Sim.isNilv q y1 = some a ∧ Sim.isNilv q y2 = some c ∧ (c = true) ∧ b = a) → StepR C n h lim s (.eqNil neg kd) [y1, y2] K r := by
      intro q b hk hq
      rw [beq_iff] at hk
      by_cases e : kd = q
      · rw [decide_eq_true e, cond_true] at hk
        obtain ⟨a, c, q1, q2, rfl, rfl⟩ := hq e
        subst e
        refine pureStep hM ?_ (.cl (.v _)) hk
        simp only [doOp, q1, q2]
      · rw [decide_eq_false e] at hk; exact none_some hk
    unfold stepK at hk
    simp only at hk
    split at hk
    · rw [rv_v h1, rv_v h3] at key ⊢
      exact key 0 true hk (fun _ => ⟨true, true, rfl, rfl, rfl, rfl⟩)
    · obtain ⟨id, ver, e, len, hC, rfl⟩ := rv_ref h1
      rw [rv_v h3] at key ⊢
      exact key 1 false hk (fun _ => ⟨false, true, rfl, rfl, rfl, rfl⟩)
    · obtain ⟨cs', rfl, _⟩ := rv_ip h1
      rw [rv_v h3] at key ⊢
      exact key 1 false hk (fun _ => ⟨false, true, rfl, rfl, rfl, rfl⟩)
    · obtain ⟨a', b', rfl, _⟩ := rv_fn h1
      rw [rv_v h3] at key ⊢
      exact key 3 false hk (fun _ => ⟨false, true, rfl, rfl, rfl, rfl⟩)
    · exact none_some hk
  · exact none_some hk
theorem boundsK_some {lo hi : Bool} {len : Nat} {bs : List PV} {K : Int → Int → Option R} {bs' : List AV} (hx : LR (RV C) bs bs') (hk : boundsK lo hi len bs K = some r) : ∃ l q, Sim.bounds lo hi len bs' = some (l, q) ∧ K l q = some r := by
  unfold boundsK at hk
  split at hk
  · rw [hx.inv_nil]; exact ⟨_, _, rfl, hk⟩
  · obtain ⟨y, _, rfl, h1, h2⟩ := hx.inv_cons
    rw [h2.inv_nil, rv_v h1]
    exact ⟨_, _, rfl, hk⟩
  · obtain ⟨y, _, rfl, h1, h2⟩ := hx.inv_cons
    rw [h2.inv_nil, rv_v h1]
    exact ⟨_, _, rfl, hk⟩
  · obtain ⟨y, _, rfl, h1, h2⟩ := hx.inv_cons
    obtain ⟨y2, _, rfl, h3, h4⟩ := h2.inv_cons
    rw [h4.inv_nil, rv_v h1, rv_v h3]
    exact ⟨_, _, rfl, hk⟩
  · exact none_some hk
theorem st_slc {e : Nat} {lo hi mx : Bool} (hM : Mem C n h lim s) (hx : LR (RV C) xs ys) (hk : stepK (.slc e lo hi mx) xs h n K = some r) : StepR C n h lim s (.slc e lo hi mx) ys K r := by
  rcases xs with _ | ⟨x, bs⟩
  · exact none_some hk
  · obtain ⟨y, bs', rfl, h1, h2⟩ := hx.inv_cons
    have hk : (bif mx then none else match (generalizing := false) x with
      | .is e' rows => bif Nat.beq e' e then boundsK lo hi rows.length bs (fun l r => bindK (rowSlice rows l r) fun rows => K (.is e rows) h n) else none
      | _ => none) = some r := by
      rcases bs with _ | ⟨b, _ | ⟨c, t⟩⟩ <;> exact hk
    cases mx with
    | true => exact none_some hk
    | false =>
      rw [cond_false] at hk
      cases x with
      | is e' rows =>
        simp only [beq_iff] at hk
        by_cases e1 : e' = e
        · subst e1
          rw [decide_eq_true rfl, cond_true] at hk
          obtain ⟨l, q, hb, hk⟩ := boundsK_some h2 hk
          simp only [bindK_eq, Option.bind_eq_some_iff, rowSlice] at hk
          obtain ⟨rows2, hr2, hk⟩ := hk
          split at hr2
          · rename_i h0
            cases hr2
            rcases rv_is h1 with ⟨rows', rfl, hr⟩ | ⟨rfl, hy⟩
            · have hlen := hr.1
              refine pureStep hM ?_ (.cl ((hr.drop l.toNat).take (q.toNat - l.toNat)).is) hk
              have hb' : Sim.bounds lo hi rows'.length bs' = some (l, q) := by rw [← hlen]; exact hb
              have : Sim.sliceOp (Sim.look s.h) e' lo hi false (.is e' rows' :: bs') = some (.is e' ((rows'.drop l.toNat).take (q.toNat - l.toNat))) := by
                simp only [Sim.sliceOp]
                simp only [Bool.false_eq_true, if_false, hb']
                rw [if_pos ⟨by trivial, h0.1, h0.2.1, by rw [← hlen]; exact h0.2.2⟩]
              rcases bs' with _ | ⟨b, _ | ⟨c, t⟩⟩ <;> simp only [doOp, this, Option.map_some]
            · have hl0 : l = 0 := by simp at h0; omega
              have hq0 : q = 0 := by simp at h0; omega
              subst hl0; subst hq0
              have hb' : Sim.bounds lo hi 0 bs' = some (0, 0) := hb
              have : Sim.sliceOp (Sim.look s.h) e' lo hi false (y :: bs') = some y := by
                rcases hy with rfl | rfl <;> simp [Sim.sliceOp, hb']
              refine pureStep (y := y) hM ?_ ?_ hk
              · rcases bs' with _ | ⟨b, _ | ⟨c, t⟩⟩ <;> simp only [doOp, this, Option.map_some]
              · rcases hy with rfl | rfl
                · exact .cl .isn
                · exact .cl .ise
          · cases hr2
        · rw [decide_eq_false e1] at hk; exact none_some hk
      | _ => exact none_some hk
theorem st_slcStr {lo hi : Bool} (hM : Mem C n h lim s) (hx : LR (RV C) xs ys) (hk : stepK (.slcStr lo hi) xs h n K = some r) : StepR C n h lim s (.slcStr lo hi) ys K r := by
  rcases xs with _ | ⟨x, bs⟩
  · exact none_some hk
  · obtain ⟨y, bs', rfl, h1, h2⟩ := hx.inv_cons
    have hk : (match (generalizing := false) x with
      | .v (.string b) => boundsK lo hi b.size bs (fun l r => bindK (strSlice b l r) fun b => K (.v (.string b)) h n)
      | _ => none) = some r := by
      rcases bs with _ | ⟨b, _ | ⟨c, t⟩⟩ <;> exact hk
    cases x with
    | v xv =>
      cases xv with
      | string b =>
        rw [rv_v h1]
        obtain ⟨l, q, hb, hk⟩ := boundsK_some h2 hk
        simp only [bindK_eq, Option.bind_eq_some_iff, strSlice] at hk
        obtain ⟨b2, hr2, hk⟩ := hk
        split at hr2
        · rename_i h0
          cases hr2
          refine pureStep hM ?_ (.cl (.v _)) hk
          rcases bs' with _ | ⟨b, _ | ⟨c, t⟩⟩ <;> (simp only [doOp, hb]; rw [if_pos h0])
        · cases hr2
      | _ => exact none_some hk
    | _ => exact none_some hk
theorem cellEq_rc {k : CK} {a b : PV} {a' b' : AV} (ha : RC false a a') (hb : RC false b b') {q : Bool} (h : pCellEq k a b = some q) : Sim.cellEq k a' b' = some q := by
  unfold pCellEq at h
  split at h
  · cases ha; cases hb; exact h
  · cases ha; cases hb; exact h
  · cases ha; cases hb; exact h
  · cases h
theorem cellsEq_rc : ∀ {ks : List CK} {as bs : List PV} {as' bs' : List AV}, LR (RC false) as as' → LR (RC false) bs bs' → ∀ {q : Bool}, pCellsEq ks as bs = some q → Sim.cellsEq ks as' bs' = some q
  | [], [], [], as', bs', ha, hb, q, h => by rw [ha.inv_nil, hb.inv_nil]; exact h
  | k :: ks, a :: as, b :: bs, as', bs', ha, hb, q, h => by
    obtain ⟨y, ys, rfl, h1, h2⟩ := ha.inv_cons
    obtain ⟨z, zs, rfl, h3, h4⟩ := hb.inv_cons
    simp only [pCellsEq] at h
    simp only [Sim.cellsEq]
    split at h
    · rename_i he; rw [cellEq_rc h1 h3 he]; exact cellsEq_rc h2 h4 h
    · rename_i he; rw [cellEq_rc h1 h3 he]; exact h
    · cases h
  | [], _ :: _, _, _, _, _, _, _, h => by cases h
  | [], [], _ :: _, _, _, _, _, _, h => by cases h
  | _ :: _, [], _, _, _, _, _, _, h => by cases h
  | _ :: _, _ :: _, [], _, _, _, _, _, h => by cases h
theorem rc_agg {p : Bool} {cs : List PV} {y : AV} (h : RC p (.agg cs) y) : ∃ cs', y = .agg cs' ∧ LR (RC false) cs cs' := by
  cases h with | agg a b => exact ⟨_, rfl, a, b⟩
theorem keyEq_rc {agg : Bool} {ks : List CK} {a b : PV} {a' b' : AV} (ha : RC false a a') (hb : RC false b b') {q : Bool} (h : pKeyEq agg ks a b = some q) : Sim.keyEq agg ks a' b' = some q := by
  unfold pKeyEq at h
  unfold Sim.keyEq
  cases agg with
  | true =>
    simp only [if_true] at h ⊢
    split at h
    · obtain ⟨x, rfl, h1⟩ := rc_agg ha
      obtain ⟨y, rfl, h2⟩ := rc_agg hb
      simp only
      split at h
      · rename_i hc
        rw [if_pos ⟨by rw [← h1.1]; exact hc.1, by rw [← h2.1]; exact hc.2⟩]
        exact cellsEq_rc h1 h2 h
      · cases h
    · cases h
  | false =>
    simp only [Bool.false_eq_true, if_false] at h ⊢
    exact cellsEq_rc (.cons ha .nil) (.cons hb .nil) h
theorem ER.nil : ER [] [] := ⟨rfl, fun j x y h => by simp at h⟩
theorem ER.inv_cons {x : PV × PV} {es : List (PV × PV)} {es' : List (AV × AV)} (h : ER (x :: es) es') : ∃ y t, es' = y :: t ∧ RC false x.1 y.1 ∧ RC false x.2 y.2 ∧ ER es t := by
  cases es' with
  | nil => have := h.1; simp at this
  | cons y t => exact ⟨y, t, rfl, (h.2 0 x y rfl rfl).1, (h.2 0 x y rfl rfl).2, by have := h.1; simpa using this, fun j a b ha hb => h.2 (j + 1) a b (by simpa using ha) (by simpa using hb)⟩
theorem find_rc {agg : Bool} {ks : List CK} {k : PV} {k' : AV} (hk : RC false k k') : ∀ {es : List (PV × PV)} {es' : List (AV × AV)} {i : Nat} {o : Option (Nat × PV)}, ER es es' → pFind agg ks k es i = some o →
    ∃ o', Sim.findKey agg ks k' es' i = some o' ∧ ((o = none ∧ o' = none) ∨ ∃ j x y, o = some (j, x) ∧ o' = some (j, y) ∧ RC false x y)
  | [], es', i, o, he, h => by
    have : es' = [] := by have := he.1; simpa using this.symm
    subst this
    simp only [pFind, Option.some.injEq] at h
    exact ⟨none, rfl, .inl ⟨h.symm, rfl⟩⟩
  | (a, x) :: es, es', i, o, he, h => by
    obtain ⟨⟨b, y⟩, t, rfl, h1, h2, h3⟩ := he.inv_cons
    simp only [pFind] at h
    simp only [Sim.findKey]
    split at h
    · rename_i hq
      rw [keyEq_rc hk h1 hq]
      cases h
      exact ⟨_, rfl, .inr ⟨i, x, y, rfl, rfl, h2⟩⟩
    · rename_i hq
      rw [keyEq_rc hk h1 hq]
      exact find_rc hk h3 h
    · cases h
theorem keyOK_rc {agg : Bool} {ks : List CK} {k : PV} {k' : AV} (hk : RC false k k') (h : pKeyOK agg ks k = true) : Sim.keyOK agg ks k' = true := by
  unfold pKeyOK at h
  split at h
  · obtain ⟨cs', rfl, hl⟩ := rc_agg hk
    simp only [Bool.and_eq_true, beq_iff_eq] at h
    simp [Sim.keyOK, ← hl.1, h.2]
  · cases hk
    simp only [Bool.not_eq_true'] at h
    subst h
    rfl
  · cases h
theorem rv_closed {x : PV} {y : AV} (h : RV C x y) : ∀ {d : Nat}, closedP d x = true → RC false x y := by
  induction h with
  | cl h => intro d _; exact h
  | fn h1 h2 v1 v2 i1 i2 =>
    intro d hd
    cases d with
    | zero => simp [closedP] at hd
    | succ d =>
      simp only [closedP, Bool.and_eq_true, List.all_eq_true] at hd
      exact .fn h1 h2 (fun j x y a b => i1 j x y a b (hd.1 x (List.mem_of_getElem? a))) (fun j x y a b => i2 j x y a b (hd.2 x (List.mem_of_getElem? a)))
  | agg hl hc ih =>
    intro d hd
    cases d with
    | zero => simp [closedP] at hd
    | succ d =>
      simp only [closedP, List.all_eq_true] at hd
      exact .agg hl (fun j x y a b => ih j x y a b (hd x (List.mem_of_getElem? a)))
  | tup hl hc ih =>
    intro d hd
    cases d with
    | zero => simp [closedP] at hd
    | succ d =>
      simp only [closedP, List.all_eq_true] at hd
      exact .tup hl (fun j x y a b => ih j x y a b (hd x (List.mem_of_getElem? a)))
  | _ => intro d hd; cases d <;> simp [closedP] at hd
theorem key_closed {agg : Bool} {ks : List CK} {k : PV} {k' : AV} (hv : RV C k k') (hk : pKeyOK agg ks k = true) {es : List (PV × PV)} {i : Nat} {o : Option (Nat × PV)} (hf : pFind agg ks k es i = some o) (hcl : closedP 2 k = true) : RC false k k' := rv_closed hv hcl
theorem st_lookup {agg ok : Bool} {ks : List CK} {zero : AV} (hM : Mem C n h lim s) (hx : LR (RV C) xs ys) (hk : stepK (.lookup agg ks zero ok) xs h n K = some r) : StepR C n h lim s (.lookup agg ks zero ok) ys K r := by
  rcases xs with _ | ⟨m, _ | ⟨k, _ | ⟨x2, t⟩⟩⟩
  · exact none_some hk
  · exact none_some hk
  · obtain ⟨y1, _, rfl, h1, h2⟩ := hx.inv_cons
    obtain ⟨y2, _, rfl, h3, h4⟩ := h2.inv_cons
    rw [h4.inv_nil]
    cases hz : zero with
    | v z =>
      subst hz
      have key : ∀ (es : List (PV × PV)) (es' : List (AV × AV)), ER es es' → Sim.entsOf (Sim.look s.h) y1 = some es' →
          (bif closedP 2 k then (bif ok then bindK (mapGet2 agg ks (.v z) k es) (fun r => K (.tup [r.1, .v (.bool r.2)]) h n) else bindK (mapGet agg ks (.v z) k es) fun r => K r h n) else none) = some r → StepR C n h lim s (.lookup agg ks (.v z) ok) [y1, y2] K r := by
        intro es es' he hL hk
        cases hcl : closedP 2 k with
        | false => rw [hcl] at hk; exact none_some hk
        | true =>
        rw [hcl, cond_true] at hk
        have hkc := rv_closed h3 hcl
        cases ok with
        | true =>
          simp only [cond_true, bindK_eq, Option.bind_eq_some_iff, mapGet2] at hk
          obtain ⟨q, hq, hk⟩ := hk
          split at hq
          · rename_i hko
            simp only [Option.map_eq_some_iff] at hq
            obtain ⟨o, ho, rfl⟩ := hq
            obtain ⟨o', k1, k2⟩ := find_rc hkc he ho
            rcases k2 with ⟨rfl, rfl⟩ | ⟨j, x, y, rfl, rfl, hxy⟩
            · refine pureStep hM (y := .tup [.v z, .v (.bool false)]) ?_ ?_ hk
              · simp [doOp, keyOK_rc hkc hko, hL, k1]
              · exact .tup rfl (LR.cons (.cl (.v z)) (.cons (.cl (.v _)) .nil)).2
            · refine pureStep hM (y := .tup [y, .v (.bool true)]) ?_ ?_ hk
              · simp [doOp, keyOK_rc hkc hko, hL, k1]
              · exact .tup rfl (LR.cons (.cl hxy) (.cons (.cl (.v _)) .nil)).2
          · cases hq
        | false =>
          simp only [cond_false, bindK_eq, Option.bind_eq_some_iff, mapGet] at hk
          obtain ⟨q, hq, hk⟩ := hk
          split at hq
          · rename_i hko
            simp only [Option.map_eq_some_iff] at hq
            obtain ⟨o, ho, rfl⟩ := hq
            obtain ⟨o', k1, k2⟩ := find_rc hkc he ho
            rcases k2 with ⟨rfl, rfl⟩ | ⟨j, x, y, rfl, rfl, hxy⟩
            · refine pureStep hM (y := .v z) ?_ (.cl (.v z)) hk
              simp [doOp, keyOK_rc hkc hko, hL, k1]
            · refine pureStep hM (y := y) ?_ (.cl hxy) hk
              simp [doOp, keyOK_rc hkc hko, hL, k1]
          · cases hq
      unfold stepK at hk
      simp only at hk
      cases m with
      | im es =>
        obtain ⟨es', rfl, he⟩ := rv_im h1
        exact key es es' he rfl hk
      | map j =>
        simp only [hK_eq, Option.bind_eq_some_iff] at hk
        obtain ⟨ob, hg, hk⟩ := hk
        cases ob with
        | mp es =>
          obtain ⟨id, ver, e, len, hC, rfl⟩ := rv_map h1
          obtain ⟨_, es', hL, he⟩ := mp_of hM hg hC
          exact key es es' he.er (by simp [Sim.entsOf, hL]) hk
        | _ => exact none_some hk
      | _ => exact none_some hk
    | _ => subst hz; exact none_some hk
  · exact none_some hk
theorem rk_of {x : PV} {y : AV} (h : RV C x y) (hp : mapP x = true) : RK x y := by
  cases x with
  | agg cs =>
    obtain ⟨cs', rfl, hl⟩ := rv_agg h
    exact .inr ⟨cs, cs', rfl, rfl, hl.plain hp⟩
  | _ => exact .inl (h.plain hp)
theorem st_mapup {agg : Bool} {ks : List CK} (hM : Mem C n h lim s) (hx : LR (RV C) xs ys) (hk : stepK (.mapup agg ks) xs h n K = some r) : StepR C n h lim s (.mapup agg ks) ys K r := by
  rcases xs with _ | ⟨m, _ | ⟨k, _ | ⟨x, _ | ⟨x2, t⟩⟩⟩⟩
  · exact none_some hk
  · exact none_some hk
  · exact none_some hk
  · obtain ⟨y1, _, rfl, h1, h2⟩ := hx.inv_cons
    obtain ⟨y2, _, rfl, h3, h4⟩ := h2.inv_cons
    obtain ⟨y3, _, rfl, h5, h6⟩ := h4.inv_cons
    rw [h6.inv_nil]
    cases m with
    | map j =>
      have hk : hK h j (fun ob => match ob with
        | .mp es => bif mapP k && mapP x then bindK (mapPut agg ks k x es) fun es => hsetK h j (.mp es) fun h => K .undef h n else none
        | _ => none) = some r := hk
      simp only [hK_eq, Option.bind_eq_some_iff] at hk
      obtain ⟨ob, hg, hk⟩ := hk
      cases ob with
      | mp es =>
        by_cases hcl : (mapP k && mapP x) = true
        · simp only [hcl, cond_true, bindK_eq, Option.bind_eq_some_iff, mapPut] at hk
          simp only [Bool.and_eq_true] at hcl
          obtain ⟨es2, hp, hk⟩ := hk
          have k3 := hsetK_some _ _ _ _ _ hk
          obtain ⟨id, ver, e, len, hC, rfl⟩ := rv_map h1
          obtain ⟨hlim, es', hL, he⟩ := mp_of hM hg hC
          have hid := (hM.hr.lt (by rw [hg]; simp) hC).2
          have hkm := rk_of h3 hcl.1
          have hxm := rk_of h5 hcl.2
          have hkc := hkm.rc
          split at hp
          · rename_i hko
            simp only [Option.map_eq_some_iff] at hp
            obtain ⟨o, ho, rfl⟩ := hp
            obtain ⟨o', q1, q2⟩ := find_rc hkc he.er ho
            have fin : ∀ (es2 : List (PV × PV)) (es2' : List (AV × AV)), EM es2 es2' → K .undef (hset h j (.mp es2)) n = some r → doOp (Sim.look s.h) lim s.n (.mapup agg ks) [.map id, y2, y3] = some { v := .undef, up := some (id, .map es2') } → StepR C n h lim s (.mapup agg ks) [.map id, y2, y3] K r := by
              intro es2 es2' he2 hK2 hd
              obtain ⟨m1, m2⟩ := updMem hM (po' := .mp es2) (ao := .map es2') hg hC ⟨hlim, hid, es2', by rw [Sim.look_upd]; simp [hL], he2⟩ rfl
              exact ⟨_, _, _, _, _, hK2, hd, .undef, m1, fun _ _ h => h, Nat.le_refl _, m2, fun hh => by cases hh⟩
            rcases q2 with ⟨rfl, rfl⟩ | ⟨i, x0, y0, rfl, rfl, hxy⟩
            · refine fin _ (es' ++ [(y2, y3)]) ⟨by simp [he.1], fun i a b ha hb => ?_⟩ k3 ?_
              · rw [List.getElem?_append] at ha hb
                rw [← he.1] at hb
                split at ha
                · rename_i hi; rw [if_pos hi] at hb; exact he.2 i a b ha hb
                · rename_i hi
                  rw [if_neg hi] at hb
                  have hi0 : i - es.length = 0 := by
                    have := (List.getElem?_eq_some_iff.1 ha).1
                    simpa using this
                  rw [hi0] at ha hb
                  simp at ha hb
                  subst ha; subst hb
                  exact ⟨hkm, hxm⟩
              · simp only [doOp, hL]
                rw [if_pos ⟨hlim, keyOK_rc hkc hko⟩, q1]
            · refine fin _ (es'.set i (y2, y3)) ⟨by simp [he.1], fun l a b ha hb => ?_⟩ k3 ?_
              · rw [List.getElem?_set] at ha hb
                split at ha
                · rename_i hi
                  subst hi
                  rw [if_pos rfl] at hb
                  split at ha
                  · split at hb
                    · cases ha; cases hb; exact ⟨hkm, hxm⟩
                    · cases hb
                  · cases ha
                · rename_i hi
                  rw [if_neg hi] at hb
                  exact he.2 l a b ha hb
              · simp only [doOp, hL]
                rw [if_pos ⟨hlim, keyOK_rc hkc hko⟩, q1]
          · cases hp
        · simp only [Bool.not_eq_true] at hcl
          simp [hcl] at hk
      | _ => exact none_some hk
    | _ => exact none_some hk
  · exact none_some hk
theorem st_len {kd : Nat} (hM : Mem C n h lim s) (hx : LR (RV C) xs ys) (hk : stepK (.len kd) xs h n K = some r) : StepR C n h lim s (.len kd) ys K r := by
  rcases xs with _ | ⟨x, _ | ⟨x2, t⟩⟩
  · exact none_some hk
  · obtain ⟨y, _, rfl, h1, h2⟩ := hx.inv_cons
    rw [h2.inv_nil]
    unfold stepK at hk
    simp only [beq_iff] at hk
    split at hk
    · rename_i e rows
      by_cases e0 : kd = 0
      · subst e0
        simp only [decide_true, cond_true] at hk
        rcases rv_is h1 with ⟨rows', rfl, hr⟩ | ⟨rfl, rfl | rfl⟩
        · exact pureStep hM (by simp [doOp, ← hr.1]) (.cl (.v _)) hk
        · exact pureStep hM rfl (.cl (.v _)) hk
        · exact pureStep hM rfl (.cl (.v _)) hk
      · rw [decide_eq_false e0] at hk; exact none_some hk
    · rename_i k
      by_cases e0 : kd = 0
      · subst e0
        simp only [decide_true, cond_true, hK_eq, Option.bind_eq_some_iff] at hk
        obtain ⟨ob, hg, hk⟩ := hk
        cases ob with
        | lst ty e g rows =>
          rcases rv_own h1 with ⟨id, ver, e3, len, hC, rfl⟩ | ⟨hC, hy⟩
          · obtain ⟨_, _, hlen, _⟩ := lst_of hM hg hC
            subst hlen
            exact pureStep hM rfl (.cl (.v _)) hk
          · have := lst_nil hM hg hC
            subst this
            rcases hy with rfl | rfl
            · exact pureStep hM rfl (.cl (.v _)) hk
            · exact pureStep hM rfl (.cl (.v _)) hk
        | _ => exact none_some hk
      · rw [decide_eq_false e0] at hk; exact none_some hk
    · by_cases e0 : kd = 0
      · subst e0
        rw [rv_v h1]
        exact pureStep hM rfl (.cl (.v _)) hk
      · rw [decide_eq_false e0] at hk; exact none_some hk
    · by_cases e0 : kd = 1
      · subst e0
        rw [rv_v h1]
        exact pureStep hM rfl (.cl (.v _)) hk
      · rw [decide_eq_false e0] at hk; exact none_some hk
    · exact none_some hk
  · exact none_some hk
theorem mnK_some {mx : Bool} {k : IntKind} : ∀ {xs : List PV} {ys : List AV} {a : Int} {K : Int → Option R}, LR (RV C) xs ys → mnK mx k a xs K = some r → ∃ b, (if mx then Sim.foldMx k a ys else Sim.foldMn k a ys) = some b ∧ K b = some r
  | [], ys, a, K, hx, h => by
    rw [hx.inv_nil]
    cases mx <;> exact ⟨a, rfl, h⟩
  | x :: xs, ys, a, K, hx, h => by
    obtain ⟨y, ys', rfl, h1, h2⟩ := hx.inv_cons
    cases x with
    | v xv =>
      cases xv with
      | int k' b =>
        have h : (bif kEq k k' then mnK mx k (bif mx then (if b > a then b else a) else (if b < a then b else a)) xs K else none) = some r := h
        rw [kEq_iff] at h
        by_cases e : k = k'
        · rw [decide_eq_true e, cond_true] at h
          obtain ⟨c, k1, k2⟩ := mnK_some h2 h
          refine ⟨c, ?_, k2⟩
          rw [rv_v h1]
          cases mx
          · simpa [Sim.foldMn, e] using k1
          · simpa [Sim.foldMx, e] using k1
        · rw [decide_eq_false e] at h; exact none_some h
      | _ => exact none_some h
    | _ => exact none_some h
theorem st_mn (hM : Mem C n h lim s) (hx : LR (RV C) xs ys) (hk : stepK .mn xs h n K = some r) : StepR C n h lim s .mn ys K r := by
  rcases xs with _ | ⟨x, t⟩
  · exact none_some hk
  · obtain ⟨y, ys', rfl, h1, h2⟩ := hx.inv_cons
    have hk : (match (generalizing := false) x with
      | .v (.int k a) => mnK false k a t (fun r => K (.v (.int k r)) h n)
      | _ => none) = some r := by rcases t with _ | ⟨b, _ | ⟨c, t⟩⟩ <;> exact hk
    cases x with
    | v xv =>
      cases xv with
      | int k a =>
        obtain ⟨b, k1, k2⟩ := mnK_some h2 hk
        rw [rv_v h1]
        refine pureStep hM ?_ (.cl (.v _)) k2
        simp only [Bool.false_eq_true, if_false] at k1
        rcases ys' with _ | ⟨b, _ | ⟨c, t⟩⟩ <;> simp only [doOp, k1, Option.map_some]
      | _ => exact none_some hk
    | _ => exact none_some hk
theorem st_mx (hM : Mem C n h lim s) (hx : LR (RV C) xs ys) (hk : stepK .mx xs h n K = some r) : StepR C n h lim s .mx ys K r := by
  rcases xs with _ | ⟨x, t⟩
  · exact none_some hk
  · obtain ⟨y, ys', rfl, h1, h2⟩ := hx.inv_cons
    have hk : (match (generalizing := false) x with
      | .v (.int k a) => mnK true k a t (fun r => K (.v (.int k r)) h n)
      | _ => none) = some r := by rcases t with _ | ⟨b, _ | ⟨c, t⟩⟩ <;> exact hk
    cases x with
    | v xv =>
      cases xv with
      | int k a =>
        obtain ⟨b, k1, k2⟩ := mnK_some h2 hk
        rw [rv_v h1]
        refine pureStep hM ?_ (.cl (.v _)) k2
        simp only [if_true] at k1
        rcases ys' with _ | ⟨b, _ | ⟨c, t⟩⟩ <;> simp only [doOp, k1, Option.map_some]
      | _ => exact none_some hk
    | _ => exact none_some hk
theorem st_ext {i : Nat} (hM : Mem C n h lim s) (hx : LR (RV C) xs ys) (hk : stepK (.ext i) xs h n K = some r) : StepR C n h lim s (.ext i) ys K r := by
  rcases xs with _ | ⟨x, _ | ⟨x2, t⟩⟩
  · exact none_some hk
  · obtain ⟨y, _, rfl, h1, h2⟩ := hx.inv_cons
    rw [h2.inv_nil]
    cases x with
    | tup vs =>
      have hk : dropK i vs (fun vs => match vs with
        | v :: _ => K v h n
        | [] => none) = some r := hk
      obtain ⟨k1, k2⟩ := dropK_some _ _ _ _ hk
      obtain ⟨cs', rfl, hl⟩ := rv_tup h1
      cases hd : vs.drop i with
      | nil => rw [hd] at k2; exact none_some k2
      | cons c t =>
        rw [hd] at k2
        obtain ⟨y, hy, hv⟩ := hl.get (drop_cons hd)
        exact pureStep hM (by simp [doOp, hy]) hv k2
    | _ => exact none_some hk
  · exact none_some hk
end
end Go.P
set_option linter.unusedVariables false
set_option linter.unusedSimpArgs false
namespace Go.P
open Go.Sim (AV AO Hp Ent upd St IC IX Ex OpK CK Wf Out doOp)
theorem setL_nil {α : Type} : ∀ (cs : List α) (n : Nat), Sim.setL ([] : List α) n cs = []
  | [], _ => rfl
  | c :: cs, n => by simp only [Sim.setL, List.set_nil]; exact setL_nil cs _
theorem setL_eq {α : Type} : ∀ (l : List α) (o : Nat) (cs : List α), o + cs.length ≤ l.length → Sim.setL l o cs = l.take o ++ cs ++ l.drop (o + cs.length)
  | [], o, cs, h => by
    have h1 : cs = [] := by
      cases cs with
      | nil => rfl
      | cons a as => simp at h
    subst h1
    simp [Sim.setL]
  | a :: l, 0, [], h => by simp [Sim.setL]
  | a :: l, 0, c :: cs, h => by
    simp only [Sim.setL, List.set_cons_zero]
    rw [setL_cons, setL_eq l 0 cs (by simp at h ⊢; omega)]
    simp
  | a :: l, o + 1, cs, h => by
    rw [setL_cons, setL_eq l o cs (by simp at h ⊢; omega)]
    simp [Nat.add_right_comm]
theorem fill_flat (e : Nat) : ∀ (m i : Nat) (cells : List AV) (xs : List AV) (css : List (List AV)), cells.length = (i + m) * e → xs.length = m → css.length = m →
    (∀ (j : Nat) (x : AV), xs[j]? = some x → ∃ cs, x.cells = some cs ∧ cs.length = e ∧ css[j]? = some cs) →
    Sim.fillParts cells ((List.range' i m).map fun i => (i * e, e)) xs = some (cells.take (i * e) ++ css.flatten)
  | 0, i, cells, xs, css, h1, h2, h3, h4 => by
    have e1 : xs = [] := by simpa using h2
    have e2 : css = [] := by simpa using h3
    subst e1; subst e2
    simp only [List.range'_zero, List.map_nil, Sim.fillParts, List.flatten_nil, List.append_nil]
    rw [List.take_of_length_le (by rw [h1]; simp)]
  | m + 1, i, cells, xs, css, h1, h2, h3, h4 => by
    match xs, css, h2, h3 with
    | x :: xs, cs0 :: css, h2, h3 =>
      obtain ⟨cs, k1, k2, k3⟩ := h4 0 x rfl
      simp at k3
      subst k3
      simp only [List.range'_succ, List.map_cons, Sim.fillParts, k1]
      have hle : i * e + e ≤ cells.length := by
        rw [h1]
        have : (i + 1) * e ≤ (i + (m + 1)) * e := Nat.mul_le_mul_right _ (by omega)
        rw [Nat.add_mul, Nat.one_mul] at this
        exact this
      rw [if_pos ⟨k2, hle⟩]
      have hs := setL_eq cells (i * e) cs0 (by rw [k2]; exact hle)
      have hlen : (Sim.setL cells (i * e) cs0).length = cells.length := by
        rw [hs]
        simp [k2]
        omega
      rw [fill_flat e m (i + 1) _ xs css (by rw [hlen, h1]; congr 1; omega) (by simpa using h2) (by simpa using h3) (fun j x hx => by
        obtain ⟨c, q1, q2, q3⟩ := h4 (j + 1) x (by simpa using hx)
        exact ⟨c, q1, q2, by simpa using q3⟩)]
      congr 1
      rw [hs, List.flatten_cons, ← List.append_assoc]
      congr 1
      have hl : (cells.take (i * e) ++ cs0).length = (i + 1) * e := by
        simp [k2, Nat.add_mul]
        omega
      rw [List.take_append_of_le_length (by rw [hl]; exact Nat.le_refl _), List.take_of_length_le (by rw [hl]; exact Nat.le_refl _)]
theorem chunk (e : Nat) : ∀ (css : List (List AV)), (∀ c ∈ css, c.length = e) → (List.range css.length).map (fun i => (css.flatten.drop (i * e)).take e) = css
  | [], _ => rfl
  | c :: css, h => by
    have hc := h c (by simp)
    have ih := chunk e css (fun c hc => h c (by simp [hc]))
    rw [List.length_cons, List.range_succ_eq_map, List.map_cons, List.map_map]
    simp only [Nat.zero_mul, List.drop_zero, List.flatten_cons]
    rw [List.take_append_of_le_length (by omega), List.take_of_length_le (by omega)]
    congr 1
    refine Eq.trans (List.map_congr_left fun i _ => ?_) ih
    simp only [Function.comp]
    rw [Nat.succ_mul, Nat.add_comm, ← hc, ← List.drop_drop, List.drop_left]
theorem flat_len (l : List AV) : ∀ (m : List Nat), (m.flatMap fun _ => l).length = m.length * l.length
  | [] => by simp
  | a :: m => by
    rw [List.flatMap_cons, List.length_append, flat_len l m, List.length_cons, Nat.succ_mul, Nat.add_comm]
section
variable {R : Type} {C : Cx} {n : Nat} {h : Heap} {lim : Nat} {s : Hp} {k : OpK} {xs : List PV} {ys : List AV} {K : PV → Heap → Nat → Option R} {r : R}
theorem st_buildSl {ty : TypeId} {e len : Nat} {zero : List Value} {parts : List Nat} (hM : Mem C n h lim s) (hx : LR (RV C) xs ys) (hk : stepK (.buildSl ty e len zero parts) xs h n K = some r) : StepR C n h lim s (.buildSl ty e len zero parts) ys K r := by
  have hk : (bif upTo 0 parts && Nat.beq zero.length e then (bif Nat.beq parts.length len then rowsOfK e xs fun rows => bif Nat.beq rows.length len then K (.own n) ((n, .lst ty e false rows) :: h) (n + 1) else none else none) else none) = some r := by
    rcases xs with _ | ⟨a, _ | ⟨b, _ | ⟨c, t⟩⟩⟩ <;> exact hk
  by_cases hc : (upTo 0 parts && Nat.beq zero.length e) = true
  · rw [hc, cond_true] at hk
    simp only [Bool.and_eq_true, beq_iff, decide_eq_true_eq] at hc hk
    obtain ⟨c1, c2⟩ := hc
    by_cases c3 : parts.length = len
    · rw [decide_eq_true c3, cond_true] at hk
      obtain ⟨rows, k1, k2, k3⟩ := rowsOfK_some e xs _ r hk
      by_cases c4 : rows.length = len
      · rw [decide_eq_true c4, cond_true] at k1
        have hp := upTo_spec 0 parts c1
        rw [c3] at hp
        subst hp
        -- the rows of the interpreter
        have hrow : ∀ (j : Nat) (x : AV), ys[j]? = some x → ∃ cs, x.cells = some cs ∧ cs.length = e ∧ ∃ r, rows[j]? = some r ∧ LR (RC true) r cs := by
          intro j y hy
          have hlt : j < xs.length := by rw [hx.1]; exact (List.getElem?_eq_some_iff.1 hy).1
          obtain ⟨cs, q1, q2, q3, q4⟩ := k3 j xs[j] (by simp)
          obtain ⟨cs', p1, p2⟩ := cells_rv (hx.2 j xs[j] y (by simp) hy) q1
          exact ⟨cs', p1, by rw [← p2.1]; exact q2, cs, q4, p2.plain q3⟩
        have hrow2 : ∃ css : List (List AV), css.length = ys.length ∧ ∀ (j : Nat) (x : AV), ys[j]? = some x → ∃ cs, x.cells = some cs ∧ cs.length = e ∧ css[j]? = some cs ∧ ∃ r, rows[j]? = some r ∧ LR (RC true) r cs := by
          refine ⟨ys.map fun y => (y.cells).getD [], by simp, fun j y hy => ?_⟩
          obtain ⟨cs, p1, p2, p3⟩ := hrow j y hy
          exact ⟨cs, p1, p2, by simp [hy, p1], p3⟩
        obtain ⟨css, s1, s2⟩ := hrow2
        have hylen : ys.length = len := by rw [← hx.1, ← k2, c4]
        have hz : (Sim.zeroRow zero).length = e := by simp [Sim.zeroRow, c2]
        have hcl : ((List.range len).flatMap fun _ => Sim.zeroRow zero).length = len * e := by
          rw [flat_len, hz, List.length_range]
        have hfill := fill_flat e len 0 ((List.range len).flatMap fun _ => Sim.zeroRow zero) ys css (by rw [hcl]; simp) hylen (by rw [s1, hylen]) (fun j x hx => by
          obtain ⟨cs, p1, p2, p3, _⟩ := s2 j x hx
          exact ⟨cs, p1, p2, p3⟩)
        simp only [Nat.zero_mul, List.take_zero, List.nil_append] at hfill
        have hall : ∀ c ∈ css, c.length = e := by
          intro c hc
          obtain ⟨j, hj⟩ := List.mem_iff_getElem?.1 hc
          have hlt : j < ys.length := by rw [← s1]; exact (List.getElem?_eq_some_iff.1 hj).1
          obtain ⟨cs, p1, p2, p3, _⟩ := s2 j ys[j] (by simp)
          rw [hj] at p3
          cases p3
          exact p2
        have hchunk := chunk e css hall
        rw [s1, hylen] at hchunk
        have hRR : RR rows css := by
          refine ⟨by rw [c4, s1, hylen], fun j r0 r1 hr0 hr1 => ?_⟩
          have hlt : j < ys.length := by rw [← s1]; exact (List.getElem?_eq_some_iff.1 hr1).1
          obtain ⟨cs, p1, p2, p3, r2, p4, p5⟩ := s2 j ys[j] (by simp)
          rw [hr1] at p3; cases p3
          rw [hr0] at p4; cases p4
          exact p5
        have hle := ext_le hM (.atp s.n 0 e len)
        obtain ⟨m1, m2, m3⟩ := newMem hM (po := .lst ty e false rows) (ao := .arr false ty e 0 css) (ver := 0) (e := e) (len := len)
          ⟨hM.lim, by omega, rfl, c4.symm, css, by rw [look_new, if_pos rfl], by rw [List.take_of_length_le (by rw [s1, hylen, c4]; exact Nat.le_refl _)]; exact hRR, by rw [s1, hylen, c4]; exact Nat.le_refl _, fun _ => by rw [s1, hylen, c4]⟩
        refine ⟨_, _, _, _, { v := .sl e s.n 0 0 len none, new := some (.arr false ty e 0 css) }, k1, ?_, .own (ext_at C n _), m1, hle, by omega, m2, fun _ => m3⟩
        have : doOp (Sim.look s.h) lim s.n (.buildSl ty e len zero (List.range' 0 len)) ys = (Sim.fillParts ((List.range len).flatMap fun _ => Sim.zeroRow zero) ((List.range' 0 len).map fun i => (i * e, e)) ys).map fun cs =>
          { v := .sl e s.n 0 0 len none, new := some (.arr false ty e 0 ((List.range len).map fun i => (cs.drop (i * e)).take e)) } := by
          rcases ys with _ | ⟨a, _ | ⟨b, _ | ⟨c, t⟩⟩⟩ <;> rfl
        rw [this, hfill]
        simp only [Option.map_some]
        rw [hchunk]
      · rw [decide_eq_false c4] at k1; exact none_some k1
    · rw [decide_eq_false c3] at hk; exact none_some hk
  · simp only [Bool.not_eq_true] at hc
    rw [hc] at hk; exact none_some hk
theorem step_sim (hM : Mem C n h lim s) (hx : LR (RV C) xs ys) (hk : stepK k xs h n K = some r) : StepR C n h lim s k ys K r := by
  cases k with
  | mov => exact st_mov hM hx hk
  | nilc => exact st_nilc hM hx hk
  | box ty size => exact st_box hM hx hk
  | alloc ty zero => exact st_alloc hM hx hk
  | build zero parts => exact st_build hM hx hk
  | buildSl ty e len zero parts => exact st_buildSl hM hx hk
  | loadS => exact st_loadS hM hx hk
  | loadA m => exact st_loadA hM hx hk
  | store m => exact st_store hM hx hk
  | fad off => exact st_fad hM hx hk
  | iad e => exact st_iad hM hx hk
  | fldS off => exact st_fldS hM hx hk
  | fldA off m => exact st_fldA hM hx hk
  | idxStr => exact st_idxStr hM hx hk
  | idxA len e agg => exact st_idxA hM hx hk
  | bin op => exact st_bin hM hx hk
  | eqB neg => exact st_eqB hM hx hk
  | eqA neg ks => exact st_eqA hM hx hk
  | eqNil neg kd => exact st_eqNil hM hx hk
  | un op => exact st_un hM hx hk
  | convI k => exact st_convI hM hx hk
  | convS => exact st_convS hM hx hk
  | s2b t => exact st_s2b hM hx hk
  | mkfn f m => exact st_mkfn hM hx hk
  | mkmap => exact st_mkmap hM hx hk
  | mksl ty e b zero => exact st_mksl hM hx hk
  | slc e lo hi mx => exact st_slc hM hx hk
  | slcStr lo hi => exact st_slcStr hM hx hk
  | lookup agg ks zero ok => exact st_lookup hM hx hk
  | mapup agg ks => exact st_mapup hM hx hk
  | len kd => exact st_len hM hx hk
  | mn => exact st_mn hM hx hk
  | mx => exact st_mx hM hx hk
  | ext i => exact st_ext hM hx hk
  | _ => rcases xs with _ | ⟨a, _ | ⟨b, _ | ⟨c, _ | ⟨d, t⟩⟩⟩⟩ <;> exact none_some hk
end
end Go.P
set_option linter.unusedVariables false
set_option linter.unusedSimpArgs false
namespace Go.P
open Go.Sim (AV AO Hp Ent upd St IC IX Ex OpK CK Wf Out doOp Tab Foot foot exec runOps runFoot wanted put revF)
def isCall : OpK → Bool
  | .callF _ | .callV => true
  | _ => false
inductive Tr (T : Tab) (lim : Nat) : List Sim.Op1 → St → List Foot → St → Prop
  | nil {σ : St} : Tr T lim [] σ [] σ
  | skip {o : Sim.Op1} {os : List Sim.Op1} {σ τ : St} {fs : List Foot} (hw : wanted σ.t o.guard = false) (h : Tr T lim os { t := put σ.t o.dst .undef, s := σ.s } fs τ) : Tr T lim (o :: os) σ ({} :: fs) τ
  | op {o : Sim.Op1} {os : List Sim.Op1} {σ τ : St} {fs : List Foot} {xs : List AV} {out : Out} (hw : wanted σ.t o.guard = true) (he : Sim.evs σ.t o.xs = some xs) (hc : isCall o.k = false)
      (hd : doOp (Sim.look σ.s.h) lim σ.s.n o.k xs = some out) (h : Tr T lim os { t := put σ.t o.dst out.v, s := out.apply σ.s } fs τ) :
      Tr T lim (o :: os) σ ({ foot T o.k xs with al := List.range' σ.s.n ((out.apply σ.s).n - σ.s.n) } :: fs) τ
  | call {o : Sim.Op1} {os : List Sim.Op1} {σ τ : St} {fs : List Foot} {xs : List AV} {v : AV} (hw : wanted σ.t o.guard = true) (he : Sim.evs σ.t o.xs = some xs) (hc : isCall o.k = true) (hf : foot T o.k xs = { all := 1 })
      (hs : ∃ D, ∀ d, D ≤ d → ∀ m, Sim.step T (exec T d) lim o.k xs { h := σ.s.h, n := m } = some (v, { h := σ.s.h, n := m })) (h : Tr T lim os { t := put σ.t o.dst v, s := σ.s } fs τ) :
      Tr T lim (o :: os) σ ({ all := 1 } :: fs) τ
section
variable {T : Tab} {lim : Nat}
theorem Tr.append {as bs : List Sim.Op1} {σ τ υ : St} {fs gs : List Foot} (h : Tr T lim as σ fs τ) (k : Tr T lim bs τ gs υ) : Tr T lim (as ++ bs) σ (fs ++ gs) υ := by
  induction h with
  | nil => exact k
  | skip hw h ih => exact .skip hw (ih k)
  | op hw he hc hd h ih => exact .op hw he hc hd (ih k)
  | call hw he hc hf hs h ih => exact .call hw he hc hf hs (ih k)
theorem step_op {ex : Nat → Bool → IC → St → Option (Ex × St)} {k : OpK} {xs : List AV} {s : Hp} {out : Out} (hc : isCall k = false) (hd : doOp (Sim.look s.h) lim s.n k xs = some out) : Sim.step T ex lim k xs s = some (out.v, out.apply s) := by
  unfold Sim.step
  split
  · simp [isCall] at hc
  · simp [isCall] at hc
  · rw [hd]
theorem Tr.run {os : List Sim.Op1} {σ τ : St} {fs : List Foot} (h : Tr T lim os σ fs τ) : ∃ D, ∀ d, D ≤ d → runOps T (exec T d) lim os σ = some τ := by
  induction h with
  | nil => exact ⟨0, fun d _ => rfl⟩
  | skip hw h ih =>
    obtain ⟨D, hD⟩ := ih
    refine ⟨D, fun d hd => ?_⟩
    simp only [runOps, hw]
    exact hD d hd
  | op hw he hc hd h ih =>
    obtain ⟨D, hD⟩ := ih
    refine ⟨D, fun d hd' => ?_⟩
    simp only [runOps, hw, if_true, he, step_op hc hd]
    exact hD d hd'
  | @call o os σ τ fs xs v hw he hc hf hs h ih =>
    obtain ⟨D, hD⟩ := ih
    obtain ⟨D2, hD2⟩ := hs
    refine ⟨max D D2, fun d hd => ?_⟩
    simp only [runOps, hw, if_true, he]
    have := hD2 d (by omega) σ.s.n
    rw [show ({ h := σ.s.h, n := σ.s.n } : Hp) = σ.s from rfl] at this
    rw [this]
    exact hD d (by omega)
def cls : OpK → Nat
  | .loadS | .loadA _ | .lookup .. | .len _ | .slc .. | .b2s => 1
  | .box .. | .alloc .. | .buildSl .. | .mkmap | .mksl .. => 2
  | .callF _ | .callV => 3
  | .store _ | .mapup .. | .append .. | .copy _ | .clear .. => 4
  | _ => 0
def FootOK (c : Nat) (f : Foot) : Prop :=
  f = {} ∨ match c with
    | 0 => f = {}
    | 1 => f.wr = [] ∧ f.al = [] ∧ f.all = 0
    | 2 => f.rd = [] ∧ f.wr = [] ∧ f.all = 0
    | 3 => f = { all := 1 }
    | _ => True
def okPair (i j : Nat) : Bool :=
  i ≠ 4 && j ≠ 4 && !(i = 3 && j = 3) && !(i = 2 && (j = 3 || j = 1))
theorem compat_ok {i j : Nat} {f g : Foot} (hi : i ≤ 4) (hj : j ≤ 4) (h : okPair i j = true) (hf : FootOK i f) (hg : FootOK j g) : Sim.compat f g = true := by
  unfold FootOK at hf hg
  have e0 : ∀ g : Foot, g.all ≤ 1 → Sim.compat {} g = true := fun g hg => by simp [Sim.compat, hg]
  have e1 : ∀ f : Foot, f.all ≤ 1 → Sim.compat f {} = true := fun f hf => by simp [Sim.compat, hf]
  have a1 : ∀ {c : Nat} {f : Foot}, c ≤ 4 → c ≠ 4 → (f = {} ∨ match c with
    | 0 => f = {}
    | 1 => f.wr = [] ∧ f.al = [] ∧ f.all = 0
    | 2 => f.rd = [] ∧ f.wr = [] ∧ f.all = 0
    | 3 => f = { all := 1 }
    | _ => True) → f.all ≤ 1 := by
    intro c f hc h4 hf
    rcases hf with rfl | hf
    · simp
    · match c, hc, h4, hf with
      | 0, _, _, hf => rw [hf]; simp
      | 1, _, _, hf => rw [hf.2.2]; simp
      | 2, _, _, hf => rw [hf.2.2]; simp
      | 3, _, _, hf => rw [hf]; simp
      | 4, _, h4, _ => exact absurd rfl h4
  simp only [okPair, Bool.and_eq_true, decide_eq_true_eq, Bool.not_eq_true', ne_eq] at h
  obtain ⟨⟨⟨h1, h2⟩, h3⟩, h4⟩ := h
  have b1 := a1 hi h1 hf
  have b2 := a1 hj h2 hg
  rcases hf with rfl | hf
  · exact e0 g b2
  · rcases hg with rfl | hg
    · exact e1 f b1
    · have fin : f.wr = [] → g.wr = [] → f.al = [] ∨ (g.rd = []) → f.all + g.all ≤ 1 → Sim.compat f g = true := by
        intro q1 q2 q3 q4
        rcases q3 with q3 | q3 <;> simp [Sim.compat, q1, q2, q3, q4]
      match i, hi, h1, h3, h4, hf with
      | 0, _, _, _, _, hf => rw [hf]; exact e0 g b2
      | 1, _, _, _, _, hf =>
        obtain ⟨p1, p2, p3⟩ := hf
        match j, hj, h2, hg with
        | 0, _, _, hg => rw [hg]; exact e1 f b1
        | 1, _, _, hg => exact fin p1 hg.1 (.inl p2) (by rw [p3, hg.2.2]; simp)
        | 2, _, _, hg => exact fin p1 hg.2.1 (.inl p2) (by rw [p3, hg.2.2]; simp)
        | 3, _, _, hg => exact fin p1 (by rw [hg]) (.inl p2) (by rw [p3, hg]; simp)
        | 4, _, h2, _ => exact absurd rfl h2
      | 2, _, _, _, h4, hf =>
        obtain ⟨p1, p2, p3⟩ := hf
        match j, hj, h2, h4, hg with
        | 0, _, _, _, hg => rw [hg]; exact e1 f b1
        | 1, _, _, h4, hg => simp at h4
        | 2, _, _, _, hg => exact fin p2 hg.2.1 (.inr hg.1) (by rw [p3, hg.2.2]; simp)
        | 3, _, _, h4, hg => simp at h4
        | 4, _, h2, _, _ => exact absurd rfl h2
      | 3, _, _, h3, _, hf =>
        match j, hj, h2, h3, hg with
        | 0, _, _, _, hg => rw [hg]; exact e1 f b1
        | 1, _, _, _, hg => exact fin (by rw [hf]) hg.1 (.inl (by rw [hf])) (by rw [hf, hg.2.2]; simp)
        | 2, _, _, _, hg => exact fin (by rw [hf]) hg.2.1 (.inl (by rw [hf])) (by rw [hf, hg.2.2]; simp)
        | 3, _, _, h3, hg => simp at h3
        | 4, _, h2, _, _ => exact absurd rfl h2
      | 4, _, h1, _, _, _ => exact absurd rfl h1
theorem cls_le (k : OpK) : cls k ≤ 4 := by cases k <;> simp [cls]
theorem new_n {L : Nat → Option AO} {n : Nat} {k : OpK} {xs : List AV} {out : Out} (h : doOp L lim n k xs = some out) (hk : cls k ≤ 1) : out.new = none := by
  have hc : ∀ {o : Option Out} {P : Prop}, o = some out → (∀ o', o = some o' → o'.new = none) → out.new = none := fun h1 h2 => h2 _ h1
  unfold doOp at h
  split at h
  all_goals first | (simp [cls] at hk; done) | skip
  all_goals (repeat' split at h)
  all_goals first | (cases h; done) | (cases h; rfl) | (simp only [Option.map_eq_some_iff] at h; obtain ⟨_, _, rfl⟩ := h; rfl) | skip
theorem al_nil {s : Hp} {out : Out} (h : out.new = none) : List.range' s.n ((out.apply s).n - s.n) = [] := by
  unfold Out.apply
  rw [h]
  simp
end
end Go.P
set_option linter.unusedVariables false
set_option linter.unusedSimpArgs false
namespace Go.P
open Go.Sim (AV AO Hp Ent upd St IC IX Ex OpK CK Wf Out doOp Tab Foot foot exec runOps runFoot wanted put revF)
section
variable {T : Tab} {lim : Nat}
theorem foot_op {k : OpK} {xs : List AV} {s : Hp} {out : Out} (hc : isCall k = false) (hd : doOp (Sim.look s.h) lim s.n k xs = some out) :
    FootOK (cls k) { foot T k xs with al := List.range' s.n ((out.apply s).n - s.n) } := by
  have hal : cls k ≤ 1 → List.range' s.n ((out.apply s).n - s.n) = [] := fun h => al_nil (new_n hd h)
  cases k
  all_goals first | (simp [isCall] at hc; done) | skip
  all_goals first
    | exact .inr trivial
    | (have h0 := hal (Nat.zero_le 1); refine .inl ?_; rw [h0]; rfl)
    | (have h0 := hal (Nat.le_refl 1); refine .inr ⟨?_, h0, ?_⟩ <;> (rcases xs with _ | ⟨a, _ | ⟨b, _ | ⟨c, t⟩⟩⟩ <;> rfl))
    | exact .inr ⟨rfl, rfl, rfl⟩
theorem Tr.feet {os : List Sim.Op1} {σ τ : St} {fs : List Foot} (h : Tr T lim os σ fs τ) : fs.length = os.length ∧ ∀ (i : Nat) (o : Sim.Op1) (f : Foot), os[i]? = some o → fs[i]? = some f → FootOK (cls o.k) f := by
  induction h with
  | nil => exact ⟨rfl, fun i o f h => by simp at h⟩
  | skip hw h ih =>
    refine ⟨by simp [ih.1], fun i o f h1 h2 => ?_⟩
    cases i with
    | zero => simp at h1 h2; subst h1; subst h2; exact .inl rfl
    | succ i => simp at h1 h2; exact ih.2 i o f h1 h2
  | op hw he hc hd h ih =>
    refine ⟨by simp [ih.1], fun i o f h1 h2 => ?_⟩
    cases i with
    | zero => simp at h1 h2; subst h1; subst h2; exact foot_op hc hd
    | succ i => simp at h1 h2; exact ih.2 i o f h1 h2
  | @call o os σ τ fs xs v hw he hc hf hs h ih =>
    refine ⟨by simp [ih.1], fun i o' f h1 h2 => ?_⟩
    cases i with
    | zero =>
      simp at h1 h2; subst h1; subst h2
      have : cls o.k = 3 := by
        cases hk : o.k <;> simp [hk, isCall] at hc <;> rfl
      rw [this]
      exact .inr rfl
    | succ i => simp at h1 h2; exact ih.2 i o' f h1 h2
def statOK (ks : List Nat) (before : List Nat) : Bool :=
  (List.range ks.length).all fun j => (List.range j).all fun i => (before.getD j 0).testBit i || okPair (ks.getD i 4) (ks.getD j 4)
theorem unseen_nil {mask : Nat} {ft : Nat → Foot} : ∀ {j : Nat}, (∀ i, i < j → mask.testBit i = true ∨ (ft i).al = []) → Sim.unseen mask j (revF ft j) = []
  | 0, _ => rfl
  | j + 1, h => by
    simp only [revF, Sim.unseen, Nat.add_sub_cancel]
    rw [unseen_nil (fun i hi => h i (by omega))]
    rcases h j (by omega) with h1 | h1
    · rw [if_pos h1]; rfl
    · rw [h1]; simp
theorem okAgainst_of {mask : Nat} {f : Foot} {ft : Nat → Foot} : ∀ {j : Nat}, (∀ i, i < j → mask.testBit i = true ∨ Sim.compat (ft i) f = true) → Sim.drawOK.okAgainst mask f (revF ft j) j = true
  | 0, _ => rfl
  | j + 1, h => by
    simp only [revF, Sim.drawOK.okAgainst, Nat.add_sub_cancel, Bool.and_eq_true, Bool.or_eq_true]
    exact ⟨h j (by omega), okAgainst_of (fun i hi => h i (by omega))⟩
theorem drawOK_of {before : List Nat} {ft : Nat → Foot} : ∀ {m : Nat}, (∀ j, j < m → ∀ i, i < j → (before.getD j 0).testBit i = true ∨ Sim.compat (ft i) (ft j) = true) → Sim.drawOK before (revF ft m) m = true
  | 0, _ => rfl
  | m + 1, h => by
    simp only [revF, Sim.drawOK, Nat.add_sub_cancel, Bool.and_eq_true]
    exact ⟨okAgainst_of (h m (by omega)), drawOK_of (fun j hj => h j (by omega))⟩
theorem hide_nil (h : List Ent) : Sim.hide [] h = h := rfl
theorem Tr.foot {before : List Nat} {ks : List Nat} : ∀ {os : List Sim.Op1} {σ τ : St} {fs : List Foot}, Tr T lim os σ fs τ → ∀ (j : Nat) (ft : Nat → Foot),
    (∀ (i : Nat), i < fs.length → fs[i]? = some (ft (j + i))) → (∀ (i : Nat) (o : Sim.Op1), os[i]? = some o → ks[j + i]? = some (cls o.k)) →
    (∀ (i l k : Nat), i < l → ks[i]? = some k → ks[l]? = some 3 → (before.getD l 0).testBit i = true ∨ okPair k 3 = true) → (∀ i k, i < j → ks[i]? = some k → FootOK k (ft i)) → (∀ i, i < j → ∃ k, ks[i]? = some k ∧ k ≤ 4) →
    ∃ D, ∀ d, D ≤ d → runFoot T (exec T d) lim before os j (revF ft j) σ = some (τ, revF ft (j + os.length)) := by
  intro os σ τ fs h
  induction h with
  | nil => intro j ft _ _ _ _ _; exact ⟨0, fun d _ => rfl⟩
  | @skip o os σ τ fs hw h ih =>
    intro j ft h1 h2 h3 h4 h5
    have f0 : ft j = {} := by have := h1 0 (by simp); simpa using this.symm
    obtain ⟨D, hD⟩ := ih (j + 1) ft (fun i hi => by have := h1 (i + 1) (by simp; omega); simpa [Nat.add_assoc, Nat.add_comm 1 i] using this) (fun i o ho => by have := h2 (i + 1) o (by simpa using ho); simpa [Nat.add_assoc, Nat.add_comm 1 i] using this) h3
      (fun i k hi hk => by
        by_cases e : i = j
        · subst e; rw [f0]; exact .inl rfl
        · exact h4 i k (by omega) hk)
      (fun i hi => by
        by_cases e : i = j
        · subst e; exact ⟨_, by have := h2 0 o rfl; simpa using this, cls_le _⟩
        · exact h5 i (by omega))
    refine ⟨D, fun d hd => ?_⟩
    simp only [runFoot, hw]
    have := hD d hd
    rw [revF, f0] at this
    rw [List.length_cons, show j + (os.length + 1) = j + 1 + os.length by omega]
    exact this
  | @op o os σ τ fs xs out hw he hc hd h ih =>
    intro j ft h1 h2 h3 h4 h5
    have f0 : ft j = { Sim.foot T o.k xs with al := List.range' σ.s.n ((out.apply σ.s).n - σ.s.n) } := by have := h1 0 (by simp); simpa using this.symm
    obtain ⟨D, hD⟩ := ih (j + 1) ft (fun i hi => by have := h1 (i + 1) (by simp; omega); simpa [Nat.add_assoc, Nat.add_comm 1 i] using this) (fun i o ho => by have := h2 (i + 1) o (by simpa using ho); simpa [Nat.add_assoc, Nat.add_comm 1 i] using this) h3
      (fun i k hi hk => by
        by_cases e : i = j
        · subst e
          have := h2 0 o rfl
          rw [Nat.add_zero, hk] at this
          cases this
          rw [f0]
          exact foot_op hc hd
        · exact h4 i k (by omega) hk)
      (fun i hi => by
        by_cases e : i = j
        · subst e; exact ⟨_, by have := h2 0 o rfl; simpa using this, cls_le _⟩
        · exact h5 i (by omega))
    have hall : ¬ (Sim.foot T o.k xs).all = 1 := by
      have : (Sim.foot T o.k xs).all = 0 := by
        cases hk : o.k <;> simp [hk, isCall] at hc <;> (rcases xs with _ | ⟨a, _ | ⟨b, _ | ⟨c, t⟩⟩⟩ <;> rfl)
      omega
    refine ⟨D, fun d hd' => ?_⟩
    simp only [runFoot, hw, if_true, he]
    rw [if_neg hall, step_op hc hd]
    simp only
    have := hD d hd'
    rw [revF, f0] at this
    rw [List.length_cons, show j + (os.length + 1) = j + 1 + os.length by omega]
    exact this
  | @call o os σ τ fs xs v hw he hc hf hs h ih =>
    intro j ft h1 h2 h3 h4 h5
    have f0 : ft j = { all := 1 } := by have := h1 0 (by simp); simpa using this.symm
    have hk3 : cls o.k = 3 := by
      cases hk : o.k <;> simp [hk, isCall] at hc <;> rfl
    have hkj : ks[j]? = some 3 := by
      have := h2 0 o rfl
      rw [hk3] at this
      simpa using this
    obtain ⟨D, hD⟩ := ih (j + 1) ft (fun i hi => by have := h1 (i + 1) (by simp; omega); simpa [Nat.add_assoc, Nat.add_comm 1 i] using this) (fun i o ho => by have := h2 (i + 1) o (by simpa using ho); simpa [Nat.add_assoc, Nat.add_comm 1 i] using this) h3
      (fun i k hi hk => by
        by_cases e : i = j
        · subst e
          rw [hkj] at hk
          cases hk
          rw [f0]
          exact .inr rfl
        · exact h4 i k (by omega) hk)
      (fun i hi => by
        by_cases e : i = j
        · subst e; exact ⟨_, hkj, by omega⟩
        · exact h5 i (by omega))
    obtain ⟨D2, hD2⟩ := hs
    have hun : Sim.unseen (before.getD j 0) j (revF ft j) = [] := by
      refine unseen_nil (fun i hi => ?_)
      obtain ⟨k, hk, hk4⟩ := h5 i hi
      rcases h3 i j k hi hk hkj with h6 | h6
      · exact .inl h6
      · right
        have hfo := h4 i k hi hk
        rcases hfo with hfo | hfo
        · rw [hfo]
        · match k, hk4, h6, hfo with
          | 0, _, _, hfo => rw [hfo]
          | 1, _, _, hfo => exact hfo.2.1
          | 2, _, h6, _ => simp [okPair] at h6
          | 3, _, _, hfo => rw [hfo]
          | 4, _, h6, _ => simp [okPair] at h6
    refine ⟨max D D2, fun d hd => ?_⟩
    simp only [runFoot, hw, if_true, he]
    rw [if_pos (by rw [hf]), hun, hide_nil, hD2 d (by omega) _]
    simp only
    have := hD d (by omega)
    rw [revF, f0] at this
    rw [hf, List.length_cons, show j + (os.length + 1) = j + 1 + os.length by omega]
    exact this
theorem statOK_spec {ks before : List Nat} (h : statOK ks before = true) : ∀ (i l k k' : Nat), i < l → ks[i]? = some k → ks[l]? = some k' → (before.getD l 0).testBit i = true ∨ okPair k k' = true := by
  intro i l k k' hil hi hl
  simp only [statOK, List.all_eq_true, List.mem_range, Bool.or_eq_true] at h
  have := h l (List.getElem?_eq_some_iff.1 hl).1 i hil
  simpa [List.getD, hi, hl] using this
theorem Tr.draw {before : List Nat} {os : List Sim.Op1} {σ τ : St} {fs : List Foot} (h : Tr T lim os σ fs τ) (hst : statOK (os.map fun o => cls o.k) before = true) :
    ∃ D, ∀ d, D ≤ d → ∃ gs, runFoot T (exec T d) lim before os 0 [] σ = some (τ, gs) ∧ Sim.drawOK before gs gs.length = true := by
  let ft : Nat → Foot := fun i => fs.getD i {}
  have hfe : ∀ i, i < fs.length → fs[i]? = some (ft i) := fun i hi => by simp [ft, hi]
  obtain ⟨hl, hfeet⟩ := h.feet
  have sp := statOK_spec hst
  have hks : ∀ (i : Nat) (o : Sim.Op1), os[i]? = some o → (os.map fun o => cls o.k)[i]? = some (cls o.k) := fun i o ho => by simp [ho]
  obtain ⟨D, hD⟩ := Tr.foot (before := before) (ks := os.map fun o => cls o.k) h 0 ft (fun i hi => by rw [Nat.zero_add]; exact hfe i hi) (fun i o ho => by rw [Nat.zero_add]; exact hks i o ho)
    (fun i l k hil h1 h2 => sp i l k 3 hil h1 h2) (fun i k hi => by omega) (fun i hi => by omega)
  refine ⟨D, fun d hd => ⟨_, hD d hd, ?_⟩⟩
  rw [Nat.zero_add, Sim.revF_length]
  refine drawOK_of (fun j hj i hi => ?_)
  have oj : os[j]? = some os[j] := by simp
  have oi : os[i]? = some (os[i]'(by omega)) := by simp
  rcases sp i j _ _ hi (hks i _ oi) (hks j _ oj) with h1 | h1
  · exact .inl h1
  · right
    exact compat_ok (cls_le _) (cls_le _) h1 (hfeet i _ _ oi (hfe i (by omega))) (hfeet j _ _ oj (hfe j (by omega)))
end
end Go.P
set_option linter.unusedVariables false
set_option linter.unusedSimpArgs false
namespace Go.P
open Go.Sim (AV AO Hp Ent upd St IC IX Ex OpK CK Wf Out doOp Tab exec mapO fzI fzA fzM)
theorem mapO_id {A : Type} {f : A → Option A} : ∀ {l : List A}, (∀ x ∈ l, f x = some x) → mapO f l = some l
  | [], _ => rfl
  | a :: as, h => by
    have h1 := h a (List.mem_cons_self ..)
    have h2 := mapO_id (f := f) (l := as) (fun x hx => h x (List.mem_cons_of_mem _ hx))
    simp only [mapO, h1, h2]
section
variable {L : Nat → Option AO} {n0 : Nat}
theorem plain_fz {x : PV} {y : AV} {d : Nat} (h : RC true x y) : fzI L n0 (d + 1) y = some y := by
  cases h <;> rfl
theorem lr_mem {Q : PV → AV → Prop} {xs : List PV} {ys : List AV} (h : LR Q xs ys) {y : AV} (hy : y ∈ ys) : ∃ x, x ∈ xs ∧ Q x y := by
  obtain ⟨j, hj⟩ := List.mem_iff_getElem?.1 hy
  have hlt : j < xs.length := by rw [h.1]; exact (List.getElem?_eq_some_iff.1 hj).1
  exact ⟨xs[j], by simp, h.2 j _ y (by simp) hj⟩
theorem plain_fzL {xs : List PV} {ys : List AV} {d : Nat} (h : LR (RC true) xs ys) : mapO (fzI L n0 (d + 1)) ys = some ys :=
  mapO_id fun y hy => by
    obtain ⟨x, _, hx⟩ := lr_mem h hy
    exact plain_fz hx
theorem rows_fz {rows : List (List PV)} {els : List (List AV)} {d : Nat} (h : RR rows els) : mapO (fun row => mapO (fzI L n0 (d + 1)) row) els = some els :=
  mapO_id fun r hr => by
    obtain ⟨j, hj⟩ := List.mem_iff_getElem?.1 hr
    have hlt : j < rows.length := by rw [h.1]; exact (List.getElem?_eq_some_iff.1 hj).1
    exact plain_fzL (h.2 j rows[j] r (by simp) hj)
theorem sl_fz {rows : List (List PV)} {els : List (List AV)} {d e id ver : Nat} {bx : Bool} {ty : TypeId} (hn : n0 ≤ id) (hL : L id = some (.arr bx ty e ver els)) (hr : RR rows (els.take rows.length)) (hle : rows.length ≤ els.length) :
    fzI L n0 (d + 2) (.sl e id ver 0 rows.length none) = some (.is e (els.take rows.length)) := by
  have hc : n0 ≤ id ∧ ver = ver ∧ 0 + rows.length ≤ els.length := ⟨hn, rfl, by omega⟩
  show (match L id with
      | some (.arr _ _ e ver' els) =>
        if n0 ≤ id ∧ ver' = ver ∧ 0 + rows.length ≤ els.length then (mapO (fun row => mapO (fzI L n0 (d + 1)) row) ((els.drop 0).take rows.length)).map fun rows => AV.is e rows else none
      | _ => none) = _
  rw [hL]
  show (if n0 ≤ id ∧ ver = ver ∧ 0 + rows.length ≤ els.length then (mapO (fun row => mapO (fzI L n0 (d + 1)) row) ((els.drop 0).take rows.length)).map fun rows => AV.is e rows else none) = _
  rw [if_pos hc, List.drop_zero, rows_fz hr]
  rfl
theorem fzA_ptr {d id ver e o : Nat} {bx : Bool} {ty : TypeId} {esz : Nat} {els : List (List AV)} {row : List AV} (hL : L id = some (.arr bx ty esz ver els)) (hr : els[e]? = some row) : fzA L (d + 1) (.ptr id ver e o) = (mapO (fzA L d) (row.drop o)).map AV.ip := by
  simp [fzA, hL, hr]
theorem fzA_fn {d : Nat} {f : FuncId} {a b a' b' : List AV} (h1 : mapO (fzA L d) a = some a') (h2 : mapO (fzA L d) b = some b') : fzA L (d + 1) (.fn (.func f) a b) = some (.fn (.func f) a' b') := by
  simp [fzA, h1, h2]
theorem fzA_agg {d : Nat} {a a' : List AV} (h1 : mapO (fzA L d) a = some a') : fzA L (d + 1) (.agg a) = some (.agg a') := by
  simp [fzA, h1]
theorem rk_fz {x : PV} {y : AV} (h : RK x y) : fzM L n0 y = some y := by
  rcases h with h | ⟨cs, cs', rfl, rfl, h⟩
  · cases h <;> rfl
  · simp only [fzM, plain_fzL h, Option.map_some]
theorem map_fz {es : List (PV × PV)} {es' : List (AV × AV)} (h : EM es es') : mapO (fun (k, x) => match fzM L n0 k, fzM L n0 x with | some k, some x => some (k, x) | _, _ => none) es' = some es' :=
  mapO_id fun p hp => by
    obtain ⟨j, hj⟩ := List.mem_iff_getElem?.1 hp
    have hlt : j < es.length := by rw [h.1]; exact (List.getElem?_eq_some_iff.1 hj).1
    obtain ⟨h1, h2⟩ := h.2 j es[j] p (by simp) hj
    obtain ⟨a, b⟩ := p
    simp only [rk_fz h1, rk_fz h2]
end
section
variable {R : Type} {C : Cx} {n : Nat} {h : Heap} {lim : Nat} {s : Hp}
theorem closed_rc : ∀ {d : Nat} {x : PV} {y : AV}, closedP d x = true → RC false x y → Sim.closed d y = true
  | 0, _, _, h, _ => by simp [closedP] at h
  | d + 1, x, y, hc, hr => by
    have all : ∀ {xs : List PV} {ys : List AV}, xs.all (closedP d) = true → LR (RC false) xs ys → ys.all (Sim.closed d) = true := by
      intro xs ys hx hl
      rw [List.all_eq_true]
      intro y hy
      obtain ⟨x, hm, hq⟩ := lr_mem hl hy
      exact closed_rc (List.all_eq_true.1 hx x hm) hq
    cases hr with
    | fn h1 h2 v1 v2 =>
      simp only [closedP, Bool.and_eq_true] at hc
      simp only [Sim.closed, Bool.and_eq_true]
      exact ⟨all hc.1 ⟨h1, v1⟩, all hc.2 ⟨h2, v2⟩⟩
    | agg hl hcc =>
      simp only [closedP] at hc
      simp only [Sim.closed]
      exact all hc ⟨hl, hcc⟩
    | tup hl hcc =>
      simp only [closedP] at hc
      simp only [Sim.closed]
      exact all hc ⟨hl, hcc⟩
    | _ => rfl
def FzR (L : Nat → Option AO) (d : Nat) (x' : PV) (y : AV) : Prop := ∃ y', fzA L d y = some y' ∧ RC false x' y' ∧ ∀ D, Sim.closed D y = true → RC false x' y
theorem frz_sim (hM : Mem C n h lim s) : ∀ (d : Nat) (x : PV) (y : AV) (K : PV → Option R) (r : R), frzK h d x K = some r → RV C x y → ∃ x', K x' = some r ∧ FzR (Sim.look s.h) (d + 1) x' y
  | 0, x, y, K, r, hk, _ => by unfold frzK at hk; exact none_some hk
  | d + 1, x, y, K, r, hk, hv => by
    have lists : ∀ (xs : List PV) (ys : List AV) (K : List PV → Option R) (r : R), mapK (frzK h d) xs K = some r → LR (RV C) xs ys →
        ∃ xs' ys', K xs' = some r ∧ mapO (fzA (Sim.look s.h) (d + 1)) ys = some ys' ∧ LR (RC false) xs' ys' ∧ ((∀ y ∈ ys, ∃ D, Sim.closed D y = true) → LR (RC false) xs' ys) := by
      intro xs
      induction xs with
      | nil =>
        intro ys K r hk hl
        rw [hl.inv_nil]
        unfold mapK at hk
        exact ⟨[], [], hk, rfl, .nil, fun _ => .nil⟩
      | cons a as ih =>
        intro ys K r hk hl
        obtain ⟨y, ys', rfl, h1, h2⟩ := hl.inv_cons
        unfold mapK at hk
        obtain ⟨a', k1, b', k2, k3, k4⟩ := frz_sim hM d a y _ r hk h1
        obtain ⟨as', bs', q1, q2, q3, q4⟩ := ih ys' _ r k1 h2
        refine ⟨a' :: as', b' :: bs', q1, by simp only [mapO, k2, q2], .cons k3 q3, fun hc => ?_⟩
        obtain ⟨D, hD⟩ := hc y (by simp)
        exact .cons (k4 D hD) (q4 fun z hz => hc z (by simp [hz]))
    unfold frzK at hk
    cases x with
    | own k =>
      simp only [hK_eq, Option.bind_eq_some_iff] at hk
      obtain ⟨ob, hg, hk⟩ := hk
      cases ob with
      | lst ty e g rows =>
        refine ⟨_, hk, ?_⟩
        rcases rv_own hv with ⟨id, ver, e3, len, hC, rfl⟩ | ⟨hC, hy⟩
        · obtain ⟨_, rfl, hlen, els, hL, hr, hle, _⟩ := lst_of hM hg hC
          subst hlen
          refine ⟨.is e3 (els.take rows.length), ?_, hr.is, fun D hD => by cases D <;> simp [Sim.closed] at hD⟩
          exact sl_fz (d := 4) (Nat.zero_le _) hL hr hle
        · have := lst_nil hM hg hC
          subst this
          rcases hy with rfl | rfl
          · exact ⟨_, rfl, .isn, fun _ _ => .isn⟩
          · exact ⟨_, rfl, .ise, fun _ _ => .ise⟩
      | _ => exact none_some hk
    | map k =>
      simp only [hK_eq, Option.bind_eq_some_iff] at hk
      obtain ⟨ob, hg, hk⟩ := hk
      cases ob with
      | mp es =>
        refine ⟨_, hk, ?_⟩
        obtain ⟨id, ver, e, len, hC, rfl⟩ := rv_map hv
        obtain ⟨_, es', hL, he⟩ := mp_of hM hg hC
        refine ⟨.im es', ?_, he.er.im, fun D hD => by cases D <;> simp [Sim.closed] at hD⟩
        simp only [fzA, hL]
        exact congrArg (Option.map AV.im) (map_fz he)
      | _ => exact none_some hk
    | ref k o =>
      simp only [hK_eq, Option.bind_eq_some_iff] at hk
      obtain ⟨ob, hg, hk⟩ := hk
      cases ob with
      | box cs =>
        obtain ⟨k1, k2⟩ := dropK_some _ _ _ _ hk
        obtain ⟨id, ver, e, len, hC, rfl⟩ := rv_ref hv
        obtain ⟨_, ty, esz, row, hL, hl⟩ := box_of hM hg hC
        obtain ⟨xs', ys', q1, q2, q3, _⟩ := lists _ _ _ r k2 (hl.drop o)
        refine ⟨_, q1, .ip ys', ?_, .ip q3.1 q3.2, fun D hD => by cases D <;> simp [Sim.closed] at hD⟩
        rw [fzA_ptr hL rfl, q2]
        rfl
      | _ => exact none_some hk
    | fn f a b =>
      obtain ⟨a', b', rfl, h1, h2⟩ := rv_fn hv
      obtain ⟨xs1, ys1, p1, p2, p3, p4⟩ := lists _ _ _ r hk h1
      obtain ⟨xs2, ys2, q1, q2, q3, q4⟩ := lists _ _ _ r p1 h2
      refine ⟨_, q1, .fn (.func f) ys1 ys2, fzA_fn p2 q2, .fn p3.1 q3.1 p3.2 q3.2, fun D hD => ?_⟩
      cases D with
      | zero => simp [Sim.closed] at hD
      | succ D =>
        simp only [Sim.closed, Bool.and_eq_true, List.all_eq_true] at hD
        have w1 := p4 fun y hy => ⟨D, hD.1 y hy⟩
        have w2 := q4 fun y hy => ⟨D, hD.2 y hy⟩
        exact .fn w1.1 w2.1 w1.2 w2.2
    | agg cs =>
      obtain ⟨cs', rfl, h1⟩ := rv_agg hv
      obtain ⟨xs1, ys1, p1, p2, p3, p4⟩ := lists _ _ _ r hk h1
      refine ⟨_, p1, .agg ys1, fzA_agg p2, .agg p3.1 p3.2, fun D hD => ?_⟩
      cases D with
      | zero => simp [Sim.closed] at hD
      | succ D =>
        simp only [Sim.closed, List.all_eq_true] at hD
        have w1 := p4 fun y hy => ⟨D, hD y hy⟩
        exact .agg w1.1 w1.2
    | v x =>
      rw [rv_v hv]
      exact ⟨_, hk, _, rfl, .v x, fun _ _ => .v x⟩
    | is e rows =>
      refine ⟨_, hk, ?_⟩
      rcases rv_is hv with ⟨rows', rfl, hr⟩ | ⟨rfl, rfl | rfl⟩
      · exact ⟨_, rfl, hr.is, fun _ _ => hr.is⟩
      · exact ⟨_, rfl, .isn, fun _ _ => .isn⟩
      · exact ⟨_, rfl, .ise, fun _ _ => .ise⟩
    | ip cs =>
      obtain ⟨cs', rfl, hl⟩ := rv_ip hv
      exact ⟨_, hk, _, rfl, .ip hl.1 hl.2, fun _ _ => .ip hl.1 hl.2⟩
    | im es =>
      obtain ⟨es', rfl, he⟩ := rv_im hv
      exact ⟨_, hk, _, rfl, he.im, fun _ _ => he.im⟩
    | _ => exact none_some hk
theorem frzArgs_sim (hM : Mem C n h lim s) : ∀ (xs : List PV) (ys : List AV) (K : List PV → Option R) (r : R), frzArgs h xs K = some r → LR (RV C) xs ys →
    ∃ xs' ys', K xs' = some r ∧ mapO (fzA (Sim.look s.h) 6) ys = some ys' ∧ LR (RC false) xs' ys' ∧ ((∀ y ∈ ys, ∃ D, Sim.closed D y = true) → LR (RC false) xs' ys)
  | [], ys, K, r, hk, hl => by
    rw [hl.inv_nil]
    exact ⟨[], [], hk, rfl, .nil, fun _ => .nil⟩
  | a :: as, ys, K, r, hk, hl => by
    obtain ⟨y, ys', rfl, h1, h2⟩ := hl.inv_cons
    unfold frzArgs at hk
    obtain ⟨a', k1, b', k2, k3, k4⟩ := frz_sim hM 5 a y _ r hk h1
    obtain ⟨as', bs', q1, q2, q3, q4⟩ := frzArgs_sim hM as ys' _ r k1 h2
    refine ⟨a' :: as', b' :: bs', q1, by simp only [mapO, k2, q2], .cons k3 q3, fun hc => ?_⟩
    obtain ⟨D, hD⟩ := hc y (by simp)
    exact .cons (k4 D hD) (q4 fun z hz => hc z (by simp [hz]))
def FnOK (T : Tab) (f : FuncId) (xs : List PV) (v : PV) : Prop :=
  ∃ ifn, T f = some ifn ∧ ifn.pure = true ∧ ifn.frz = true ∧ ∀ ys, LR (RC false) xs ys → ∃ D, ∀ d, D ≤ d → ∃ w s' y, Sim.body (exec T d) 0 ifn ys { h := [], n := 0 } = some (w, s') ∧ Sim.fz (Sim.look s'.h) 0 w = some y ∧ RC false v y
theorem gnd_rc : ∀ {d : Nat} {x : PV} {y : AV}, gndP d x = true → RC false x y → Sim.gnd d y = true
  | 0, _, _, h, _ => by simp [gndP] at h
  | d + 1, x, y, hc, hr => by
    have all : ∀ {xs : List PV} {ys : List AV}, xs.all (gndP d) = true → LR (RC false) xs ys → ys.all (Sim.gnd d) = true := by
      intro xs ys hx hl
      rw [List.all_eq_true]
      intro y hy
      obtain ⟨x, hm, hq⟩ := lr_mem hl hy
      exact gnd_rc (List.all_eq_true.1 hx x hm) hq
    cases hr with
    | v x => rfl
    | agg hl hcc => simp only [gndP] at hc; simp only [Sim.gnd]; exact all hc ⟨hl, hcc⟩
    | tup hl hcc => simp only [gndP] at hc; simp only [Sim.gnd]; exact all hc ⟨hl, hcc⟩
    | _ => simp [gndP] at hc
theorem mapO_same {f : AV → Option AV} : ∀ {l r : List AV}, mapO f l = some r → (∀ x ∈ l, ∀ y ∈ r, f x = some y → x = y) → l = r
  | [], r, h, _ => by simp only [mapO, Option.some.injEq] at h; exact h
  | a :: l, r, h, hk => by
    simp only [mapO] at h
    split at h
    · rename_i b bs hb hbs
      cases h
      rw [hk a (by simp) b (by simp) hb, mapO_same hbs (fun x hx y hy => hk x (by simp [hx]) y (by simp [hy]))]
    · cases h
theorem fzI_gnd {L : Nat → Option AO} {d D : Nat} {w y : AV} (h : fzI L 0 d w = some y) (hg : Sim.gnd D y = true) : w = y := by
  cases d with
  | zero => simp [fzI] at h
  | succ d =>
    have bad : ∀ {z : AV}, z = y → (∀ v, z ≠ .v v) → (∀ v, z ≠ .agg v) → (∀ v, z ≠ .tup v) → w = y := by
      intro z e h1 h2 h3
      subst e
      cases D with
      | zero => simp [Sim.gnd] at hg
      | succ D => cases z <;> simp_all [Sim.gnd]
    simp only [fzI] at h
    split at h
    · cases h; rfl
    · cases h; rfl
    · cases h; rfl
    · cases h; rfl
    · split at h
      · split at h
        · simp only [Option.map_eq_some_iff] at h
          obtain ⟨_, _, e⟩ := h
          exact bad e (by intro v e; cases e) (by intro v e; cases e) (by intro v e; cases e)
        · cases h
      · cases h
    · split at h
      · split at h
        · split at h
          · simp only [Option.map_eq_some_iff] at h
            obtain ⟨_, _, e⟩ := h
            exact bad e (by intro v e; cases e) (by intro v e; cases e) (by intro v e; cases e)
          · cases h
        · cases h
      · cases h
    · cases h
theorem fzC_gnd {L : Nat → Option AO} {D : Nat} {w y : AV} (h : Sim.fzC L 0 w = some y) (hg : Sim.gnd D y = true) : w = y := by
  unfold Sim.fzC at h
  split at h
  · split at h
    · cases h; rfl
    · exact fzI_gnd h hg
  · split at h
    · cases h; rfl
    · exact fzI_gnd h hg
  · split at h
    · cases h; rfl
    · exact fzI_gnd h hg
  · cases h; rfl
  · exact fzI_gnd h hg
theorem fz1_gnd {L : Nat → Option AO} {D : Nat} {w y : AV} (h : Sim.fz1 L 0 w = some y) (hg : Sim.gnd D y = true) : w = y := by
  unfold Sim.fz1 at h
  split at h
  · simp only [Option.map_eq_some_iff] at h
    obtain ⟨cs, hcs, rfl⟩ := h
    cases D with
    | zero => simp [Sim.gnd] at hg
    | succ D =>
      simp only [Sim.gnd, List.all_eq_true] at hg
      rw [mapO_same hcs (fun x _ y hy hf => fzC_gnd hf (hg y hy))]
  · exact fzC_gnd h hg
theorem fz_gnd {L : Nat → Option AO} {D : Nat} {w y : AV} (h : Sim.fz L 0 w = some y) (hg : Sim.gnd D y = true) : w = y := by
  unfold Sim.fz at h
  split at h
  · simp only [Option.map_eq_some_iff] at h
    obtain ⟨cs, hcs, rfl⟩ := h
    cases D with
    | zero => simp [Sim.gnd] at hg
    | succ D =>
      simp only [Sim.gnd, List.all_eq_true] at hg
      rw [mapO_same hcs (fun x _ y hy hf => fz1_gnd hf (hg y hy))]
  · split at h
    · cases h; rfl
    · split at h
      · simp only [Option.map_eq_some_iff] at h
        obtain ⟨_, _, rfl⟩ := h
        cases D <;> simp [Sim.gnd] at hg
      · cases h
  · exact fz1_gnd h hg
theorem call_sim {T : Tab} {O : Orc} (hO : ∀ f xs v, O f xs = some v → FnOK T f xs v) (hM : Mem C n h lim s) {f : FuncId} {xs : List PV} {ys : List AV} {K : PV → Option R} {r : R} (hk : callK O f xs h K = some r) (hx : LR (RV C) xs ys) :
    ∃ v y, K v = some r ∧ RC false v y ∧ (∃ ifn, T f = some ifn ∧ ifn.pure = true) ∧ ∃ D, ∀ d, D ≤ d → ∀ m, Sim.callF T (exec T d) lim f ys { h := s.h, n := m } = some (y, { h := s.h, n := m }) := by
  unfold callK at hk
  by_cases hc : xs.all (closedP 4) = true
  · rw [hc, cond_true, bindK_eq, Option.bind_eq_some_iff] at hk
    obtain ⟨v, hv, hk⟩ := hk
    rw [fV_eq] at hk
    obtain ⟨ifn, h1, h2, h3, h4⟩ := hO f xs v hv
    have hrc : LR (RC false) xs ys := ⟨hx.1, fun j x y a b => rv_closed (hx.2 j x y a b) (List.all_eq_true.1 hc x (List.mem_of_getElem? a))⟩
    have hcl : ys.all (Sim.closed 4) = true := by
      rw [List.all_eq_true]
      intro y hy
      obtain ⟨x, hm, hq⟩ := lr_mem hrc hy
      exact closed_rc (List.all_eq_true.1 hc x hm) hq
    obtain ⟨D, hD⟩ := h4 ys hrc
    obtain ⟨w, s', y, k1, k2, k3⟩ := hD D (Nat.le_refl _)
    refine ⟨v, y, hk, k3, ⟨ifn, h1, h2⟩, D, fun d hd m => ?_⟩
    have hb := Sim.mono_body (Sim.mono_le T hd) k1
    simp only [Sim.callF, h1, h2, if_true, hcl, hb, k2, Option.map_some]
  · simp only [Bool.not_eq_true] at hc
    rw [hc, cond_false] at hk
    obtain ⟨xs', ys', q1, q2, q3, q4⟩ := frzArgs_sim hM xs ys _ r hk hx
    rw [bindK_eq, Option.bind_eq_some_iff] at q1
    obtain ⟨v, hv, q1⟩ := q1
    rw [fV_eq] at q1
    cases hg : gndP 4 v with
    | false => rw [hg] at q1; exact none_some q1
    | true =>
      rw [hg, cond_true] at q1
      obtain ⟨ifn, h1, h2, h3, h4⟩ := hO f xs' v hv
      by_cases hcl : ys.all (Sim.closed 4) = true
      · obtain ⟨D, hD⟩ := h4 ys (q4 fun y hy => ⟨4, List.all_eq_true.1 hcl y hy⟩)
        obtain ⟨w, s', y, k1, k2, k3⟩ := hD D (Nat.le_refl _)
        refine ⟨v, y, q1, k3, ⟨ifn, h1, h2⟩, D, fun d hd m => ?_⟩
        have hb := Sim.mono_body (Sim.mono_le T hd) k1
        simp only [Sim.callF, h1, h2, if_true, hcl, hb, k2, Option.map_some]
      · obtain ⟨D, hD⟩ := h4 ys' q3
        obtain ⟨w, s', y, k1, k2, k3⟩ := hD D (Nat.le_refl _)
        have hgy := gnd_rc hg k3
        have hw := fz_gnd k2 hgy
        subst hw
        refine ⟨v, w, q1, k3, ⟨ifn, h1, h2⟩, D, fun d hd m => ?_⟩
        have hb := Sim.mono_body (Sim.mono_le T hd) k1
        simp only [Sim.callF, h1, h2, h3, if_true, q2, hb, hgy]
        rw [if_neg hcl]
end
end Go.P
set_option linter.unusedVariables false
set_option linter.unusedSimpArgs false
namespace Go.P
open Go.Sim (AV AO Hp Ent upd St IC IX Ex OpK CK Wf Out doOp Tab exec)
section
variable {R : Type} {C : Cx} {n : Nat} {h : Heap} {lim : Nat} {s : Hp}
def Same (k : Nat) (C C' : Cx) : Prop := ∀ j, j ≠ k → C' j = C j
theorem kill_sim {C' : Cx} {k : Nat} (hC : Same k C C') : ∀ (d : Nat) (x : PV) (y : AV) (K : PV → Option R) (r : R), killK k d x K = some r → RV C x y → ∃ x', K x' = some r ∧ RV C' x' y
  | 0, x, y, K, r, hk, _ => by unfold killK at hk; exact ⟨_, hk, .undef⟩
  | d + 1, x, y, K, r, hk, hv => by
    have lists : ∀ (xs : List PV) (ys : List AV) (K : List PV → Option R) (r : R), killK.kills k d xs K = some r → LR (RV C) xs ys → ∃ xs', K xs' = some r ∧ LR (RV C') xs' ys := by
      intro xs
      induction xs with
      | nil =>
        intro ys K r hk hl
        rw [hl.inv_nil]
        unfold killK.kills at hk
        exact ⟨[], hk, .nil⟩
      | cons a as ih =>
        intro ys K r hk hl
        obtain ⟨y, ys', rfl, h1, h2⟩ := hl.inv_cons
        unfold killK.kills at hk
        obtain ⟨a', k1, k2⟩ := kill_sim hC d a y _ r hk h1
        obtain ⟨as', q1, q2⟩ := ih ys' _ r k1 h2
        exact ⟨a' :: as', q1, .cons k2 q2⟩
    have other : ∀ {pl : Option Pl} {j : Nat}, C j = pl → j ≠ k → C' j = pl := fun h hj => (hC _ hj).trans h
    unfold killK at hk
    cases x with
    | own j =>
      simp only [beq_iff] at hk
      by_cases e : j = k
      · rw [decide_eq_true e] at hk; exact ⟨_, hk, .undef⟩
      · rw [decide_eq_false e] at hk
        refine ⟨_, hk, ?_⟩
        rcases rv_own hv with ⟨id, ver, e3, len, hc, rfl⟩ | ⟨hc, hy⟩
        · exact .own (other hc e)
        · exact .ownn (other hc e) hy
    | el j i o =>
      simp only [beq_iff] at hk
      by_cases e : j = k
      · rw [decide_eq_true e] at hk; exact ⟨_, hk, .undef⟩
      · rw [decide_eq_false e] at hk
        obtain ⟨id, ver, e3, len, hc, rfl⟩ := rv_el hv
        exact ⟨_, hk, .el (other hc e)⟩
    | fn f a b =>
      obtain ⟨a', b', rfl, h1, h2⟩ := rv_fn hv
      obtain ⟨xs1, p1, p2⟩ := lists _ _ _ r hk h1
      obtain ⟨xs2, q1, q2⟩ := lists _ _ _ r p1 h2
      exact ⟨_, q1, .fn p2.1 q2.1 p2.2 q2.2⟩
    | agg cs =>
      obtain ⟨cs', rfl, h1⟩ := rv_agg hv
      obtain ⟨xs1, p1, p2⟩ := lists _ _ _ r hk h1
      exact ⟨_, p1, .agg p2.1 p2.2⟩
    | tup cs =>
      obtain ⟨cs', rfl, h1⟩ := rv_tup hv
      obtain ⟨xs1, p1, p2⟩ := lists _ _ _ r hk h1
      exact ⟨_, p1, .tup p2.1 p2.2⟩
    | ref j o =>
      simp only [beq_iff] at hk
      by_cases e : j = k
      · rw [decide_eq_true e] at hk; exact ⟨_, hk, .undef⟩
      · rw [decide_eq_false e] at hk
        obtain ⟨id, ver, e3, len, hc, rfl⟩ := rv_ref hv
        exact ⟨_, hk, .ref (other hc e)⟩
    | map j =>
      simp only [beq_iff] at hk
      by_cases e : j = k
      · rw [decide_eq_true e] at hk; exact ⟨_, hk, .undef⟩
      · rw [decide_eq_false e] at hk
        obtain ⟨id, ver, e3, len, hc, rfl⟩ := rv_map hv
        exact ⟨_, hk, .map (other hc e)⟩
    | v x => rw [rv_v hv]; exact ⟨_, hk, .cl (.v x)⟩
    | is e rows => exact ⟨_, hk, .cl (by cases hv with | cl h => exact h)⟩
    | ip cs => exact ⟨_, hk, .cl (by cases hv with | cl h => exact h)⟩
    | im es => exact ⟨_, hk, .cl (by cases hv with | cl h => exact h)⟩
    | undef => exact ⟨_, hk, .undef⟩
theorem kills_sim {C' : Cx} {k d : Nat} (hC : Same k C C') : ∀ (xs : List PV) (ys : List AV) (K : List PV → Option R) (r : R), killK.kills k d xs K = some r → LR (RV C) xs ys → ∃ xs', K xs' = some r ∧ LR (RV C') xs' ys
  | [], ys, K, r, hk, hl => by
    rw [hl.inv_nil]
    unfold killK.kills at hk
    exact ⟨[], hk, .nil⟩
  | a :: as, ys, K, r, hk, hl => by
    obtain ⟨y, ys', rfl, h1, h2⟩ := hl.inv_cons
    unfold killK.kills at hk
    obtain ⟨a', k1, k2⟩ := kill_sim hC d a y _ r hk h1
    obtain ⟨as', q1, q2⟩ := kills_sim hC as ys' _ r k1 h2
    exact ⟨a' :: as', q1, .cons k2 q2⟩
theorem kill_any {k : Nat} : ∀ (d : Nat) (x : PV) (K : PV → Option R) (r : R), killK k d x K = some r → ∃ x', K x' = some r ∧ ∀ {C C' : Cx} {y : AV}, Same k C C' → RV C x y → RV C' x' y
  | d, x, K, r, hk => by
    -- the result does not depend on the relation
    have det : ∃ x', (∀ {R : Type} (K : PV → Option R), killK k d x K = K x') := by
      have go : ∀ (d : Nat) (x : PV), ∃ x', ∀ {R : Type} (K : PV → Option R), killK k d x K = K x' := by
        intro d
        induction d with
        | zero => intro x; exact ⟨.undef, fun K => by unfold killK; rfl⟩
        | succ d ih =>
          have lists : ∀ (xs : List PV), ∃ xs', ∀ {R : Type} (K : List PV → Option R), killK.kills k d xs K = K xs' := by
            intro xs
            induction xs with
            | nil => exact ⟨[], fun K => by unfold killK.kills; rfl⟩
            | cons a as ihl =>
              obtain ⟨a', ha⟩ := ih a
              obtain ⟨as', has⟩ := ihl
              exact ⟨a' :: as', fun K => by unfold killK.kills; rw [ha, has]⟩
          intro x
          cases x with
          | own j => by_cases e : j = k
                     · exact ⟨.undef, fun K => by unfold killK; simp [beq_iff, e]⟩
                     · exact ⟨.own j, fun K => by unfold killK; simp [beq_iff, e]⟩
          | el j i o => by_cases e : j = k
                        · exact ⟨.undef, fun K => by unfold killK; simp [beq_iff, e]⟩
                        · exact ⟨.el j i o, fun K => by unfold killK; simp [beq_iff, e]⟩
          | ref j o => by_cases e : j = k
                       · exact ⟨.undef, fun K => by unfold killK; simp [beq_iff, e]⟩
                       · exact ⟨.ref j o, fun K => by unfold killK; simp [beq_iff, e]⟩
          | map j => by_cases e : j = k
                     · exact ⟨.undef, fun K => by unfold killK; simp [beq_iff, e]⟩
                     · exact ⟨.map j, fun K => by unfold killK; simp [beq_iff, e]⟩
          | fn f a b =>
            obtain ⟨a', ha⟩ := lists a
            obtain ⟨b', hb⟩ := lists b
            exact ⟨.fn f a' b', fun K => by unfold killK; simp only [ha, hb]⟩
          | agg cs =>
            obtain ⟨a', ha⟩ := lists cs
            exact ⟨.agg a', fun K => by unfold killK; simp only [ha]⟩
          | tup cs =>
            obtain ⟨a', ha⟩ := lists cs
            exact ⟨.tup a', fun K => by unfold killK; simp only [ha]⟩
          | v x => exact ⟨.v x, fun K => by unfold killK; rfl⟩
          | is e rows => exact ⟨.is e rows, fun K => by unfold killK; rfl⟩
          | ip cs => exact ⟨.ip cs, fun K => by unfold killK; rfl⟩
          | im es => exact ⟨.im es, fun K => by unfold killK; rfl⟩
          | undef => exact ⟨.undef, fun K => by unfold killK; rfl⟩
      exact go d x
    obtain ⟨x', hx'⟩ := det
    refine ⟨x', by rw [← hk]; exact (hx' K).symm, fun {C C' y} hC hv => ?_⟩
    obtain ⟨x2, h1, h2⟩ := kill_sim (R := PV) hC d x y some x' (hx' some) hv
    cases h1
    exact h2
def KillE (k : Nat) (e e' : Env) : Prop := ∀ i v', eget e' i = some v' → ∃ v, eget e i = some v ∧ ∀ {C C' : Cx} {y : AV}, Same k C C' → RV C v y → RV C' v' y
theorem killE_sim {k : Nat} : ∀ (e : Env) (K : Env → Option R) (r : R), killE k e K = some r → ∃ e', K e' = some r ∧ KillE k e e'
  | [], K, r, hk => ⟨[], hk, fun i v h => by simp [eget] at h⟩
  | (j, v) :: t, K, r, hk => by
    unfold killE at hk
    obtain ⟨v', k1, k2⟩ := kill_any 3 v _ r hk
    obtain ⟨t', q1, q2⟩ := killE_sim t _ r k1
    refine ⟨(j, v') :: t', q1, fun i w hw => ?_⟩
    simp only [eget] at hw ⊢
    split at hw
    · rename_i e; cases hw; rw [if_pos e]; exact ⟨v, rfl, k2⟩
    · rename_i e; rw [if_neg e]; exact q2 i w hw
def KillH (k : Nat) (h h' : Heap) : Prop := (∀ j, hget h' j = none ↔ hget h j = none) ∧ ∀ j o', hget h' j = some o' → ∃ o, hget h j = some o ∧ isBox o' = isBox o ∧
  ∀ {C C' : Cx} {L : Nat → Option AO} {lim nS : Nat} {pl : Pl}, Same k C C' → ObjR C L lim nS o pl → ObjR C' L lim nS o' pl
theorem killsAny {k d : Nat} : ∀ (xs : List PV) (K : List PV → Option R) (r : R), killK.kills k d xs K = some r → ∃ xs', K xs' = some r ∧ ∀ {C C' : Cx} {ys : List AV}, Same k C C' → LR (RV C) xs ys → LR (RV C') xs' ys
  | [], K, r, hk => by
    unfold killK.kills at hk
    exact ⟨[], hk, fun _ hl => by rw [hl.inv_nil]; exact .nil⟩
  | a :: as, K, r, hk => by
    unfold killK.kills at hk
    obtain ⟨a', k1, k2⟩ := kill_any d a _ r hk
    obtain ⟨as', q1, q2⟩ := killsAny as _ r k1
    refine ⟨a' :: as', q1, fun hC hl => ?_⟩
    obtain ⟨y, ys', rfl, h1, h2⟩ := hl.inv_cons
    exact .cons (k2 hC h1) (q2 hC h2)
theorem killH_sim {k : Nat} : ∀ (h : Heap) (K : Heap → Option R) (r : R), killH k h K = some r → ∃ h', K h' = some r ∧ KillH k h h'
  | [], K, r, hk => ⟨[], hk, fun j => Iff.rfl, fun j o h => by simp [hget] at h⟩
  | (j, o) :: t, K, r, hk => by
    have fin : ∀ (o' : PObj), killH k t (fun r => K ((j, o') :: r)) = some r → isBox o' = isBox o → (∀ {C C' : Cx} {L : Nat → Option AO} {lim nS : Nat} {pl : Pl}, Same k C C' → ObjR C L lim nS o pl → ObjR C' L lim nS o' pl) → ∃ h', K h' = some r ∧ KillH k ((j, o) :: t) h' := by
      intro o' hk hb ho
      obtain ⟨t', q1, q2, q3⟩ := killH_sim t _ r hk
      refine ⟨(j, o') :: t', q1, fun i => ?_, fun i w hw => ?_⟩
      · simp only [hget]
        split
        · simp
        · exact q2 i
      · simp only [hget] at hw ⊢
        split at hw
        · rename_i e; cases hw; rw [if_pos e]; exact ⟨o, rfl, hb, ho⟩
        · rename_i e; rw [if_neg e]; exact q3 i w hw
    unfold killH at hk
    cases o with
    | box cs =>
      obtain ⟨cs', k1, k2⟩ := killsAny cs _ r hk
      refine fin _ k1 rfl (fun {C C' L lim nS pl} hC ho => ?_)
      cases pl with
      | nil => exact ho
      | atp id ver e len =>
        obtain ⟨h1, h2, ty, esz, row, h3, h4⟩ := ho
        exact ⟨h1, h2, ty, esz, row, h3, k2 hC h4⟩
    | lst ty e g rows => exact fin _ hk rfl (fun {C C' L lim nS pl} hC ho => by cases pl <;> exact ho)
    | mp es => exact fin _ hk rfl (fun {C C' L lim nS pl} hC ho => by cases pl <;> exact ho)
theorem rows_sim (hM : Mem C n h lim s) {e : Nat} {x : PV} {y : AV} {K : List (List PV) → Option R} {r : R} (hk : rowsK h e x K = some r) (hv : RV C x y) : ∃ rows rows', K rows = some r ∧ Sim.rowsOf (Sim.look s.h) e y = some rows' ∧ RR rows rows' := by
  unfold rowsK at hk
  split at hk
  · rename_i e' rows
    rw [beq_iff] at hk
    by_cases e1 : e' = e
    · subst e1
      rw [decide_eq_true rfl, cond_true] at hk
      rcases rv_is hv with ⟨rows', rfl, hr⟩ | ⟨rfl, rfl | rfl⟩
      · exact ⟨rows, rows', hk, by simp [Sim.rowsOf], hr⟩
      · exact ⟨[], [], hk, rfl, .nil⟩
      · exact ⟨[], [], hk, rfl, .nil⟩
    · rw [decide_eq_false e1] at hk; exact none_some hk
  · rename_i k
    simp only [hK_eq, Option.bind_eq_some_iff] at hk
    obtain ⟨ob, hg, hk⟩ := hk
    cases ob with
    | lst ty e' g rows =>
      simp only [beq_iff] at hk
      by_cases e1 : e' = e
      · subst e1
        rw [decide_eq_true rfl, cond_true] at hk
        rcases rv_own hv with ⟨id, ver, e3, len, hC, rfl⟩ | ⟨hC, hy⟩
        · obtain ⟨_, rfl, hlen, els, hL, hr, hle, _⟩ := lst_of hM hg hC
          subst hlen
          refine ⟨rows, els.take rows.length, hk, ?_, hr⟩
          simp only [Sim.rowsOf, hL]
          rw [if_pos ⟨by trivial, by trivial, by omega⟩, List.drop_zero]
        · have := lst_nil hM hg hC
          subst this
          rcases hy with rfl | rfl
          · exact ⟨[], [], hk, rfl, .nil⟩
          · exact ⟨[], [], hk, rfl, .nil⟩
      · rw [decide_eq_false e1] at hk; exact none_some hk
    | _ => exact none_some hk
  · rw [rv_v hv]
    exact ⟨[], [], hk, rfl, .nil⟩
  · exact none_some hk
def mv (C : Cx) (k : Nat) (pl : Pl) : Cx := fun j => if j = k then some pl else C j
theorem mv_same (C : Cx) (k : Nat) (pl : Pl) : Same k C (mv C k pl) := fun j hj => if_neg hj
theorem mv_at (C : Cx) (k : Nat) (pl : Pl) : mv C k pl k = some pl := if_pos rfl
theorem Same.self {k : Nat} {C : Cx} : Same k C C := fun _ _ => rfl
theorem killKd {k : Nat} {po po' : PObj} {h1 : Heap} {C' : Cx} (hg : hget h k = some po) (hkl : KillH k h h1) (hb : isBox po' = false) (hC : Same k C C') :
    ∀ j o, hget h j = some o → ∃ o', hget (hset h1 k po') j = some o' ∧ (isBox o' = true → isBox o = true ∧ C' j = C j) := by
  intro j o hj
  have hg1 : (hget h1 k).isSome = true := by
    cases hc : hget h1 k with
    | none => rw [(hkl.1 k).1 hc] at hg; cases hg
    | some o => rfl
  rw [hget_hset]
  by_cases e1 : j = k
  · subst e1
    exact ⟨po', by simp [hg1], fun h => by rw [hb] at h; cases h⟩
  · rw [if_neg (fun h => e1 h.1)]
    cases hc : hget h1 j with
    | none => rw [(hkl.1 j).1 hc] at hj; cases hj
    | some o' =>
      obtain ⟨o0, q1, qb, _⟩ := hkl.2 j o' hc
      rw [hj] at q1
      cases q1
      exact ⟨o', rfl, fun h => ⟨by rw [← qb]; exact h, hC j e1⟩⟩
theorem mvMem (hM : Mem C n h lim s) {k id ver e len ty g} {rows rows2 : List (List PV)} {h1 : Heap} {s' : Hp} (hg : hget h k = some (.lst ty e g rows)) (hkl : KillH k h h1)
    (hs : s.n ≤ s'.n) (hw : Wf s'.h s'.n) (hsk : Sk s.h s'.h s.n) (hlook : ∀ i, i < s.n → i ≠ id → Sim.look s'.h i = Sim.look s.h i) (hid : s.n ≤ id ∨ ∃ v e l, C k = some (.atp id v e l))
    (ho : ObjR (mv C k (.atp id ver e len)) (Sim.look s'.h) lim s'.n (.lst ty e g rows2) (.atp id ver e len)) :
    Mem (mv C k (.atp id ver e len)) n (hset h1 k (.lst ty e g rows2)) lim s' ∧ Fr C h s (mv C k (.atp id ver e len)) (hset h1 k (.lst ty e g rows2)) s' := by
  have hg1 : (hget h1 k).isSome = true := by
    cases hc : hget h1 k with
    | none => rw [(hkl.1 k).1 hc] at hg; cases hg
    | some o => rfl
  have hget' : ∀ j, hget (hset h1 k (.lst ty e g rows2)) j = if j = k then some (.lst ty e g rows2) else hget h1 j := fun j => by
    rw [hget_hset]; simp [hg1]
  have hne : ∀ j, hget (hset h1 k (.lst ty e g rows2)) j ≠ none → hget h j ≠ none := fun j hj => by
    rw [hget'] at hj
    split at hj
    · rename_i e1; subst e1; rw [hg]; simp
    · exact fun hc => hj ((hkl.1 j).2 hc)
  -- the others do not lie at id
  have hoth : ∀ j v e l, j ≠ k → hget h j ≠ none → C j ≠ some (.atp id v e l) := by
    intro j v e2 l hj hh hc
    rcases hid with hid | ⟨v', e', l', hid⟩
    · have := (hM.hr.lt hh hc).2
      omega
    · exact hj (hM.hr.inj j k id _ _ _ _ _ _ hh (by rw [hg]; simp) hc hid)
  refine ⟨⟨⟨fun j o hj => ?_, fun j j' i v1 e1 l1 v2 e2 l2 a1 a2 a3 a4 => ?_⟩, fun j pl hj => ?_, hw, Nat.le_trans hM.lim hs⟩, ⟨hsk, hs, fun i hi hn => hlook i hi (fun e1 => hn ?_), fun i hi hn => ?_, killKd hg hkl rfl (mv_same C k _)⟩⟩
  · rw [hget'] at hj
    split at hj
    · rename_i e1
      subst e1
      cases hj
      exact ⟨_, mv_at C j _, ho⟩
    · rename_i hjk
      obtain ⟨o0, q1, qb, q2⟩ := hkl.2 j o hj
      obtain ⟨pl, k1, k2⟩ := hM.hr.ob j o0 q1
      refine ⟨pl, (mv_same C k _ j hjk).trans k1, ?_⟩
      have k3 : ObjR (mv C k (.atp id ver e len)) (Sim.look s.h) lim s.n o pl := q2 (mv_same C k _) k2
      refine k3.mono hs (fun _ _ h => h) (fun i v1 e1 l1 hp => ?_)
      subst hp
      exact hlook i k3.lt.2 (fun e2 => by subst e2; exact hoth j _ _ _ hjk (by rw [q1]; simp) k1)
  · by_cases b1 : j = k
    · by_cases b2 : j' = k
      · rw [b1, b2]
      · exfalso
        subst b1
        rw [mv_at] at a3
        cases a3
        rw [mv_same C j _ j' b2] at a4
        exact hoth j' _ _ _ b2 (hne j' a2) a4
    · by_cases b2 : j' = k
      · exfalso
        subst b2
        rw [mv_at] at a4
        cases a4
        rw [mv_same C j' _ j b1] at a3
        exact hoth j _ _ _ b1 (hne j a1) a3
      · rw [mv_same C k _ j b1] at a3
        rw [mv_same C k _ j' b2] at a4
        exact hM.hr.inj j j' i v1 e1 l1 v2 e2 l2 (hne j a1) (hne j' a2) a3 a4
  · by_cases b1 : j = k
    · subst b1
      obtain ⟨pl', k1, _⟩ := hM.hr.ob j _ hg
      exact hM.dom j pl' k1
    · exact hM.dom j pl ((mv_same C k _ j b1).symm.trans hj)
  · subst e1
    rcases hid with hid | ⟨v', e', l', hid⟩
    · omega
    · exact ⟨k, v', e', l', by rw [hg]; simp, hid⟩
  · obtain ⟨j, v1, e1, l1, k1, k2⟩ := hn
    by_cases b1 : j = k
    · subst b1
      rw [mv_at] at k2
      cases k2
      rcases hid with hid | ⟨v', e', l', hid⟩
      · omega
      · exact ⟨j, v', e', l', by rw [hg]; simp, hid⟩
    · exact ⟨j, v1, e1, l1, hne j k1, (mv_same C k _ j b1).symm.trans k2⟩
end
end Go.P
set_option linter.unusedVariables false
set_option linter.unusedSimpArgs false
namespace Go.P
open Go.Sim (AV AO Hp Ent upd St IC IX Ex OpK CK Wf Out doOp Tab exec)
def EnvR (C : Cx) (e : Env) (t : List AV) : Prop := ∀ i v, eget e i = some v → ∃ y, t[i]? = some y ∧ RV C v y
theorem EnvR.mono {C C' : Cx} {e : Env} {t : List AV} (h : EnvR C e t) (hC : ∀ k pl, C k = some pl → C' k = some pl) : EnvR C' e t := fun i v hv => by
  obtain ⟨y, h1, h2⟩ := h i v hv
  exact ⟨y, h1, h2.mono hC⟩
theorem EnvR.put {C' : Cx} {e' : Env} {t : List AV} {d : Nat} {v : PV} {y : AV} (hd : d < t.length) (hv : RV C' v y) (he : ∀ i w, eget e' i = some w → ∃ z, t[i]? = some z ∧ RV C' w z ∧ i ≠ d) : EnvR C' ((d, v) :: e') (t.set d y) := by
  intro i w hw
  simp only [eget] at hw
  split at hw
  · rename_i e1
    subst e1
    cases hw
    exact ⟨y, by simp [hd], hv⟩
  · rename_i e1
    obtain ⟨z, h1, h2, h3⟩ := he i w hw
    exact ⟨z, by rw [List.getElem?_set_ne (Ne.symm h3)]; exact h1, h2⟩
theorem EnvR.edel {C : Cx} {e : Env} {t : List AV} (h : EnvR C e t) (is : List Nat) : ∀ i w, eget (edel e is) i = some w → ∃ z, t[i]? = some z ∧ RV C w z ∧ i ∉ is := fun i w hw => by
  rw [eget_edel] at hw
  split at hw
  · cases hw
  · rename_i hi
    obtain ⟨z, h1, h2⟩ := h i w hw
    exact ⟨z, h1, h2, hi⟩
section
variable {R : Type} {C : Cx} {n : Nat} {h : Heap} {lim : Nat} {s : Hp}
theorem sameMem (hM : Mem C n h lim s) {k : Nat} {po : PObj} {h1 : Heap} (hg : hget h k = some po) (hkl : KillH k h h1) (hb : isBox po = false) : Mem C n (hset h1 k po) lim s ∧ Fr C h s C (hset h1 k po) s := by
  have hg1 : (hget h1 k).isSome = true := by
    cases hc : hget h1 k with
    | none => rw [(hkl.1 k).1 hc] at hg; cases hg
    | some o => rfl
  have hget' : ∀ j, hget (hset h1 k po) j = if j = k then some po else hget h1 j := fun j => by
    rw [hget_hset]; simp [hg1]
  have hne : ∀ j, hget (hset h1 k po) j ≠ none → hget h j ≠ none := fun j hj => by
    rw [hget'] at hj
    split at hj
    · rename_i e1; subst e1; rw [hg]; simp
    · exact fun hc => hj ((hkl.1 j).2 hc)
  refine ⟨⟨⟨fun j o hj => ?_, fun j j' i v1 e1 l1 v2 e2 l2 a1 a2 a3 a4 => hM.hr.inj j j' i v1 e1 l1 v2 e2 l2 (hne j a1) (hne j' a2) a3 a4⟩, hM.dom, hM.wf, hM.lim⟩, ⟨.refl _ _, Nat.le_refl _, fun _ _ _ => rfl, fun i hi ho => ?_, killKd hg hkl hb Same.self⟩⟩
  · rw [hget'] at hj
    split at hj
    · rename_i e1
      subst e1
      cases hj
      exact hM.hr.ob j _ hg
    · obtain ⟨o0, q1, qb, q2⟩ := hkl.2 j o hj
      obtain ⟨pl, k1, k2⟩ := hM.hr.ob j o0 q1
      exact ⟨pl, k1, q2 Same.self k2⟩
  · obtain ⟨j, v1, e1, l1, k1, k2⟩ := ho
    exact ⟨j, v1, e1, l1, hne j k1, k2⟩
theorem app_sim (hM : Mem C n h lim s) {e : Env} {t : List AV} {d ty es b : Nat} {zero : List Value} {kill : List Nat} {x1 x2 : PV} {y1 y2 : AV} {K : Env → Heap → Option R} {r : R} (he : EnvR C e t) (hd : d < t.length) (h1 : RV C x1 y1) (h2 : RV C x2 y2)
    (hk : appK e h d ty es kill x1 x2 K = some r) :
    ∃ C' e' h' out, K e' h' = some r ∧ doOp (Sim.look s.h) lim s.n (.append ty es b zero false) [y1, y2] = some out ∧ Mem C' n h' lim (out.apply s) ∧ EnvR C' e' (t.set d out.v) ∧ Fr C h s C' h' (out.apply s) := by
  unfold appK at hk
  cases x1 with
  | own k =>
    obtain ⟨new, new', hk', hro, hrr⟩ := rows_sim hM hk h2
    clear hk
    simp only [hK_eq, Option.bind_eq_some_iff] at hk'
    obtain ⟨ob, hg, hk⟩ := hk'
    cases ob with
    | lst ty' es' g rows =>
      by_cases hc : (Nat.beq es' es && Nat.beq ty' ty) = true
      · simp only [hc, cond_true, bindK_eq, Option.bind_eq_some_iff] at hk
        simp only [Bool.and_eq_true, beq_iff, decide_eq_true_eq] at hc
        obtain ⟨rfl, rfl⟩ := hc
        obtain ⟨rows2, happr, hk⟩ := hk
        rw [delK_eq] at hk
        obtain ⟨e2, hk, hke⟩ := killE_sim _ _ _ hk
        obtain ⟨h2', hk, hkh⟩ := killH_sim _ _ _ hk
        have hk := hsetK_some _ _ _ _ _ hk
        unfold appRows at happr
        split at happr
        · rename_i hroom
          obtain rfl : rows ++ new = rows2 := Option.some.inj happr
          have henv : ∀ {C' : Cx}, Same k C C' → ∀ i w, eget e2 i = some w → ∃ z, t[i]? = some z ∧ RV C' w z ∧ i ≠ d := by
            intro C' hC i w hw
            obtain ⟨v, q1, q2⟩ := hke i w hw
            obtain ⟨z, p1, p2, p3⟩ := he.edel (d :: kill) i v q1
            exact ⟨z, p1, q2 hC p2, fun e1 => p3 (by simp [e1])⟩
          have hdo : ∀ out, Sim.appendTo (Sim.look s.h) lim s.n ty' es' y1 new' = some out → (∀ z id ver off len cap, out.v = .sl z id ver off len cap → len ≤ Sim.maxRoom) → doOp (Sim.look s.h) lim s.n (.append ty' es' b zero false) [y1, y2] = some out := by
            intro out ho hl
            simp only [doOp, Sim.appRows, Bool.false_eq_true, if_false, hro, ho]
            split
            · rename_i hv
              rw [if_pos ⟨hl _ _ _ _ _ _ hv, by rw [← hrr.1]; omega⟩]
            · rfl
          have hlen := hrr.1
          by_cases hemp : new' = []
          · -- nothing is appended
            subst hemp
            have hnew : new = [] := by simpa using hlen
            subst hnew
            rw [List.append_nil] at hk
            obtain ⟨m1, m2⟩ := sameMem hM hg hkh rfl
            refine ⟨C, _, _, { v := y1 }, hk, hdo _ ?_ ?_, m1, .put hd h1 (henv Same.self), m2⟩
            · rcases rv_own h1 with ⟨id, ver, e3, len, hC, rfl⟩ | ⟨hC, hy⟩
              · obtain ⟨hlim, rfl, hl, els, hL, hr, hle, _⟩ := lst_of hM hg hC
                simp only [Sim.appendTo, hL]
                rw [if_pos ⟨by trivial, by trivial, by trivial, by omega⟩]
                rfl
              · rcases hy with rfl | rfl <;> rfl
            · intro z id ver off len cap hv
              rcases rv_own h1 with ⟨id', ver', e3, len', hC, rfl⟩ | ⟨hC, hy⟩
              · obtain ⟨hlim, rfl, hl, _⟩ := lst_of hM hg hC
                cases hv
                omega
              · rcases hy with rfl | rfl <;> cases hv
          · have hpos : new'.isEmpty = false := by cases new' <;> simp_all
            rcases rv_own h1 with ⟨id, ver, e3, len, hC, rfl⟩ | ⟨hC, hy⟩
            · obtain ⟨hlim, rfl, hl, els, hL, hr, hle, hgl⟩ := lst_of hM hg hC
              subst hl
              have hid := (hM.hr.lt (by rw [hg]; simp) hC).2
              have fin : ∀ (ver2 : Nat) (els2 : List (List AV)) (out : Out), out = { v := .sl e3 id ver2 0 (rows.length + new'.length) none, up := some (id, .arr false ty' e3 ver2 els2) } →
                  Sim.appendTo (Sim.look s.h) lim s.n ty' e3 (.sl e3 id ver 0 rows.length none) new' = some out →
                  RR (rows ++ new) (els2.take (rows ++ new).length) → (rows ++ new).length ≤ els2.length → (g = false → els2.length = (rows ++ new).length) →
                  ∃ C' e' h' out, K e' h' = some r ∧ doOp (Sim.look s.h) lim s.n (.append ty' e3 b zero false) [.sl e3 id ver 0 rows.length none, y2] = some out ∧ Mem C' n h' lim (out.apply s) ∧ EnvR C' e' (t.set d out.v) ∧ Fr C h s C' h' (out.apply s) := by
                intro ver2 els2 out ho hap hrr2 hle2 hg2
                have happ : (out.apply s).h = upd s.h id (.arr false ty' e3 ver2 els2) ∧ (out.apply s).n = s.n := by subst ho; exact ⟨rfl, rfl⟩
                have hlk : ∀ i, i ≠ id → Sim.look (upd s.h id (.arr false ty' e3 ver2 els2)) i = Sim.look s.h i := fun i hi => by
                  rw [Sim.look_upd]; simp [hi]
                have happ2 : out.apply s = { h := upd s.h id (.arr false ty' e3 ver2 els2), n := s.n } := by subst ho; rfl
                obtain ⟨m1, m2⟩ := mvMem (id := id) (ver := ver2) (e := e3) (len := (rows ++ new).length) (rows2 := rows ++ new) (s' := { h := upd s.h id (.arr false ty' e3 ver2 els2), n := s.n }) hM hg hkh
                  (Nat.le_refl _) (hM.wf.upd _ _) (.upd _ _ _ _) (fun i _ hi => hlk i hi) (.inr ⟨_, _, _, hC⟩) ⟨hlim, hid, rfl, rfl, els2, by rw [Sim.look_upd]; simp [hL], hrr2, hle2, hg2⟩
                refine ⟨_, _, _, out, hk, hdo out hap ?_, by rw [happ2]; exact m1, ?_, by rw [happ2]; exact m2⟩
                · intro z id' ver' off len' cap hv
                  subst ho
                  cases hv
                  omega
                · subst ho
                  refine .put hd ?_ (henv (mv_same C k _))
                  have : RV (mv C k (.atp id ver2 e3 (rows ++ new).length)) (.own k) (.sl e3 id ver2 0 (rows ++ new).length none) := .own (mv_at C k _)
                  rw [List.length_append, hlen] at this
                  simpa [hlen] using this
              by_cases hfull : rows.length = els.length
              · refine fin (ver + 1) (els ++ new') _ rfl ?_ ?_ ?_ ?_
                · simp only [Sim.appendTo, hL]
                  rw [if_pos ⟨by trivial, by trivial, by trivial, by omega⟩]
                  simp only [hpos, Bool.false_eq_true, if_false]
                  rw [if_pos (by omega), if_pos ⟨by trivial, hlim, by trivial⟩]
                · rw [List.take_of_length_le (by simp; omega)]
                  refine RR.append ?_ hrr
                  rw [List.take_of_length_le (by omega)] at hr
                  exact hr
                · simp; omega
                · intro _; simp; omega
              · have hgt : g = true := by
                  cases g with
                  | true => rfl
                  | false => exact absurd (hgl rfl).symm hfull
                have h1' := hroom.2 hgt
                have hone : new'.length = 1 := by
                  have : new'.length ≠ 0 := by simpa using hemp
                  omega
                have hfit : rows.length + new'.length ≤ els.length := by omega
                refine fin ver (Sim.setL els rows.length new') _ rfl ?_ ?_ ?_ ?_
                · simp only [Sim.appendTo, hL]
                  rw [if_pos ⟨by trivial, by trivial, by trivial, by omega⟩]
                  simp only [hpos, Bool.false_eq_true, if_false]
                  rw [if_neg (by omega), if_pos ⟨by omega, hlim⟩]
                  rw [Nat.zero_add]
                · rw [setL_eq els rows.length new' hfit]
                  have e1 : (els.take rows.length ++ new' ++ els.drop (rows.length + new'.length)).take (rows ++ new).length = els.take rows.length ++ new' := by
                    rw [List.take_append_of_le_length (by simp; omega), List.take_of_length_le (by simp; omega)]
                  rw [e1]
                  exact hr.append hrr
                · rw [setL_eq els rows.length new' hfit]
                  simp [hlen]
                  omega
                · intro hgf; rw [hgt] at hgf; cases hgf
            · -- the first elements
              have hr0 := lst_nil hM hg hC
              subst hr0
              have happ : Sim.appendTo (Sim.look s.h) lim s.n ty' es' y1 new' = some { v := .sl es' s.n 0 0 new'.length none, new := some (.arr false ty' es' 0 new') } := by
                rcases hy with rfl | rfl <;> simp [Sim.appendTo, hpos]
              have hlk : ∀ i, i < s.n → Sim.look (.ob s.n (.arr false ty' es' 0 new') :: s.h) i = Sim.look s.h i := fun i hi => by
                rw [look_new, if_neg (by omega)]
              obtain ⟨m1, m2⟩ := mvMem (id := s.n) (ver := 0) (e := es') (len := ([] ++ new).length) (rows2 := [] ++ new) (s' := { h := .ob s.n (.arr false ty' es' 0 new') :: s.h, n := s.n + 1 }) hM hg hkh
                (by show s.n ≤ s.n + 1; omega) ⟨by simp, hM.wf⟩ (.new _ _ _) (fun i hi _ => hlk i hi) (.inl (Nat.le_refl _)) ⟨hM.lim, by show s.n < s.n + 1; omega, rfl, rfl, new', by rw [look_new, if_pos rfl], by rw [List.take_of_length_le (by simp; omega)]; exact hrr, by simp; omega, fun _ => by simp; omega⟩
              refine ⟨_, _, _, _, hk, hdo _ happ ?_, m1, .put hd ?_ (henv (mv_same C k _)), m2⟩
              · intro z id' ver' off len' cap hv
                cases hv
                simp at hroom
                omega
              · have : RV (mv C k (.atp s.n 0 es' ([] ++ new).length)) (.own k) (.sl es' s.n 0 0 ([] ++ new).length none) := .own (mv_at C k _)
                simpa [hlen] using this
        · cases happr
      · simp only [Bool.not_eq_true] at hc
        simp only [hc] at hk; exact none_some hk
    | _ => exact none_some hk
  | _ => exact none_some hk
end
end Go.P
set_option linter.unusedVariables false
set_option linter.unusedSimpArgs false
namespace Go.P
open Go.Sim (AV AO Hp Ent upd St IC IX Ex OpK CK Wf Out doOp Tab exec Foot wanted put)
def eCell : PV → AV
  | .v x => .v x
  | _ => .tup []
def eV : PV → AV
  | .v x => .v x
  | .is _ [] => .v (.slice none 0 0)
  | .fn f [] [] => .fn (.func f) [] []
  | .agg cs => .agg (cs.map eCell)
  | _ => .tup []
def isV : PV → Bool
  | .v _ => true
  | _ => false
def okC : PV → Bool
  | .v _ => true
  | .is _ [] => true
  | .fn _ [] [] => true
  | .agg cs => cs.all isV
  | _ => false
theorem const_rc {x : PV} (h : okC x = true) : RC false x (eV x) := by
  unfold okC at h
  split at h
  · exact .v _
  · exact .isn
  · exact .fn rfl rfl (fun j x y h => by simp at h) (fun j x y h => by simp at h)
  · rename_i cs
    refine .agg (by simp) (fun j x y hx hy => ?_)
    simp only [List.getElem?_map, Option.map_eq_some_iff] at hy
    obtain ⟨x', h1, rfl⟩ := hy
    rw [hx] at h1
    cases h1
    have := List.all_eq_true.1 h x (List.mem_of_getElem? hx)
    cases x <;> simp [isV] at this
    exact .v _
  · cases h
def eX : PX → IX
  | .t i => .t i
  | .c x => .c (eV x)
def okX (N : Nat) : PX → Bool
  | .t i => Nat.blt i N
  | .c x => okC x
def erO (g : Option (Nat × Bool)) : POs → List Sim.Op1
  | .nil => []
  | .op d k xs _ r => ⟨some d, k, xs.map eX, g⟩ :: erO g r
  | .sto k xs _ r => ⟨none, k, xs.map eX, g⟩ :: erO g r
  | .ifx d c w b x _ r => erO (some (c, w)) b ++ ⟨some d, .pick, if w then [.t c, eX x, .c (.v (.bool false))] else [.t c, .c (.v (.bool true)), eX x], g⟩ :: erO g r
  | .lax _ _ r => erO g r
  | .own _ _ _ r => erO g r
  | .ownc _ _ _ _ r => erO g r
def okO (N : Nat) (gs : List Nat) (inG : Bool) : List Nat → POs → Bool
  | _, .nil => true
  | ds, .op d _ xs _ r => Nat.blt d N && !mem d gs && xs.all (okX N) && okO N gs inG (d :: ds) r
  | ds, .sto _ xs _ r => !inG && xs.all (okX N) && okO N gs inG ds r
  | ds, .ifx d c _ b x _ r => Nat.blt d N && !mem d gs && okX N x && (!inG || mem c ds) && okO N (c :: gs) true [] b && okO N gs inG (d :: ds) r
  | ds, .lax _ _ r => !inG && okO N gs inG ds r
  | ds, .own _ _ _ r => !inG && okO N gs inG ds r
  | ds, .ownc _ _ _ _ r => !inG && okO N gs inG ds r
section
variable {R : Type} {C : Cx} {n N : Nat} {h : Heap} {lim : Nat} {s : Hp} {T : Tab} {O : Orc} {e : Env} {t : List AV}
theorem evs_sim (he : EnvR C e t) : ∀ {xs : List PX} {vs : List PV}, xs.all (okX N) = true → evs e xs = some vs → ∃ ys, Sim.evs t (xs.map eX) = some ys ∧ LR (RV C) vs ys
  | [], vs, _, h => by
    simp only [evs, Option.some.injEq] at h
    subst h
    exact ⟨[], rfl, .nil⟩
  | .t i :: xs, vs, ho, h => by
    simp only [evs, Option.bind_eq_some_iff, Option.some.injEq] at h
    obtain ⟨v, hv, vs', hvs, rfl⟩ := h
    obtain ⟨y, h1, h2⟩ := he i v hv
    obtain ⟨ys, k1, k2⟩ := evs_sim he (xs := xs) (by simp only [List.all_cons, Bool.and_eq_true] at ho; exact ho.2) hvs
    exact ⟨y :: ys, by simp [Sim.evs, eX, IX.ev, h1, k1], .cons h2 k2⟩
  | .c x :: xs, vs, ho, h => by
    simp only [evs, Option.bind_eq_some_iff, Option.some.injEq] at h
    obtain ⟨vs', hvs, rfl⟩ := h
    simp only [List.all_cons, Bool.and_eq_true] at ho
    obtain ⟨ys, k1, k2⟩ := evs_sim he (xs := xs) ho.2 hvs
    exact ⟨eV x :: ys, by simp [Sim.evs, eX, IX.ev, k1], .cons (.cl (const_rc ho.1)) k2⟩
def GOK (g : Option (Nat × Bool)) (t : List AV) : Prop := match g with
  | none => True
  | some (c, w) => t[c]? = some (.v (.bool w))
theorem GOK.wanted {g : Option (Nat × Bool)} {t : List AV} (h : GOK g t) : wanted t g = true := by
  cases g with
  | none => rfl
  | some p => obtain ⟨c, w⟩ := p; simp only [GOK] at h; simp [Sim.wanted, h]
def GIn (g : Option (Nat × Bool)) (gs : List Nat) : Prop := ∀ c w, g = some (c, w) → c ∈ gs
theorem GOK.set {g : Option (Nat × Bool)} {t : List AV} {gs : List Nat} {d : Nat} {y : AV} (h : GOK g t) (hg : GIn g gs) (hd : d ∉ gs) : GOK g (t.set d y) := by
  cases g with
  | none => trivial
  | some p =>
    obtain ⟨c, w⟩ := p
    simp only [GOK] at h ⊢
    rw [List.getElem?_set_ne (fun e => hd (by rw [e]; exact hg c w rfl))]
    exact h
structure Mx (s s' : Hp) : Prop where
  sk : Sk s.h s'.h s.n
  n : s.n ≤ s'.n
  wf : Wf s'.h s'.n
  look : ∀ id, id < s.n → Sim.look s'.h id = Sim.look s.h id
theorem Mx.refl (hw : Wf s.h s.n) : Mx s s := ⟨.refl _ _, Nat.le_refl _, hw, fun _ _ => rfl⟩
theorem Mx.trans {s' s'' : Hp} (a : Mx s s') (b : Mx s' s'') : Mx s s'' := ⟨a.sk.trans b.sk a.n, Nat.le_trans a.n b.n, b.wf, fun id hid => (b.look id (Nat.lt_of_lt_of_le hid a.n)).trans (a.look id hid)⟩
theorem Mem.grow {s' : Hp} (hM : Mem C n h lim s) (hx : Mx s s') : Mem C n h lim s' := by
  refine ⟨⟨fun k po hk => ?_, hM.hr.inj⟩, hM.dom, hx.wf, Nat.le_trans hM.lim hx.n⟩
  obtain ⟨pl, h1, h2⟩ := hM.hr.ob k po hk
  refine ⟨pl, h1, h2.mono hx.n (fun _ _ h => h) (fun id v e l hp => ?_)⟩
  subst hp
  exact hx.look id h2.lt.2
theorem Mx.fr {s' : Hp} (hx : Mx s s') : Fr C h s C h s' := ⟨hx.sk, hx.n, fun id hid _ => hx.look id hid, fun _ _ h => h, fun k o h => ⟨o, h, fun hb => ⟨hb, rfl⟩⟩⟩
theorem dsts_mem : ∀ (ops : POs) (a : List Nat) (i : Nat), i ∈ dsts ops a ↔ i ∈ dsts ops [] ∨ i ∈ a
  | .nil, a, i => by simp [dsts]
  | .op d k xs kl r, a, i => by
    simp only [dsts, List.mem_cons, dsts_mem r a i, or_assoc]
  | .sto k xs kl r, a, i => by simp only [dsts, dsts_mem r a i]
  | .ifx d c w b x kl r, a, i => by
    simp only [dsts, List.mem_cons, dsts_mem b (dsts r a) i, dsts_mem b (dsts r []) i, dsts_mem r a i]
    constructor
    · rintro (h | h | h | h) <;> simp [h]
    · rintro ((h | h | h) | h) <;> simp [h]
  | .lax d es r, a, i => by simp only [dsts, dsts_mem r a i]
  | .own d ty e r, a, i => by simp only [dsts, dsts_mem r a i]
  | .ownc d j ty e r, a, i => by simp only [dsts, dsts_mem r a i]
theorem dsts_gs : ∀ (ops : POs) {gs ds : List Nat} {inG : Bool}, okO N gs inG ds ops = true → ∀ i ∈ dsts ops [], i ∉ gs
  | .nil, gs, ds, inG, _, i, hi => by simp [dsts] at hi
  | .op d k xs kl r, gs, ds, inG, ho, i, hi => by
    simp only [okO, Bool.and_eq_true, Bool.not_eq_true', mem_eq] at ho
    obtain ⟨⟨⟨h1, h2⟩, h3⟩, h4⟩ := ho
    simp only [dsts, List.mem_cons] at hi
    rcases hi with rfl | hi
    · simpa using h2
    · exact dsts_gs r h4 i hi
  | .sto k xs kl r, gs, ds, inG, ho, i, hi => by
    simp only [okO, Bool.and_eq_true] at ho
    exact dsts_gs r ho.2 i hi
  | .ifx d c w b x kl r, gs, ds, inG, ho, i, hi => by
    simp only [okO, Bool.and_eq_true, Bool.not_eq_true', mem_eq] at ho
    obtain ⟨⟨⟨⟨⟨h1, h2⟩, h3⟩, h4⟩, h5⟩, h6⟩ := ho
    simp only [dsts, List.mem_cons, dsts_mem b (dsts r []) i] at hi
    rcases hi with rfl | hi | hi
    · simpa using h2
    · exact fun hg => dsts_gs b h5 i hi (by simp [hg])
    · exact dsts_gs r h6 i hi
  | .lax d es r, gs, ds, inG, ho, i, hi => by
    simp only [okO, Bool.and_eq_true] at ho
    exact dsts_gs r ho.2 i hi
  | .own d ty e r, gs, ds, inG, ho, i, hi => by
    simp only [okO, Bool.and_eq_true] at ho
    exact dsts_gs r ho.2 i hi
  | .ownc d j ty e r, gs, ds, inG, ho, i, hi => by
    simp only [okO, Bool.and_eq_true] at ho
    exact dsts_gs r ho.2 i hi
theorem wanted_set {g : Option (Nat × Bool)} {gs : List Nat} {d : Nat} {y : AV} (hg : GIn g gs) (hd : d ∉ gs) : wanted (t.set d y) g = wanted t g := by
  cases g with
  | none => rfl
  | some p =>
    obtain ⟨c, w⟩ := p
    simp only [Sim.wanted]
    rw [List.getElem?_set_ne (fun e => hd (by rw [e]; exact hg c w rfl))]
theorem wanted_same {g : Option (Nat × Bool)} {t t' : List AV} (h : ∀ c w, g = some (c, w) → t'[c]? = t[c]?) : wanted t' g = wanted t g := by
  cases g with
  | none => rfl
  | some p =>
    obtain ⟨c, w⟩ := p
    simp only [Sim.wanted]
    rw [h c w rfl]
theorem skip_sim (g : Option (Nat × Bool)) : ∀ (ops : POs) (gs ds : List Nat) (t : List AV), okO N gs true ds ops = true → GIn g gs → wanted t g = false →
    (∀ c ∈ ds, ∀ b, t[c]? ≠ some (.v (.bool b))) →
    ∃ fs t', Tr T lim (erO g ops) { t := t, s := s } fs { t := t', s := s } ∧ t'.length = t.length ∧ (∀ (i : Nat), i ∉ dsts ops [] → t'[i]? = t[i]?) ∧ ∀ (i : Nat), t'[i]? = t[i]? ∨ t'[i]? = some AV.undef
  | .nil, gs, ds, t, _, _, _, _ => ⟨[], t, .nil, rfl, fun _ _ => rfl, fun _ => .inl rfl⟩
  | .op d k xs kl r, gs, ds, t, ho, hg, hw, hd => by
    simp only [okO, Bool.and_eq_true, Bool.not_eq_true', mem_eq] at ho
    obtain ⟨⟨⟨h1, h2⟩, h3⟩, h4⟩ := ho
    have hdg : d ∉ gs := by simpa using h2
    have hset : ∀ i, (t.set d AV.undef)[i]? = t[i]? ∨ (t.set d AV.undef)[i]? = some AV.undef := fun i => by
      by_cases e : d = i
      · subst e
        by_cases hl : d < t.length
        · exact .inr (by rw [List.getElem?_set]; simp [hl])
        · exact .inl (by rw [List.set_eq_of_length_le (Nat.le_of_not_lt hl)])
      · exact .inl (List.getElem?_set_ne e)
    obtain ⟨fs, t', k1, k2, k3, k4⟩ := skip_sim g r gs (d :: ds) (t.set d AV.undef) h4 hg (by rw [wanted_set hg hdg]; exact hw) (fun c hc b => by
      by_cases hne : d = c
      · subst hne
        rw [List.getElem?_set]
        simp only [if_true]
        split
        · intro e; cases e
        · intro e; cases e
      · rw [List.getElem?_set_ne hne]
        rcases List.mem_cons.1 hc with rfl | hc
        · exact absurd rfl hne
        · exact hd c hc b)
    refine ⟨_, t', .skip (o := ⟨some d, k, xs.map eX, g⟩) hw k1, by simpa using k2, fun i hi => ?_, fun i => ?_⟩
    · simp only [dsts, List.mem_cons, not_or] at hi
      rw [k3 i hi.2, List.getElem?_set_ne (Ne.symm hi.1)]
    · rcases k4 i with k4 | k4
      · rw [k4]; exact hset i
      · exact .inr k4
  | .ifx d c w b x kl r, gs, ds, t, ho, hg, hw, hd => by
    simp only [okO, Bool.and_eq_true, Bool.not_eq_true', mem_eq, Bool.not_true, Bool.false_or] at ho
    obtain ⟨⟨⟨⟨⟨h1, h2⟩, h3⟩, h4⟩, h5⟩, h6⟩ := ho
    have hdg : d ∉ gs := by simpa using h2
    have hcd : c ∈ ds := by simpa using h4
    have hwb : wanted t (some (c, w)) = false := by
      simp only [Sim.wanted]
      split
      · rename_i q hq; exact absurd hq (hd c hcd q)
      · rfl
    obtain ⟨fs, t1, k1, k2, k3, k4⟩ := skip_sim (some (c, w)) b (c :: gs) [] t h5 (fun c' w' e => by cases e; simp) hwb (fun c hc => by simp at hc)
    have hw1 : wanted t1 g = false := by
      rw [wanted_same (t := t) (fun c' w' e => k3 c' (fun hi => dsts_gs b h5 c' hi (by simp [hg c' w' e])))]
      exact hw
    have hd1 : ∀ c ∈ ds, ∀ b, t1[c]? ≠ some (.v (.bool b)) := fun c hc b => by
      rcases k4 c with k4 | k4
      · rw [k4]; exact hd c hc b
      · rw [k4]; intro e; cases e
    have hset : ∀ i, (t1.set d AV.undef)[i]? = t1[i]? ∨ (t1.set d AV.undef)[i]? = some AV.undef := fun i => by
      by_cases e : d = i
      · subst e
        by_cases hl : d < t1.length
        · exact .inr (by rw [List.getElem?_set]; simp [hl])
        · exact .inl (by rw [List.set_eq_of_length_le (Nat.le_of_not_lt hl)])
      · exact .inl (List.getElem?_set_ne e)
    obtain ⟨gs', t', q1, q2, q3, q4⟩ := skip_sim g r gs (d :: ds) (t1.set d AV.undef) h6 hg (by rw [wanted_set hg hdg]; exact hw1) (fun c hc b => by
      by_cases hne : d = c
      · subst hne
        rw [List.getElem?_set]
        simp only [if_true]
        split
        · intro e; cases e
        · intro e; cases e
      · rw [List.getElem?_set_ne hne]
        rcases List.mem_cons.1 hc with rfl | hc
        · exact absurd rfl hne
        · exact hd1 c hc b)
    refine ⟨_, t', k1.append (.skip hw1 q1), by simp [q2, k2], fun i hi => ?_, fun i => ?_⟩
    · simp only [dsts, List.mem_cons, dsts_mem b (dsts r []) i, not_or] at hi
      rw [q3 i hi.2.2, List.getElem?_set_ne (Ne.symm hi.1), k3 i hi.2.1]
    · rcases q4 i with q4 | q4
      · rw [q4]
        rcases hset i with h7 | h7
        · rw [h7]; exact k4 i
        · exact .inr h7
      · exact .inr q4
  | .sto k xs kl r, gs, ds, t, ho, _, _, _ => by simp [okO] at ho
  | .lax d es r, gs, ds, t, ho, _, _, _ => by simp [okO] at ho
  | .own d ty e r, gs, ds, t, ho, _, _, _ => by simp [okO] at ho
  | .ownc d j ty e r, gs, ds, t, ho, _, _, _ => by simp [okO] at ho
end
end Go.P
set_option linter.unusedVariables false
set_option linter.unusedSimpArgs false
namespace Go.P
open Go.Sim (AV AO Hp Ent upd St IC IX Ex OpK CK Wf Out doOp Tab exec Foot wanted put)
section
variable {R : Type} {T : Tab} {O : Orc}
theorem opK_sim (hO : ∀ f xs v, O f xs = some v → FnOK T f xs v) {C : Cx} {n : Nat} {h : Heap} {lim : Nat} {s : Hp} {k : OpK} {as : List PV} {ys : List AV} {K : PV → Heap → Nat → Option R} {r : R}
    (hM : Mem C n h lim s) (hx : LR (RV C) as ys) (hk : opK O k as h n K = some r) :
    ∃ v h' n' C' y s', K v h' n' = some r ∧ RV C' v y ∧ Mem C' n' h' lim s' ∧ (∀ k pl, C k = some pl → C' k = some pl) ∧ n ≤ n' ∧ Fr C h s C' h' s' ∧ (isSto k = false → ∀ id, id < s.n → Sim.look s'.h id = Sim.look s.h id) ∧
      ∀ (o : Sim.Op1) (os : List Sim.Op1) (t : List AV) (fs : List Foot) (τ : St), o.k = k → wanted t o.guard = true → Sim.evs t o.xs = some ys → Tr T lim os { t := put t o.dst y, s := s' } fs τ → ∃ f, Tr T lim (o :: os) { t := t, s := s } (f :: fs) τ := by
  have call : ∀ (f : FuncId) (xs : List PV) (zs : List AV) (k : OpK), callK O f xs h (fun v => K v h n) = some r → LR (RV C) xs zs → isCall k = true → ((∃ ifn, T f = some ifn ∧ ifn.pure = true) → Sim.foot T k ys = { all := 1 }) →
      (∀ (d : Nat) (s : Hp), Sim.step T (exec T d) lim k ys s = Sim.callF T (exec T d) lim f zs s) →
      ∃ v h' n' C' y s', K v h' n' = some r ∧ RV C' v y ∧ Mem C' n' h' lim s' ∧ (∀ k pl, C k = some pl → C' k = some pl) ∧ n ≤ n' ∧ Fr C h s C' h' s' ∧ (isSto k = false → ∀ id, id < s.n → Sim.look s'.h id = Sim.look s.h id) ∧
      ∀ (o : Sim.Op1) (os : List Sim.Op1) (t : List AV) (fs : List Foot) (τ : St), o.k = k → wanted t o.guard = true → Sim.evs t o.xs = some ys → Tr T lim os { t := put t o.dst y, s := s' } fs τ → ∃ f, Tr T lim (o :: os) { t := t, s := s } (f :: fs) τ := by
    intro f xs zs k hk hz hc hf hst
    obtain ⟨v, y, h1, h2, h3, D, h4⟩ := call_sim (lim := lim) hO hM hk hz
    refine ⟨v, h, n, C, y, s, h1, .cl h2, hM, fun _ _ h => h, Nat.le_refl _, .refl _ _ _, fun _ _ _ => rfl, fun o os t fs τ ho hw he ht => ⟨{ all := 1 }, ?_⟩⟩
    subst ho
    exact .call hw he hc (hf h3) ⟨D, fun d hd m => by rw [hst]; exact h4 d hd m⟩ ht
  unfold opK at hk
  split at hk
  · rename_i as' f
    refine call _ _ ys (.callF _) hk hx rfl (fun ⟨ifn, h1, h2⟩ => ?_) (fun d s => rfl)
    simp [Sim.foot, h1, h2]
  · rename_i f first cap as'
    obtain ⟨y, ys', rfl, h1, h2⟩ := hx.inv_cons
    obtain ⟨a', b', rfl, h3, h4⟩ := rv_fn h1
    refine call f (first ++ as' ++ cap) (a' ++ ys' ++ b') .callV hk ((h3.append h2).append h4) rfl (fun ⟨ifn, k1, k2⟩ => ?_) (fun d s => rfl)
    simp [Sim.foot, k1, k2]
  · rename_i k' as' hn1 hn2
    obtain ⟨v, h', n', C', out, h1, h2, h3, h4, h5, h6, h7, h8⟩ := step_sim hM hx hk
    refine ⟨v, h', n', C', out.v, out.apply s, h1, h3, h4, h5, h6, h7, h8, fun o os t fs τ ho hw he ht => ?_⟩
    subst ho
    refine ⟨_, .op hw he ?_ h2 ht⟩
    cases hk' : o.k with
    | callF f => exact absurd hk' (hn1 f)
    | callV =>
      rw [hk'] at hk
      unfold stepK at hk
      rcases as' with _ | ⟨a, _ | ⟨b, _ | ⟨c, _ | ⟨d, t⟩⟩⟩⟩ <;> exact none_some hk
    | _ => rfl
theorem put_some (t : List AV) (d : Nat) (y : AV) : put t (some d) y = t.set d y := rfl
theorem put_none (t : List AV) (y : AV) : put t none y = t := rfl
theorem pick_evs {t : List AV} {c i : Nat} {x : PX} {N : Nat} (hN : t.length = N) (hx : okX N x = true) : ∃ z, (eX x).ev t = some z := by
  cases x with
  | t i =>
    simp only [okX, Nat.blt_eq] at hx
    exact ⟨t[i]'(by omega), by simp [eX, IX.ev]⟩
  | c x => exact ⟨eV x, rfl⟩
theorem evs3 {t : List AV} {x y z : IX} {a b c : AV} (h1 : x.ev t = some a) (h2 : y.ev t = some b) (h3 : z.ev t = some c) : Sim.evs t [x, y, z] = some [a, b, c] := by
  simp [Sim.evs, h1, h2, h3]
theorem piece_sim {N lim : Nat} {gs : List Nat} {C : Cx} {n : Nat} {h : Heap} {e : Env} {t : List AV} {s : Hp} {c : Nat} {w cb y : Bool} {bd : POs} {x : PX} (hM : Mem C n h lim s) (hN : t.length = N) (ho : okO N (c :: gs) true [] bd = true) (hx : okX N x = true)
    (hc : t[c]? = some (.v (.bool cb)))
    (hy : (bif w then ifK cb (opsK.opsB O bd e h n x) (some false) else ifK cb (some true) (opsK.opsB O bd e h n x)) = some y)
    (IH : opsK.opsB O bd e h n x = some y → GOK (some (c, w)) t → ∃ fs t' s', Tr T lim (erO (some (c, w)) bd) { t := t, s := s } fs { t := t', s := s' } ∧ (eX x).ev t' = some (.v (.bool y)) ∧ t'.length = N ∧ (∀ (i : Nat), i ∉ dsts bd [] → t'[i]? = t[i]?) ∧ Mx s s') :
    ∃ fs t1 s1, Tr T lim (erO (some (c, w)) bd) { t := t, s := s } fs { t := t1, s := s1 } ∧ t1.length = N ∧ (∀ (i : Nat), i ∉ dsts bd [] → t1[i]? = t[i]?) ∧ Mx s s1 ∧
          ∃ zs, Sim.evs t1 (if w then [.t c, eX x, .c (.v (.bool false))] else [.t c, .c (.v (.bool true)), eX x]) = some zs ∧ doOp (Sim.look s1.h) lim s1.n .pick zs = some { v := .v (.bool y) } := by
  have hcd : ∀ t1 : List AV, (∀ (i : Nat), i ∉ dsts bd [] → t1[i]? = t[i]?) → t1[c]? = some (.v (.bool cb)) := fun t1 ht1 => by
    rw [ht1 c (fun hi => dsts_gs bd ho c hi (by simp))]
    exact hc
  have skip : cb ≠ w → ∃ fs t1 s1, Tr T lim (erO (some (c, w)) bd) { t := t, s := s } fs { t := t1, s := s1 } ∧ t1.length = N ∧ (∀ (i : Nat), i ∉ dsts bd [] → t1[i]? = t[i]?) ∧ Mx s s1 := by
    intro hne
    obtain ⟨fs, t1, k1, k2, k3, k4⟩ := skip_sim (T := T) (lim := lim) (s := s) (some (c, w)) bd (c :: gs) [] t ho (fun c' w' e => by cases e; simp) (by simp [Sim.wanted, hc, hne]) (fun c hc => by simp at hc)
    exact ⟨fs, t1, s, k1, k2.trans hN, k3, .refl hM.wf⟩
  cases w with
  | true =>
    rw [cond_true, ifK_eq] at hy
    cases cb with
    | true =>
      rw [if_pos rfl] at hy
      obtain ⟨fs, t1, s1, k1, k2, k3, k4, k5⟩ := IH hy hc
      exact ⟨fs, t1, s1, k1, k3, k4, k5, [.v (.bool true), .v (.bool y), .v (.bool false)], evs3 (hcd t1 k4) k2 rfl, rfl⟩
    | false =>
      simp only [Bool.false_eq_true, if_false, Option.some.injEq] at hy
      subst hy
      obtain ⟨fs, t1, s1, k1, k2, k3, k4⟩ := skip (by simp)
      obtain ⟨z, hz⟩ := pick_evs (c := 0) (i := 0) k2 hx
      exact ⟨fs, t1, s1, k1, k2, k3, k4, [.v (.bool false), z, .v (.bool false)], evs3 (hcd t1 k3) hz rfl, rfl⟩
  | false =>
    rw [cond_false, ifK_eq] at hy
    cases cb with
    | true =>
      simp only [if_true, Option.some.injEq] at hy
      subst hy
      obtain ⟨fs, t1, s1, k1, k2, k3, k4⟩ := skip (by simp)
      obtain ⟨z, hz⟩ := pick_evs (c := 0) (i := 0) k2 hx
      exact ⟨fs, t1, s1, k1, k2, k3, k4, [.v (.bool true), .v (.bool true), z], evs3 (hcd t1 k3) rfl hz, rfl⟩
    | false =>
      simp only [Bool.false_eq_true, if_false] at hy
      obtain ⟨fs, t1, s1, k1, k2, k3, k4, k5⟩ := IH hy hc
      exact ⟨fs, t1, s1, k1, k3, k4, k5, [.v (.bool false), .v (.bool true), .v (.bool y)], evs3 (hcd t1 k4) rfl k2, rfl⟩
theorem opsB_sim (hO : ∀ f xs v, O f xs = some v → FnOK T f xs v) {N lim : Nat} : ∀ (ops : POs) (gs ds : List Nat) (g : Option (Nat × Bool)) (C : Cx) (n : Nat) (h : Heap) (e : Env) (t : List AV) (s : Hp) (x : PX) (b : Bool),
    opsK.opsB O ops e h n x = some b → EnvR C e t → Mem C n h lim s → t.length = N → okO N gs true ds ops = true → okX N x = true → GOK g t → GIn g gs →
    ∃ fs t' s', Tr T lim (erO g ops) { t := t, s := s } fs { t := t', s := s' } ∧ (eX x).ev t' = some (.v (.bool b)) ∧ t'.length = N ∧ (∀ (i : Nat), i ∉ dsts ops [] → t'[i]? = t[i]?) ∧ Mx s s'
  | .nil, gs, ds, g, C, n, h, e, t, s, x, b, hk, he, hM, hN, ho, hx, hg, hgi => by
    unfold opsK.opsB at hk
    rw [evsK_eq, Option.bind_eq_some_iff] at hk
    obtain ⟨vs, hvs, hk⟩ := hk
    obtain ⟨ys, h1, h2⟩ := evs_sim he (xs := [x]) (by simpa using hx) hvs
    split at hk
    · cases hk
      obtain ⟨y, _, rfl, h3, h4⟩ := h2.inv_cons
      rw [h4.inv_nil] at h1
      rw [rv_v h3] at h1
      refine ⟨[], t, s, .nil, ?_, hN, fun _ _ => rfl, .refl hM.wf⟩
      simp only [List.map_cons, List.map_nil, Sim.evs] at h1
      split at h1
      · rename_i ha hb
        cases h1
        exact ha
      · cases h1
    · exact none_some hk
  | .op d k xs kl r, gs, ds, g, C, n, h, e, t, s, x, b, hk, he, hM, hN, ho, hx, hg, hgi => by
    simp only [okO, Bool.and_eq_true, Bool.not_eq_true', mem_eq, Nat.blt_eq] at ho
    obtain ⟨⟨⟨o1, o2⟩, o3⟩, o4⟩ := ho
    have hdg : d ∉ gs := by simpa using o2
    unfold opsK.opsB at hk
    rw [evsK_eq, Option.bind_eq_some_iff] at hk
    obtain ⟨vs, hvs, hk⟩ := hk
    obtain ⟨ys, h1, h2⟩ := evs_sim he o3 hvs
    cases hst : isSto k with
    | true => rw [hst] at hk; exact none_some hk
    | false =>
      rw [hst, cond_false] at hk
      obtain ⟨v, h', n', C', y, s', q1, q2, q3, q4, q5, q6, q7, q8⟩ := opK_sim hO hM h2 hk
      rw [delK_eq] at q1
      have hd : d < t.length := by omega
      have he' : EnvR C' ((d, v) :: edel e (d :: kl)) (t.set d y) := .put hd q2 (fun i w hw => by
        obtain ⟨z, p1, p2, p3⟩ := (he.mono q4).edel (d :: kl) i w hw
        exact ⟨z, p1, p2, fun e1 => p3 (by simp [e1])⟩)
      obtain ⟨fs, t', s2, r1, r2, r3, r4, r5⟩ := opsB_sim hO r gs (d :: ds) g C' n' h' _ (t.set d y) s' x b q1 he' q3 (by simpa using hN) o4 hx (hg.set hgi hdg) hgi
      obtain ⟨f, hf⟩ := q8 ⟨some d, k, xs.map eX, g⟩ _ t fs _ rfl hg.wanted h1 r1
      have hmx : Mx s s' := ⟨q6.sk, q6.n, q3.wf, q7 hst⟩
      refine ⟨_, t', s2, hf, r2, r3, fun i hi => ?_, hmx.trans r5⟩
      simp only [dsts, List.mem_cons, not_or] at hi
      rw [r4 i hi.2, List.getElem?_set_ne (Ne.symm hi.1)]
  | .ifx d c w bd x' kl r, gs, ds, g, C, n, h, e, t, s, x, b, hk, he, hM, hN, ho, hx, hg, hgi => by
    simp only [okO, Bool.and_eq_true, Bool.not_eq_true', mem_eq, Nat.blt_eq, Bool.not_true, Bool.false_or] at ho
    obtain ⟨⟨⟨⟨⟨o1, o2⟩, o3⟩, o4⟩, o5⟩, o6⟩ := ho
    have hdg : d ∉ gs := by simpa using o2
    unfold opsK.opsB at hk
    rw [getK_eq, Option.bind_eq_some_iff] at hk
    obtain ⟨cv, hcv, hk⟩ := hk
    split at hk
    · rename_i cb
      rw [bindK_eq, Option.bind_eq_some_iff] at hk
      obtain ⟨y, hy, hk⟩ := hk
      rw [delK_eq] at hk
      obtain ⟨cy, hc1, hc2⟩ := he c _ hcv
      rw [rv_v hc2] at hc1
      obtain ⟨fs, t1, s1, p1, p2, p3, p4, zs, p5, p6⟩ := piece_sim (T := T) (O := O) hM hN o5 o3 hc1 hy (fun hb hgo => opsB_sim hO bd (c :: gs) [] (some (c, w)) C n h e t s x' y hb he hM hN o5 o3 hgo (fun c' w' e => by cases e; simp))
      have hg1 : GOK g t1 := by
        cases g with
        | none => trivial
        | some p =>
          obtain ⟨c', w'⟩ := p
          simp only [GOK] at hg ⊢
          rw [p3 c' (fun hi => dsts_gs bd o5 c' hi (by simp [hgi c' w' rfl]))]
          exact hg
      have hd : d < t1.length := by omega
      have he' : EnvR C ((d, .v (.bool y)) :: edel e (d :: dsts bd kl)) (t1.set d (.v (.bool y))) := .put hd (.cl (.v _)) (fun i w hw => by
        obtain ⟨z, q1, q2, q3⟩ := he.edel (d :: dsts bd kl) i w hw
        have hnb : i ∉ dsts bd [] := fun hi => q3 (by simp [(dsts_mem bd kl i).2 (.inl hi)])
        exact ⟨z, by rw [p3 i hnb]; exact q1, q2, fun e1 => q3 (by simp [e1])⟩)
      obtain ⟨fs2, t', s2, r1, r2, r3, r4, r5⟩ := opsB_sim hO r gs (d :: ds) g C n h _ (t1.set d (.v (.bool y))) s1 x b hk he' (hM.grow p4) (by simpa using p2) o6 hx (hg1.set hgi hdg) hgi
      refine ⟨_, t', s2, p1.append (.op (o := ⟨some d, .pick, _, g⟩) hg1.wanted p5 rfl p6 r1), r2, r3, fun i hi => ?_, p4.trans r5⟩
      simp only [dsts, List.mem_cons, dsts_mem bd (dsts r []) i, not_or] at hi
      rw [r4 i hi.2.2, List.getElem?_set_ne (Ne.symm hi.1), p3 i hi.2.1]
    · exact none_some hk
  | .sto k xs kl r, gs, ds, g, C, n, h, e, t, s, x, b, hk, he, hM, hN, ho, hx, hg, hgi => by simp [okO] at ho
  | .lax d es r, gs, ds, g, C, n, h, e, t, s, x, b, hk, he, hM, hN, ho, hx, hg, hgi => by simp [okO] at ho
  | .own d ty es r, gs, ds, g, C, n, h, e, t, s, x, b, hk, he, hM, hN, ho, hx, hg, hgi => by simp [okO] at ho
  | .ownc d j ty es r, gs, ds, g, C, n, h, e, t, s, x, b, hk, he, hM, hN, ho, hx, hg, hgi => by simp [okO] at ho
end
end Go.P
set_option linter.unusedVariables false
set_option linter.unusedSimpArgs false
namespace Go.P
open Go.Sim (AV AO Hp Ent upd St IC IX Ex OpK CK Wf Out doOp Tab exec Foot wanted put)
section
variable {R : Type} {T : Tab} {O : Orc}
theorem lax_sim {C : Cx} : ∀ {es : List (Option Nat)} {cs : List PV} {ys : List AV} {K : List PV → Option R} {r : R}, LR (RV C) cs ys → laxK es cs K = some r → ∃ cs', K cs' = some r ∧ LR (RV C) cs' ys
  | [], [], ys, K, r, hl, h => ⟨[], h, hl⟩
  | o :: os, x :: xs, ys, K, r, hl, h => by
    obtain ⟨y, ys', rfl, h1, h2⟩ := hl.inv_cons
    unfold laxK at h
    obtain ⟨cs', k1, k2⟩ := lax_sim h2 h
    cases o with
    | none => exact ⟨_, k1, .cons h1 k2⟩
    | some e =>
      simp only at k1
      split at k1
      · have := rv_v h1
        subst this
        exact ⟨_, k1, .cons (.cl .isn) k2⟩
      · exact none_some k1
  | [], _ :: _, _, _, _, _, h => by unfold laxK at h; exact none_some h
  | _ :: _, [], _, _, _, _, h => by unfold laxK at h; exact none_some h
theorem owncMem {C : Cx} {n : Nat} {h : Heap} {lim : Nat} {s : Hp} (hM : Mem C n h lim s) {k id ver e len : Nat} {cs cs2 : List PV} {ty e' : Nat} (hk : hget h k = some (.box cs)) (hC : C k = some (.atp id ver e len))
    (hcs : ∀ row, LR (RV C) cs row → LR (RV (ext C n .nil)) cs2 row) :
    Mem (ext C n .nil) (n + 1) ((n, .lst ty e' false []) :: hset h k (.box cs2)) lim s ∧ Fr C h s (ext C n .nil) ((n, .lst ty e' false []) :: hset h k (.box cs2)) s := by
  obtain ⟨m1, m2⟩ := nilMem hM (ty := ty) (e := e') (g := false)
  have hkn : n ≠ k := by have := hM.dom _ _ hC; omega
  have hne : ∀ j, hget ((n, .lst ty e' false []) :: hset h k (.box cs2)) j ≠ none → hget ((n, .lst ty e' false []) :: h) j ≠ none := fun j hj => by
    simp only [hget] at hj ⊢
    split
    · simp
    · rename_i h1
      rw [if_neg h1, hget_hset] at hj
      split at hj
      · rename_i h2; obtain ⟨rfl, _⟩ := h2; rw [hk]; simp
      · exact hj
  refine ⟨⟨⟨fun j o hj => ?_, fun j j' i v1 e1 l1 v2 e2 l2 a b c d => m1.hr.inj j j' i v1 e1 l1 v2 e2 l2 (hne j a) (hne j' b) c d⟩, m1.dom, m1.wf, m1.lim⟩, ⟨m2.sk, m2.n, m2.keep, fun i hi ho => ?_, fun j o hj => ?_⟩⟩
  · simp only [hget] at hj
    split at hj
    · rename_i h1; exact m1.hr.ob j o (by simp [hget, h1]; simpa using hj)
    · rename_i h1
      rw [hget_hset] at hj
      split at hj
      · rename_i h2
        obtain ⟨rfl, _⟩ := h2
        cases hj
        obtain ⟨pl, q1, q2⟩ := hM.hr.ob _ _ hk
        rw [hC] at q1
        cases q1
        obtain ⟨p1, p2, ty1, esz, row, p3, p4⟩ := q2
        exact ⟨_, ext_le hM .nil _ _ hC, p1, p2, ty1, esz, row, p3, hcs row p4⟩
      · exact m1.hr.ob j o (by simp [hget, h1, hj])
  · obtain ⟨j, v1, e1, l1, k1, k2⟩ := ho
    exact m2.own i hi ⟨j, v1, e1, l1, hne j k1, k2⟩
  · obtain ⟨o', q1, q2⟩ := m2.kd j o hj
    have hjn : n ≠ j := fun e1 => by rw [hget_none hM (by omega)] at hj; cases hj
    by_cases e1 : j = k
    · subst e1
      rw [hk] at hj
      cases hj
      exact ⟨.box cs2, by simp [hget, hjn, hget_hset, hk], fun _ => ⟨rfl, by simp [ext, Ne.symm hjn]⟩⟩
    · refine ⟨o', ?_, q2⟩
      simpa [hget, hjn, hget_hset, e1] using q1
theorem opsK_sim (hO : ∀ f xs v, O f xs = some v → FnOK T f xs v) {N lim : Nat} : ∀ (ops : POs) (ds : List Nat) (C : Cx) (n : Nat) (h : Heap) (e : Env) (t : List AV) (s : Hp) (K : Env → Heap → Nat → Option R) (r : R),
    opsK O ops e h n K = some r → EnvR C e t → Mem C n h lim s → t.length = N → okO N [] false ds ops = true →
    ∃ e' h' n' C' t' s' fs, K e' h' n' = some r ∧ Tr T lim (erO none ops) { t := t, s := s } fs { t := t', s := s' } ∧ EnvR C' e' t' ∧ Mem C' n' h' lim s' ∧ t'.length = N ∧ n ≤ n' ∧ Fr C h s C' h' s'
  | .nil, ds, C, n, h, e, t, s, K, r, hk, he, hM, hN, ho => ⟨e, h, n, C, t, s, [], by unfold opsK at hk; exact hk, .nil, he, hM, hN, Nat.le_refl _, .refl _ _ _⟩
  | .op d k xs kl rs, ds, C, n, h, e, t, s, K, r, hk, he, hM, hN, ho => by
    simp only [okO, Bool.and_eq_true, Bool.not_eq_true', mem_eq, Nat.blt_eq] at ho
    obtain ⟨⟨⟨o1, o2⟩, o3⟩, o4⟩ := ho
    have hd : d < t.length := by omega
    unfold opsK at hk
    rw [evsK_eq, Option.bind_eq_some_iff] at hk
    obtain ⟨vs, hvs, hk⟩ := hk
    obtain ⟨ys, h1, h2⟩ := evs_sim he o3 hvs
    split at hk
    · rename_i ty es b zero x1 x2
      obtain ⟨y1, ys1, rfl, p1, p2⟩ := h2.inv_cons
      obtain ⟨y2, ys2, rfl, p3, p4⟩ := p2.inv_cons
      have := p4.inv_nil
      subst this
      obtain ⟨C', e', h', out, q1, q2, q3, q4, q5⟩ := app_sim hM (b := b) (zero := zero) he hd p1 p3 hk
      obtain ⟨e2, h3, n2, C2, t2, s2, fs, r1, r2, r3, r4, r5, r6, r7⟩ := opsK_sim hO rs (d :: ds) C' n h' e' _ _ K r q1 q4 q3 (by simpa using hN) o4
      exact ⟨e2, h3, n2, C2, t2, s2, _, r1, .op (o := ⟨some d, _, xs.map eX, none⟩) rfl h1 rfl q2 r2, r3, r4, r5, r6, q5.trans r7⟩
    · obtain ⟨v, h', n', C', y, s', q1, q2, q3, q4, q5, q6, q7, q8⟩ := opK_sim hO hM h2 hk
      simp only [delK_eq] at q1
      have he' : EnvR C' ((d, v) :: edel e (d :: kl)) (t.set d y) := .put hd q2 (fun i w hw => by
        obtain ⟨z, p1, p2, p3⟩ := (he.mono q4).edel (d :: kl) i w hw
        exact ⟨z, p1, p2, fun e1 => p3 (by simp [e1])⟩)
      obtain ⟨e2, h3, n2, C2, t2, s2, fs, r1, r2, r3, r4, r5, r6, r7⟩ := opsK_sim hO rs (d :: ds) C' n' h' _ _ _ K r q1 he' q3 (by simpa using hN) o4
      obtain ⟨f, hf⟩ := q8 ⟨some d, k, xs.map eX, none⟩ _ t fs _ rfl rfl h1 r2
      exact ⟨e2, h3, n2, C2, t2, s2, _, r1, hf, r3, r4, r5, by omega, q6.trans r7⟩
  | .sto k xs kl rs, ds, C, n, h, e, t, s, K, r, hk, he, hM, hN, ho => by
    simp only [okO, Bool.and_eq_true, Bool.not_eq_true', Bool.not_false, true_and] at ho
    obtain ⟨o3, o4⟩ := ho
    unfold opsK at hk
    rw [evsK_eq, Option.bind_eq_some_iff] at hk
    obtain ⟨vs, hvs, hk⟩ := hk
    obtain ⟨ys, h1, h2⟩ := evs_sim he o3 hvs
    obtain ⟨v, h', n', C', out, q1, q2, q3, q4, q5, q6, q7, q8⟩ := step_sim hM h2 hk
    simp only [delK_eq] at q1
    have he' : EnvR C' (edel e kl) t := fun i w hw => by
      obtain ⟨z, p1, p2, p3⟩ := (he.mono q5).edel kl i w hw
      exact ⟨z, p1, p2⟩
    obtain ⟨e2, h3, n2, C2, t2, s2, fs, r1, r2, r3, r4, r5, r6, r7⟩ := opsK_sim hO rs ds C' n' h' _ t _ K r q1 he' q4 hN o4
    refine ⟨e2, h3, n2, C2, t2, s2, _, r1, .op (o := ⟨none, k, xs.map eX, none⟩) rfl h1 ?_ q2 r2, r3, r4, r5, by omega, q7.trans r7⟩
    cases k with
    | callF f => unfold stepK at hk; rcases vs with _ | ⟨a, _ | ⟨b, _ | ⟨c, _ | ⟨d, t⟩⟩⟩⟩ <;> exact none_some hk
    | callV => unfold stepK at hk; rcases vs with _ | ⟨a, _ | ⟨b, _ | ⟨c, _ | ⟨d, t⟩⟩⟩⟩ <;> exact none_some hk
    | _ => rfl
  | .ifx d c w bd x' kl rs, ds, C, n, h, e, t, s, K, r, hk, he, hM, hN, ho => by
    simp only [okO, Bool.and_eq_true, Bool.not_eq_true', mem_eq, Nat.blt_eq, Bool.not_false, Bool.true_or] at ho
    obtain ⟨⟨⟨⟨⟨o1, o2⟩, o3⟩, o4⟩, o5⟩, o6⟩ := ho
    unfold opsK at hk
    rw [getK_eq, Option.bind_eq_some_iff] at hk
    obtain ⟨cv, hcv, hk⟩ := hk
    split at hk
    · rename_i cb
      rw [bindK_eq, Option.bind_eq_some_iff] at hk
      obtain ⟨y, hy, hk⟩ := hk
      rw [delK_eq] at hk
      obtain ⟨cy, hc1, hc2⟩ := he c _ hcv
      rw [rv_v hc2] at hc1
      obtain ⟨fs, t1, s1, p1, p2, p3, p4, zs, p5, p6⟩ := piece_sim (T := T) (O := O) hM hN o5 o3 hc1 hy (fun hb hgo => opsB_sim hO bd [c] [] (some (c, w)) C n h e t s x' y hb he hM hN o5 o3 hgo (fun c' w' e => by cases e; simp))
      have hd : d < t1.length := by omega
      have he' : EnvR C ((d, .v (.bool y)) :: edel e (d :: dsts bd kl)) (t1.set d (.v (.bool y))) := .put hd (.cl (.v _)) (fun i w hw => by
        obtain ⟨z, q1, q2, q3⟩ := he.edel (d :: dsts bd kl) i w hw
        have hnb : i ∉ dsts bd [] := fun hi => q3 (by simp [(dsts_mem bd kl i).2 (.inl hi)])
        exact ⟨z, by rw [p3 i hnb]; exact q1, q2, fun e1 => q3 (by simp [e1])⟩)
      obtain ⟨e2, h3, n2, C2, t2, s2, fs2, r1, r2, r3, r4, r5, r6, r7⟩ := opsK_sim hO rs (d :: ds) C n h _ (t1.set d (.v (.bool y))) s1 K r hk he' (hM.grow p4) (by simpa using p2) o6
      exact ⟨e2, h3, n2, C2, t2, s2, _, r1, p1.append (.op (o := ⟨some d, .pick, _, none⟩) rfl p5 rfl p6 r2), r3, r4, r5, r6, p4.fr.trans r7⟩
    · exact none_some hk
  | .lax d es rs, ds, C, n, h, e, t, s, K, r, hk, he, hM, hN, ho => by
    simp only [okO, Bool.not_false, Bool.true_and] at ho
    unfold opsK at hk
    rw [getK_eq, Option.bind_eq_some_iff] at hk
    obtain ⟨v, hv, hk⟩ := hk
    obtain ⟨y, hy1, hy2⟩ := he d _ hv
    have env : ∀ v', RV C v' y → EnvR C ((d, v') :: edel e [d]) t := fun v' hv' i w hw => by
      simp only [eget] at hw
      split at hw
      · rename_i e1; subst e1; cases hw; exact ⟨y, hy1, hv'⟩
      · obtain ⟨z, q1, q2, _⟩ := he.edel [d] i w hw
        exact ⟨z, q1, q2⟩
    split at hk
    · rename_i s'
      rw [delK_eq] at hk
      rw [rv_v hy2] at env
      exact opsK_sim hO rs ds C n h _ t s K r hk (env _ (.cl .isn)) hM hN ho
    · rename_i cs
      obtain ⟨cs', h1, h2⟩ : ∃ cs', y = .agg cs' ∧ LR (RV C) cs cs' := rv_agg hy2
      subst h1
      obtain ⟨cs2, q1, q2⟩ := lax_sim h2 hk
      rw [delK_eq] at q1
      exact opsK_sim hO rs ds C n h _ t s K r q1 (env _ (.agg q2.1 q2.2)) hM hN ho
    · exact none_some hk
  | .own d ty es rs, ds, C, n, h, e, t, s, K, r, hk, he, hM, hN, ho => by
    simp only [okO, Bool.not_false, Bool.true_and] at ho
    unfold opsK at hk
    rw [getK_eq, Option.bind_eq_some_iff] at hk
    obtain ⟨v, hv, hk⟩ := hk
    obtain ⟨y, hy1, hy2⟩ := he d _ hv
    split at hk
    · rw [delK_eq] at hk
      have hy := rv_v hy2
      subst hy
      obtain ⟨m1, m2⟩ := nilMem hM (ty := ty) (e := es) (g := false)
      have hle := ext_le hM .nil
      have he' : EnvR (ext C n .nil) ((d, .own n) :: edel e [d]) t := fun i w hw => by
        simp only [eget] at hw
        split at hw
        · rename_i e1; subst e1; cases hw; exact ⟨_, hy1, .ownn (by simp [ext]) (.inl rfl)⟩
        · obtain ⟨z, q1, q2, _⟩ := he.edel [d] i w hw
          exact ⟨z, q1, q2.mono hle⟩
      obtain ⟨e2, h3, n2, C2, t2, s2, fs, r1, r2, r3, r4, r5, r6, r7⟩ := opsK_sim hO rs ds _ (n + 1) _ _ t s K r hk he' m1 hN ho
      exact ⟨e2, h3, n2, C2, t2, s2, fs, r1, r2, r3, r4, r5, by omega, m2.trans r7⟩
    · exact none_some hk
  | .ownc d j ty es rs, ds, C, n, h, e, t, s, K, r, hk, he, hM, hN, ho => by
    simp only [okO, Bool.not_false, Bool.true_and] at ho
    unfold opsK at hk
    rw [getK_eq, Option.bind_eq_some_iff] at hk
    obtain ⟨v, hv, hk⟩ := hk
    obtain ⟨y, hy1, hy2⟩ := he d _ hv
    split at hk
    · rename_i k
      rw [hK_eq, Option.bind_eq_some_iff] at hk
      obtain ⟨ob, hob, hk⟩ := hk
      split at hk
      · rename_i cs
        obtain ⟨id, ver, e1, l1, hC, rfl⟩ := rv_ref hy2
        obtain ⟨hj, hk⟩ := dropK_some _ _ _ _ hk
        · split at hk
          · rename_i tl hdr
            obtain ⟨hset, hk⟩ := setK_some _ _ _ _ _ hk
            · have hk := hsetK_some _ _ _ _ _ hk
              have hle := ext_le hM .nil
              have hcj : cs[j]? = some (.v (.slice none 0 0)) := by
                have : (cs.drop j)[0]? = some (.v (.slice none 0 0)) := by rw [hdr]; rfl
                simpa using this
              obtain ⟨m1, m2⟩ := owncMem (ty := ty) (e' := es) (cs2 := Sim.setL cs j [.own n]) hM hob hC (fun row hrow => by
                refine ⟨by rw [← hrow.1]; simp [Sim.setL], fun i a b ha hb => ?_⟩
                simp only [Sim.setL] at ha
                rw [List.getElem?_set] at ha
                split at ha
                · rename_i e2
                  subst e2
                  split at ha
                  · cases ha
                    have := rv_v (hrow.2 j _ _ hcj hb)
                    subst this
                    exact .ownn (by simp [ext]) (.inl rfl)
                  · cases ha
                · exact (hrow.2 i a b ha hb).mono hle)
              obtain ⟨e2, h3, n2, C2, t2, s2, fs, r1, r2, r3, r4, r5, r6, r7⟩ := opsK_sim hO rs ds _ (n + 1) _ _ t s K r hk (he.mono hle) m1 hN ho
              exact ⟨e2, h3, n2, C2, t2, s2, fs, r1, r2, r3, r4, r5, by omega, m2.trans r7⟩
          · exact none_some hk
      · exact none_some hk
    · exact none_some hk
end
end Go.P
set_option linter.unusedVariables false
set_option linter.unusedSimpArgs false
namespace Go.P
open Go.Sim (AV AO Hp Ent upd St IC IX Ex OpK CK Wf Out doOp Tab exec Foot wanted put popMark)
def rest (C : Cx) (n : Nat) : Cx := fun k => if k < n then C k else none
theorem below_rest {C : Cx} {n : Nat} {x : PV} {y : AV} (h : RV C x y) : ∀ {d : Nat}, below n d x = true → RV (rest C n) x y := by
  have lt : ∀ {k d : Nat} {pl : Pl}, C k = some pl → Nat.blt k n = true → rest C n k = some pl := fun h1 h2 => by
    simp only [Nat.blt_eq] at h2
    simp [rest, h2, h1]
  induction h with
  | cl h => intro d hb; exact .cl h
  | undef => intro d hb; exact .undef
  | ref h => intro d hb; cases d with
    | zero => cases hb
    | succ d => exact .ref (lt (d := 0) h hb)
  | own h => intro d hb; cases d with
    | zero => cases hb
    | succ d => exact .own (lt (d := 0) h hb)
  | ownn h hy => intro d hb; cases d with
    | zero => cases hb
    | succ d => exact .ownn (lt (d := 0) h hb) hy
  | el h => intro d hb; cases d with
    | zero => cases hb
    | succ d => exact .el (lt (d := 0) h hb)
  | map h => intro d hb; cases d with
    | zero => cases hb
    | succ d => exact .map (lt (d := 0) h hb)
  | fn h1 h2 v1 v2 i1 i2 => intro d hb; cases d with
    | zero => cases hb
    | succ d =>
      simp only [below, Bool.and_eq_true] at hb
      exact .fn h1 h2 (fun j x y hx hy => i1 j x y hx hy (List.all_eq_true.1 hb.1 x (List.mem_of_getElem? hx))) (fun j x y hx hy => i2 j x y hx hy (List.all_eq_true.1 hb.2 x (List.mem_of_getElem? hx)))
  | agg hl hc ih => intro d hb; cases d with
    | zero => cases hb
    | succ d => exact .agg hl (fun j x y hx hy => ih j x y hx hy (List.all_eq_true.1 hb x (List.mem_of_getElem? hx)))
  | tup hl hc ih => intro d hb; cases d with
    | zero => cases hb
    | succ d => exact .tup hl (fun j x y hx hy => ih j x y hx hy (List.all_eq_true.1 hb x (List.mem_of_getElem? hx)))
section
variable {R : Type}
theorem getOK_eq : ∀ (e : Env) (i : Nat) (K : PV → Option R) (D : Option R), getOK e i K D = match eget e i with | some v => K v | none => D
  | [], _, _, _ => rfl
  | (j, v) :: r, i, K, D => by
    simp only [getOK, eget, beq_iff]
    by_cases h : j = i <;> simp [h, getOK_eq r i K D]
theorem keepK_sim {e : Env} {n : Nat} : ∀ {is : List Nat} {K : Env → Option R} {r : R}, keepK e is n K = some r → ∃ e', K e' = some r ∧ ∀ i v, eget e' i = some v → eget e i = some v ∧ below n 4 v = true
  | [], K, r, h => ⟨[], h, fun i v h => by simp [eget] at h⟩
  | i :: is, K, r, h => by
    unfold keepK at h
    rw [getOK_eq] at h
    cases hv : eget e i with
    | none => rw [hv] at h; exact keepK_sim h
    | some v =>
      rw [hv] at h
      simp only at h
      cases hb : below n 4 v with
      | false => rw [hb] at h; exact none_some h
      | true =>
        rw [hb, cond_true] at h
        obtain ⟨e', h1, h2⟩ := keepK_sim h
        refine ⟨_, h1, fun j w hw => ?_⟩
        simp only [eget] at hw
        split at hw
        · rename_i e1; subst e1; cases hw; exact ⟨hv, hb⟩
        · exact h2 j w hw
theorem heapK_sim {h : Heap} {n : Nat} : ∀ {r : Heap} {K : Heap → Option R} {x : R}, heapK r h n K = some x → ∃ h', K h' = some x ∧ ∀ k, (hget r k = none → hget h' k = none) ∧ (hget r k ≠ none → ∃ o, hget h' k = some o ∧ hget h k = some o ∧ objBelow n o = true)
  | [], K, x, hk => ⟨[], hk, fun k => ⟨fun _ => rfl, fun h => absurd rfl h⟩⟩
  | (j, o) :: r, K, x, hk => by
    unfold heapK at hk
    rw [hK_eq, Option.bind_eq_some_iff] at hk
    obtain ⟨o', ho, hk⟩ := hk
    cases hb : objBelow n o' with
    | false => rw [hb] at hk; exact none_some hk
    | true =>
      rw [hb, cond_true] at hk
      obtain ⟨h', h1, h2⟩ := heapK_sim hk
      refine ⟨_, h1, fun k => ?_⟩
      simp only [hget]
      by_cases e1 : j = k
      · subst e1
        simp only [if_true]
        exact ⟨fun h => (by cases h), fun _ => ⟨o', rfl, ho, hb⟩⟩
      · simp only [if_neg e1]
        exact h2 k
variable {C0 C : Cx} {n0 n : Nat} {h0 h : Heap} {e : Env} {t : List AV} {s0 s : Hp} {lim : Nat}
theorem canon_sim (hd : ∀ k, hget h0 k ≠ none → k < n0) (hM : Mem C n h lim s) (he : EnvR C e t) {keep : List Nat} {K : PSt → Option R} {r : R} (hk : canonK keep h0 n0 e h K = some r) :
    ∃ st, K st = some r ∧ EnvR (rest C n0) st.e t ∧ Mem (rest C n0) n0 st.h lim s ∧ (∀ k o, hget st.h k = some o → hget h k = some o) ∧ (∀ k, hget h0 k = none ↔ hget st.h k = none) := by
  unfold canonK at hk
  obtain ⟨e', hk, h1⟩ := keepK_sim hk
  obtain ⟨h', hk, h2⟩ := heapK_sim hk
  have hin : ∀ k o, hget h' k = some o → hget h k = some o ∧ objBelow n0 o = true ∧ k < n0 := fun k o ho => by
    by_cases hz : hget h0 k = none
    · rw [(h2 k).1 hz] at ho; cases ho
    · obtain ⟨o', q1, q2, q3⟩ := (h2 k).2 hz
      rw [ho] at q1
      cases q1
      exact ⟨q2, q3, hd k hz⟩
  have hr : ∀ k pl, rest C n0 k = some pl → C k = some pl ∧ k < n0 := fun k pl hk => by
    simp only [rest] at hk
    split at hk
    · rename_i hlt; exact ⟨hk, hlt⟩
    · cases hk
  refine ⟨_, hk, fun i v hv => ?_, ⟨⟨fun k o hko => ?_, fun k k' id v e l v' e' l' a b c d => ?_⟩, fun k pl hk => (hr k pl hk).2, hM.wf, hM.lim⟩, fun k o ho => (hin k o ho).1, fun k => ⟨(h2 k).1, fun hz => ?_⟩⟩
  · obtain ⟨q1, q2⟩ := h1 i v hv
    obtain ⟨y, p1, p2⟩ := he i v q1
    exact ⟨y, p1, below_rest p2 q2⟩
  · obtain ⟨q1, q2, q3⟩ := hin k o hko
    obtain ⟨pl, p1, p2⟩ := hM.hr.ob k o q1
    refine ⟨pl, by simp [rest, q3, p1], ?_⟩
    cases o with
    | box cs =>
      cases pl with
      | nil => exact p2
      | atp id ver e len =>
        obtain ⟨a1, a2, ty, esz, row, a3, a4⟩ := p2
        exact ⟨a1, a2, ty, esz, row, a3, a4.1, fun j x y hx hy => below_rest (a4.2 j x y hx hy) (List.all_eq_true.1 q2 x (List.mem_of_getElem? hx))⟩
    | lst ty e g rows => cases pl <;> exact p2
    | mp es => cases pl <;> exact p2
  · have nn : ∀ k, hget h' k ≠ none → hget h k ≠ none := fun k hk => by
      cases ho : hget h' k with
      | none => exact absurd ho hk
      | some o => rw [(hin k o ho).1]; simp
    exact hM.hr.inj k k' id v e l v' e' l' (nn k a) (nn k' b) (hr _ _ c).1 (hr _ _ d).1
  · by_cases hz0 : hget h0 k = none
    · exact hz0
    · obtain ⟨o, q1, _⟩ := (h2 k).2 hz0
      rw [hz] at q1
      cases q1
theorem Fr.canon {h1 hc : Heap} (hM0 : Mem C0 n0 h1 lim s0) (hf : Fr C0 h1 s0 C h s) (hsub : ∀ k o, hget hc k = some o → hget h k = some o) (hkeys : ∀ k, hget h1 k = none ↔ hget hc k = none) : Fr C0 h1 s0 (rest C n0) hc s := by
  refine ⟨hf.sk, hf.n, hf.keep, fun id hid ho => hf.own id hid ?_, fun k o hk => ?_⟩
  · obtain ⟨k, v, e, l, q1, q2⟩ := ho
    refine ⟨k, v, e, l, ?_, ?_⟩
    · cases ho : hget hc k with
      | none => exact absurd ho q1
      | some o => rw [hsub k o ho]; simp
    · simp only [rest] at q2
      split at q2
      · exact q2
      · cases q2
  · obtain ⟨o', q1, q2⟩ := hf.kd k o hk
    have hlt : k < n0 := by
      obtain ⟨pl, p1, _⟩ := hM0.hr.ob k o hk
      exact hM0.dom k pl p1
    cases hz : hget hc k with
    | none => rw [(hkeys k).2 hz] at hk; cases hk
    | some o2 =>
      have := hsub k o2 hz
      rw [q1] at this
      cases this
      exact ⟨o', rfl, fun hb => ⟨(q2 hb).1, by simp [rest, hlt, (q2 hb).2]⟩⟩
theorem look_pop_keep : ∀ {h : List Ent} {id : Nat} {o : AO}, Sim.look h id = some o → (∀ ty e v els, o ≠ .arr true ty e v els) → Sim.look (popMark h) id = some o
  | [], id, o, h, _ => by simp [Sim.look] at h
  | .mark :: r, id, o, h, _ => h
  | .ob i o' :: r, id, o, h, hne => by
    simp only [Sim.look] at h
    simp only [popMark]
    split at h
    · rename_i e1
      cases h
      split
      · exact absurd rfl (hne _ _ _ _)
      · simp [Sim.look, e1]
    · rename_i e1
      have ih := look_pop_keep h hne
      split
      · exact ih
      · simp [Sim.look, e1, ih]
theorem Mem.pop {C1 : Cx} {h1 hc : Heap} {s1 : Hp} (hM0 : Mem C0 n0 h1 lim s0) (hM : Mem C1 n0 hc lim s1) (hf : Fr C0 h1 { h := .mark :: s0.h, n := s0.n } C1 hc s1) (hkeys : ∀ k, hget h1 k = none ↔ hget hc k = none) :
    Mem C1 n0 hc lim { h := popMark s1.h, n := s1.n } ∧ Fr C0 h1 s0 C1 hc { h := popMark s1.h, n := s1.n } := by
  obtain ⟨p1, p2⟩ := hf.sk.pop
  refine ⟨⟨⟨fun k o hk => ?_, hM.hr.inj⟩, hM.dom, hM.wf.pop, hM.lim⟩, ⟨p1, hf.n, fun id hid hn => ?_, hf.own, hf.kd⟩⟩
  · obtain ⟨pl, q1, q2⟩ := hM.hr.ob k o hk
    refine ⟨pl, q1, ?_⟩
    cases o with
    | box cs =>
      cases pl with
      | nil => exact q2
      | atp id ver e len =>
        obtain ⟨a1, a2, ty, esz, row, a3, a4⟩ := q2
        have hlt : id < s0.n := by
          cases hz : hget h1 k with
          | none => rw [(hkeys k).1 hz] at hk; cases hk
          | some o0 =>
            obtain ⟨o', w1, w2⟩ := hf.kd k o0 hz
            rw [hk] at w1
            cases w1
            obtain ⟨_, w3⟩ := w2 rfl
            rw [q1] at w3
            exact (hM0.hr.lt (by rw [hz]; simp) w3.symm).2
        exact ⟨a1, a2, ty, esz, row, by rw [p2 id hlt]; exact a3, a4⟩
    | lst ty e g rows =>
      cases pl with
      | nil => exact q2
      | atp id ver e' len =>
        obtain ⟨a1, a2, a3, a4, els, a5, a6⟩ := q2
        exact ⟨a1, a2, a3, a4, els, look_pop_keep a5 (fun _ _ _ _ e => by cases e), a6⟩
    | mp es =>
      cases pl with
      | nil => exact q2
      | atp id ver e' len =>
        obtain ⟨a1, a2, es', a3, a4⟩ := q2
        exact ⟨a1, a2, es', look_pop_keep a3 (fun _ _ _ _ e => by cases e), a4⟩
  · rw [p2 id hid]
    exact hf.keep id hid hn
end
end Go.P
