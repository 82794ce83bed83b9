import Derived.Test.YtflklffaiianhaaGreatLpB
import Derived.IntWalk
/- A text of the proof of MultirestFinds. -/
set_option maxRecDepth 100000
set_option linter.unusedVariables false
namespace Go.P
open Go.Sim (Ex OpK CK)
def p4 : PFn := { ntmps := 71, res := [.tmp 4], code := (.seq (.reg (.op 4 (.mov) [.c (.v (.bool false))] [4] .nil)) (.seq (.seq (.reg (.op 11 (.callF 12) [] [] (.op 12 (.un .not) [.t 11] [11] (.op 13 (.mov) [.t 12] [12] (.ifx 17 13 false (.op 14 (.mov) [.t 0] [] (.op 15 (.len 0) [.t 14] [14] (.op 16 (.bin .gtr) [.t 15, .c (.v (.int .i64 20))] [15] .nil))) (.t 16) [13] .nil))))) (.cond (.t 17) (.seq (.reg (.op 18 (.callF 12) [] [] (.op 4 (.mov) [.t 18] [18] .nil))) .ret) .skip)) (.seq (.seq (.reg (.op 5 (.mov) [.c (.v (.int .i64 0))] [] .nil)) (.block 0 (.loop [0, 1, 4, 5] (.seq (.seq (.reg (.op 19 (.mov) [.t 5] [] (.op 20 (.mov) [.t 0] [] (.op 21 (.len 0) [.t 20] [20] (.op 22 (.bin .lss) [.t 19, .t 21] [19, 21] .nil))))) (.cond (.t 22) .skip (.exit 0))) (.seq (.block 1 (.seq (.reg (.op 25 (.mov) [.t 0] [] (.op 26 (.mov) [.t 5] [] (.op 27 (.iad 2) [.t 25, .t 26] [25, 26] (.op 28 (.loadA 2) [.t 27] [27] (.op 6 (.alloc 39 [(.int .i64 0), (.int .i64 0)]) [] [] (.sto (.store 2) [.t 6, .t 28] [28] .nil))))))) (.seq (.reg (.op 29 (.fad 0) [.t 6] [] (.op 30 (.loadS) [.t 29] [29] (.op 31 (.bin .lss) [.t 30, .c (.v (.int .i64 0))] [30] (.op 32 (.mov) [.t 31] [31] (.ifx 36 32 false (.op 33 (.fad 1) [.t 6] [] (.op 34 (.loadS) [.t 33] [33] (.op 35 (.bin .lss) [.t 34, .c (.v (.int .i64 0))] [34] .nil))) (.t 35) [32] (.op 37 (.mov) [.t 36] [36] (.ifx 41 37 false (.op 38 (.fad 0) [.t 6] [] (.op 39 (.loadS) [.t 38] [38] (.op 40 (.bin .gtr) [.t 39, .c (.v (.int .i64 1048576))] [39] .nil))) (.t 40) [37] (.op 42 (.mov) [.t 41] [41] (.ifx 46 42 false (.op 43 (.fad 1) [.t 6] [6] (.op 44 (.loadS) [.t 43] [43] (.op 45 (.bin .gtr) [.t 44, .c (.v (.int .i64 1048576))] [44] .nil))) (.t 45) [6, 42] (.op 47 (.mov) [.t 46] [46] (.ifx 50 47 false (.op 48 (.mov) [.t 1] [] (.op 49 (.bin .lss) [.t 48, .c (.v (.int .i64 (-1048576)))] [48] .nil)) (.t 49) [47] .nil)))))))))))) (.cond (.t 50) (.seq (.reg (.op 4 (.mov) [.c (.v (.bool true))] [] .nil)) .ret) .skip)))) (.reg (.op 23 (.mov) [.t 5] [5] (.op 24 (.bin .add) [.t 23, .c (.v (.int .i64 1))] [23] (.op 5 (.mov) [.t 24] [24] .nil))))))))) (.seq (.reg (.op 52 (.mov) [.t 0] [] (.op 53 (.mov) [.t 1] [] (.op 54 (.callF 20) [.t 52, .t 53] [52, 53] (.op 51 (.mov) [.t 54] [54] (.op 55 (.ext 0) [.t 51] [] (.op 56 (.ext 1) [.t 51] [51] (.op 7 (.alloc 39 [(.int .i64 0), (.int .i64 0)]) [] [] (.sto (.store 2) [.t 7, .t 55] [55] (.op 8 (.mov) [.t 56] [56] .nil)))))))))) (.seq (.reg (.op 58 (.mov) [.t 0] [0] (.op 59 (.mov) [.t 1] [1] (.op 60 (.callF 21) [.t 58, .t 59] [58, 59] (.op 57 (.mov) [.t 60] [60] (.op 61 (.ext 0) [.t 57] [] (.op 62 (.ext 1) [.t 57] [57] (.op 9 (.alloc 39 [(.int .i64 0), (.int .i64 0)]) [] [] (.sto (.store 2) [.t 9, .t 61] [61] (.op 10 (.mov) [.t 62] [62] .nil)))))))))) (.seq (.reg (.op 63 (.loadA 2) [.t 7] [7] (.op 64 (.loadA 2) [.t 9] [9] (.op 65 (.eqA false [.i, .i]) [.t 63, .t 64] [63, 64] (.op 66 (.mov) [.t 65] [65] (.ifx 70 66 true (.op 67 (.mov) [.t 8] [8] (.op 68 (.mov) [.t 10] [10] (.op 69 (.eqB false) [.t 67, .t 68] [67, 68] .nil))) (.t 69) [8, 10, 66] (.op 4 (.mov) [.t 70] [70] .nil))))))) .ret)))))) }
def p20 : PFn := { ntmps := 17, res := [.cellA 4 2, .tmp 5], code := (.seq (.reg (.op 3 (.box 3 1) [.t 1] [1] (.op 4 (.alloc 39 [(.int .i64 0), (.int .i64 0)]) [] [] (.op 5 (.mov) [.c (.v (.bool false))] [5] .nil)))) (.seq (.reg (.op 7 (.mov) [.t 0] [] (.op 8 (.mkfn (.func 40) 0) [.t 3] [3] (.op 9 (.callF 39) [.t 7, .t 8] [7, 8] (.op 6 (.mov) [.t 9] [9] .nil))))) (.seq (.seq (.reg (.op 10 (.mov) [.t 6] [] (.op 11 (.bin .lss) [.t 10, .c (.v (.int .i64 0))] [10] .nil))) (.cond (.t 11) (.seq (.reg (.op 12 (.build [(.int .i64 0), (.int .i64 0)] []) [] [] (.sto (.store 2) [.t 4, .t 12] [12] (.op 5 (.mov) [.c (.v (.bool false))] [] .nil)))) .ret) .skip)) (.seq (.reg (.op 13 (.mov) [.t 0] [0] (.op 14 (.mov) [.t 6] [6] (.op 15 (.iad 2) [.t 13, .t 14] [13, 14] (.op 16 (.loadA 2) [.t 15] [15] (.sto (.store 2) [.t 4, .t 16] [16] (.op 5 (.mov) [.c (.v (.bool true))] [] .nil))))))) .ret)))) }
def p40 : PFn := { ntmps := 17, res := [.tmp 3], code := (.seq (.reg (.op 2 (.box 39 2) [.t 0] [0] (.op 3 (.mov) [.c (.v (.bool false))] [3] .nil))) (.seq (.reg (.op 4 (.loadS) [.t 1] [] (.op 5 (.fad 0) [.t 2] [] (.op 6 (.loadS) [.t 5] [5] (.op 7 (.bin .geq) [.t 4, .t 6] [4, 6] (.op 8 (.mov) [.t 7] [7] (.ifx 16 8 true (.op 9 (.loadS) [.t 1] [1] (.op 10 (.fad 0) [.t 2] [] (.op 11 (.loadS) [.t 10] [10] (.op 12 (.bin .sub) [.t 9, .t 11] [9, 11] (.op 13 (.fad 1) [.t 2] [2] (.op 14 (.loadS) [.t 13] [13] (.op 15 (.bin .lss) [.t 12, .t 14] [12, 14] .nil))))))) (.t 15) [1, 2, 8] (.op 3 (.mov) [.t 16] [16] .nil)))))))) .ret)) }
def p21 : PFn := { ntmps := 40, res := [.cellA 4 2, .tmp 5], code := (.seq (.reg (.op 4 (.alloc 39 [(.int .i64 0), (.int .i64 0)]) [] [] (.op 5 (.mov) [.c (.v (.bool false))] [5] .nil))) (.seq (.seq (.reg (.op 6 (.mov) [.c (.v (.int .i64 0))] [] .nil)) (.block 0 (.loop [0, 1, 4, 5, 6] (.seq (.seq (.reg (.op 7 (.mov) [.t 6] [] (.op 8 (.mov) [.t 0] [] (.op 9 (.len 0) [.t 8] [8] (.op 10 (.bin .lss) [.t 7, .t 9] [7, 9] .nil))))) (.cond (.t 10) .skip (.exit 0))) (.seq (.block 1 (.seq (.regD (.op 13 (.mov) [.t 1] [] (.op 14 (.mov) [.t 0] [] (.op 15 (.mov) [.t 6] [] (.op 16 (.iad 2) [.t 14, .t 15] [14, 15] (.op 17 (.fad 0) [.t 16] [16] (.op 18 (.loadS) [.t 17] [17] (.op 19 (.bin .geq) [.t 13, .t 18] [13, 18] (.op 20 (.mov) [.t 19] [19] (.ifx 34 20 true (.op 21 (.mov) [.t 1] [] (.op 22 (.mov) [.t 0] [] (.op 23 (.mov) [.t 6] [] (.op 24 (.iad 2) [.t 22, .t 23] [22, 23] (.op 25 (.fad 0) [.t 24] [24] (.op 26 (.loadS) [.t 25] [25] (.op 27 (.bin .sub) [.t 21, .t 26] [21, 26] (.op 28 (.mov) [.t 0] [] (.op 29 (.mov) [.t 6] [] (.op 30 (.iad 2) [.t 28, .t 29] [28, 29] (.op 31 (.fad 1) [.t 30] [30] (.op 32 (.loadS) [.t 31] [31] (.op 33 (.bin .lss) [.t 27, .t 32] [27, 32] .nil))))))))))))) (.t 33) [20] .nil))))))))) [0, 0, 0, 6, 14, 30, 63, 127, 255, 255, 255, 1791, 3839, 7935, 16383, 255, 255, 98559, 229631, 491775, 1048575, 2097151]) (.cond (.t 34) (.seq (.reg (.op 35 (.mov) [.t 0] [0] (.op 36 (.mov) [.t 6] [6] (.op 37 (.iad 2) [.t 35, .t 36] [35, 36] (.op 38 (.loadA 2) [.t 37] [37] (.sto (.store 2) [.t 4, .t 38] [38] (.op 5 (.mov) [.c (.v (.bool true))] [] .nil))))))) .ret) .skip))) (.reg (.op 11 (.mov) [.t 6] [6] (.op 12 (.bin .add) [.t 11, .c (.v (.int .i64 1))] [11] (.op 6 (.mov) [.t 12] [12] .nil))))))))) (.seq (.reg (.op 39 (.build [(.int .i64 0), (.int .i64 0)] []) [] [] (.sto (.store 2) [.t 4, .t 39] [39] (.op 5 (.mov) [.c (.v (.bool false))] [] .nil)))) .ret))) }
def p39 : PFn := { ntmps := 19, res := [.tmp 4], code := (.seq (.reg (.op 4 (.mov) [.c (.v (.int .i64 0))] [4] .nil)) (.seq (.seq (.reg (.op 6 (.mov) [.t 0] [] (.op 7 (.len 0) [.t 6] [6] (.op 8 (.mov) [.c (.v (.int .i64 0))] [] .nil)))) (.block 0 (.loop [0, 1, 4, 7, 8] (.seq (.reg (.op 9 (.bin .lss) [.t 8, .t 7] [] .nil)) (.seq (.cond (.t 9) .skip (.exit 0)) (.seq (.block 1 (.seq (.reg (.op 10 (.mov) [.t 8] [] (.op 5 (.mov) [.t 10] [10] .nil))) (.seq (.reg (.op 11 (.mov) [.t 1] [] (.op 12 (.mov) [.t 0] [] (.op 13 (.mov) [.t 5] [] (.op 14 (.iad 2) [.t 12, .t 13] [12, 13] (.op 15 (.loadA 2) [.t 14] [14] (.op 16 (.callV) [.t 11, .t 15] [11, 15] .nil))))))) (.cond (.t 16) (.seq (.reg (.op 17 (.mov) [.t 5] [5] (.op 4 (.mov) [.t 17] [17] .nil))) .ret) .skip)))) (.reg (.op 18 (.bin .add) [.t 8, .c (.v (.int .i64 1))] [8] (.op 8 (.mov) [.t 18] [18] .nil))))))))) (.seq (.reg (.op 4 (.mov) [.c (.v (.int .i64 (-1)))] [] .nil)) .ret))) }
end Go.P
set_option maxRecDepth 100000
set_option maxHeartbeats 1000000
set_option linter.unusedVariables false
namespace Go.P
open Go.Sim (Ex OpK CK)
def P40 : PTab := fun f => match f with
  | 4 => some p4
  | 20 => some p20
  | 40 => some p40
  | 21 => some p21
  | 39 => some p39
  | _ => none
structure Run where (first count : Int)
def Run.cells (r : Run) : List PV := [i64 r.first, i64 r.count]
def w64 (n : Int) : Int := IntKind.wrap .i64 n
def F40 (r : Run) (index : Int) : Bool := decide (index ≥ r.first) && decide (w64 (index - r.first) < r.count)
theorem ok40 (B : Orc) (d : Nat) (r : Run) (index : Int) : Od B P40 (d + 1) 40 [.agg r.cells, .ip [i64 index]] = (some (F40 r index)).map bv := by
  rw [Od_eq (fn := p40) rfl]
  conv => lhs; whnf
  refine bind_ok (e := id) (guard_ok (x := decide (w64 (index - r.first) < r.count)) ?_) fun y => ?_
  · conv => lhs; whnf
    rfl
  conv => lhs; whnf
  exact leaf rfl
def F39 (l : List Run) (f : Run → Option Bool) : Option Int :=
  (loopN (fun i : Int =>
    if decide (i < ((l.map Run.cells).length : Int)) then
      (lget l i).bind fun r => (f r).bind fun y => if y then some (.inr (.inr i)) else some (.inl (w64 (i + 1)))
    else some (.inr (.inl i))) B64 0).bind fun e : Int ⊕ Int => match e with
    | .inl _ => some (-1)
    | .inr i => some i
def s39 (l : List Run) (c : PV) (i : Int) : PSt := { e := [(0, .is 2 (l.map Run.cells)), (1, c), (4, i64 0), (7, i64 (l.map Run.cells).length), (8, i64 i)], h := [] }
def e39 (l : List Run) (c : PV) (x : Int ⊕ Int) : Ex × PSt := match x with
  | .inl i => (.exit 0, s39 l c i)
  | .inr i => (.ret, { e := [(0, .is 2 (l.map Run.cells)), (1, c), (4, i64 i), (7, i64 (l.map Run.cells).length), (8, i64 i)], h := [] })
theorem ok39 (B : Orc) (d : Nat) (l : List Run) (f : Run → Option Bool) (g : FuncId) (x : PV) (hf : ∀ r : Run, Od B P40 d g [.agg r.cells, .ip [x]] = (f r).map bv) : Od B P40 (d + 1) 39 [.is 2 (l.map Run.cells), .fn g [] [.ip [x]]] = (F39 l f).map i64 := by
  rw [Od_eq (fn := p39) rfl]
  conv => lhs; whnf
  refine bind_ok (loop_ok (enc := s39 l (.fn g [] [.ip [x]])) (encE := e39 l (.fn g [] [.ip [x]])) (fun i => ?_) _ 0) fun e => ?_
  · conv => lhs; whnf
    refine if_ok ?_ ?_
    · conv => lhs; whnf
      refine bind_ok (rowGet_map _ _ _) fun r => ?_
      conv => lhs; whnf
      refine bind_ok (hf r) fun y => ?_
      conv => lhs; whnf
      refine if_ok ?_ ?_
      · conv => lhs; whnf
        exact leaf rfl
      · conv => lhs; whnf
        exact leaf rfl
    · conv => lhs; whnf
      exact leaf rfl
  · cases e with
    | inl i =>
      conv => lhs; whnf
      exact leaf rfl
    | inr i =>
      conv => lhs; whnf
      exact leaf rfl
def zrun : Run := ⟨0, 0⟩
def eRB (x : Run × Bool) : PV := .tup [.agg x.1.cells, bv x.2]
def F20 (l : List Run) (index : Int) : Option (Run × Bool) :=
  (F39 l (fun r => some (F40 r index))).bind fun n =>
    if decide (n < 0) then some (zrun, false) else (lget l n).bind fun r => some (r, true)
theorem ok20 (B : Orc) (d : Nat) (l : List Run) (index : Int) : Od B P40 (d + 3) 20 [.is 2 (l.map Run.cells), i64 index] = (F20 l index).map eRB := by
  rw [Od_eq (fn := p20) rfl]
  conv => lhs; whnf
  refine bind_ok (ok39 B (d + 1) l (fun r => some (F40 r index)) 40 (i64 index) fun r => ok40 B d r index) fun n => ?_
  conv => lhs; whnf
  refine if_ok ?_ ?_
  · conv => lhs; whnf
    exact leaf rfl
  · conv => lhs; whnf
    refine bind_ok (rowGet_map _ _ _) fun r => ?_
    conv => lhs; whnf
    exact leaf rfl
def F21 (l : List Run) (index : Int) : Option (Run × Bool) :=
  (loopN (fun i : Int =>
    if decide (i < ((l.map Run.cells).length : Int)) then
      (lget l i).bind fun r => (if decide (index ≥ r.first) then (lget l i).bind fun r => (lget l i).bind fun r' => some (decide (w64 (index - r.first) < r'.count)) else some false).bind fun y =>
        if y then (lget l i).bind fun r => some (.inr (.inr (i, r))) else some (.inl (w64 (i + 1)))
    else some (.inr (.inl i))) B64 0).bind fun e : Int ⊕ (Int × Run) => match e with
    | .inl _ => some (zrun, false)
    | .inr e => some (e.2, true)
def s21 (l : List Run) (index : Int) (i : Int) : PSt := { e := [(0, .is 2 (l.map Run.cells)), (1, i64 index), (4, .ref 0 0), (5, bv false), (6, i64 i)], h := [(0, .box zrun.cells)] }
def e21 (l : List Run) (index : Int) (x : Int ⊕ (Int × Run)) : Ex × PSt := match x with
  | .inl i => (.exit 0, s21 l index i)
  | .inr e => (.ret, { e := [(1, i64 index), (4, .ref 0 0), (5, bv true)], h := [(0, .box e.2.cells)] })
theorem ok21 (B : Orc) (d : Nat) (l : List Run) (index : Int) : Od B P40 (d + 1) 21 [.is 2 (l.map Run.cells), i64 index] = (F21 l index).map eRB := by
  rw [Od_eq (fn := p21) rfl]
  conv => lhs; whnf
  refine bind_ok (loop_ok (enc := s21 l index) (encE := e21 l index) (fun i => ?_) _ 0) fun e => ?_
  · conv => lhs; whnf
    refine if_ok ?_ ?_
    · conv => lhs; whnf
      refine bind_ok (rowGet_map _ _ _) fun r => ?_
      conv => lhs; whnf
      refine bind_ok (e := id) (if_ok ?_ ?_) fun y => ?_
      · conv => lhs; whnf
        refine bind_ok (rowGet_map _ _ _) fun r => ?_
        conv => lhs; whnf
        refine bind_ok (rowGet_map _ _ _) fun r' => ?_
        conv => lhs; whnf
        exact leaf rfl
      · exact leaf rfl
      conv => lhs; whnf
      refine if_ok ?_ ?_
      · conv => lhs; whnf
        refine bind_ok (rowGet_map _ _ _) fun r => ?_
        conv => lhs; whnf
        exact leaf rfl
      · conv => lhs; whnf
        exact leaf rfl
    · conv => lhs; whnf
      exact leaf rfl
  · cases e with
    | inl i =>
      conv => lhs; whnf
      exact leaf rfl
    | inr e =>
      conv => lhs; whnf
      exact leaf rfl
end Go.P
set_option maxRecDepth 100000
set_option maxHeartbeats 1000000
set_option linter.unusedVariables false
namespace Go.P
open Go.Sim (Ex OpK CK)
def F4k (known : Option Bool) (l : List Run) (index : Int) : Option Bool :=
  known.bind fun k => (some (!k || decide (((l.map Run.cells).length : Int) > 20))).bind fun y =>
    if y then known.bind fun k => some k else
      (loopN (fun i : Int =>
        if decide (i < ((l.map Run.cells).length : Int)) then
          (lget l i).bind fun r =>
            (some (decide (r.first < 0) || decide (r.count < 0))).bind fun y1 => (some (y1 || decide (r.first > 1048576))).bind fun y2 => (some (y2 || decide (r.count > 1048576))).bind fun y3 => (some (y3 || decide (index < -1048576))).bind fun y4 =>
              if y4 then some (.inr (.inr i)) else some (.inl (w64 (i + 1)))
        else some (.inr (.inl i))) B64 0).bind fun e : Int ⊕ Int => match e with
      | .inr _ => some true
      | .inl _ => (F20 l index).bind fun a => (F21 l index).bind fun b =>
        (some ((((a.1.first == b.1.first) && ((a.1.count == b.1.count) && true)) != false) && ((a.2 == b.2) != false))).bind fun y => some y
def s4 (l : List Run) (index : Int) (i : Int) : PSt := { e := [(0, .is 2 (l.map Run.cells)), (1, i64 index), (4, bv false), (5, i64 i)], h := [] }
def e4 (l : List Run) (index : Int) (x : Int ⊕ Int) : Ex × PSt := match x with
  | .inl i => (.exit 0, s4 l index i)
  | .inr i => (.ret, { e := [(0, .is 2 (l.map Run.cells)), (1, i64 index), (4, bv true), (5, i64 i)], h := [] })
theorem ok4 (B : Orc) (hB : B 12 [] = some (bv true)) (d : Nat) (l : List Run) (index : Int) : Od B P40 (d + 4) 4 [.is 2 (l.map Run.cells), i64 index] = (F4k (some true) l index).map bv := by
  have hk : Od B P40 (d + 3) 12 [] = (some true).map bv := by rw [Od_base rfl]; exact hB
  rw [Od_eq (fn := p4) rfl]
  conv => lhs; whnf
  refine bind_ok hk fun k => ?_
  conv => lhs; whnf
  refine bind_ok (e := id) (guard_or (x := decide (((l.map Run.cells).length : Int) > 20)) ?_) fun y => ?_
  · conv => lhs; whnf
    all_goals rfl
  conv => lhs; whnf
  refine if_ok ?_ ?_
  · conv => lhs; whnf
    refine bind_ok hk fun k => ?_
    conv => lhs; whnf
    exact leaf rfl
  conv => lhs; whnf
  refine bind_ok (loop_ok (enc := s4 l index) (encE := e4 l index) (fun i => ?_) _ 0) fun e => ?_
  · conv => lhs; whnf
    refine if_ok ?_ ?_
    · conv => lhs; whnf
      refine bind_ok (rowGet_map _ _ _) fun r => ?_
      conv => lhs; whnf
      refine bind_ok (e := id) (guard_or (x := decide (r.count < 0)) ?_) fun y1 => ?_
      · conv => lhs; whnf
        all_goals rfl
      conv => lhs; whnf
      refine bind_ok (e := id) (guard_or (x := decide (r.first > 1048576)) ?_) fun y2 => ?_
      · conv => lhs; whnf
        all_goals rfl
      conv => lhs; whnf
      refine bind_ok (e := id) (guard_or (x := decide (r.count > 1048576)) ?_) fun y3 => ?_
      · conv => lhs; whnf
        all_goals rfl
      conv => lhs; whnf
      refine bind_ok (e := id) (guard_or (x := decide (index < -1048576)) ?_) fun y4 => ?_
      · conv => lhs; whnf
        all_goals rfl
      conv => lhs; whnf
      refine if_ok ?_ ?_
      · conv => lhs; whnf
        exact leaf rfl
      · conv => lhs; whnf
        exact leaf rfl
    · conv => lhs; whnf
      exact leaf rfl
  · cases e with
    | inr i =>
      conv => lhs; whnf
      exact leaf rfl
    | inl i =>
      conv => lhs; whnf
      refine bind_ok (ok20 B d l index) fun a => ?_
      conv => lhs; whnf
      refine bind_ok (ok21 B (d + 2) l index) fun b => ?_
      conv => lhs; whnf
      refine bind_ok (e := id) (guard_ok (x := (a.2 == b.2) != false) ?_) fun y => ?_
      · conv => lhs; whnf
        all_goals rfl
      conv => lhs; whnf
      exact leaf rfl
end Go.P
set_option linter.unusedVariables false
namespace Go.P
open Go.Sim (Ex OpK CK)
def listLoop {A E : Type} (G : Int → A → Option (Int ⊕ E)) (fin : Int → E) : Nat → List A → Option E
  | k, [] => some (fin k)
  | k, r :: rs => (G k r).bind fun x => match x with
    | .inl _ => listLoop G fin (k + 1) rs
    | .inr e => some e
theorem lget_nat {A : Type} (l : List A) (k : Nat) : lget l (k : Int) = l[k]? := by simp [lget]
theorem loop_list {A E : Type} {G : Int → A → Option (Int ⊕ E)} {fin : Int → E} {n : Int} {B : Int → Option (Int ⊕ E)} (l : List A) (hn : n = l.length)
    (hB : ∀ k : Nat, B k = if decide ((k : Int) < n) then (lget l (k : Int)).bind (G k) else some (.inr (fin k)))
    (hG : ∀ (k : Nat) r j, k < l.length → G k r = some (.inl j) → j = k + 1) : ∀ (m k fuel : Nat), l.length - k = m → k ≤ l.length → m < fuel → loopN B fuel (k : Int) = listLoop G fin k (l.drop k)
  | 0, k, fuel, hm, hk, hf => by
    obtain ⟨fuel, rfl⟩ : ∃ f, fuel = f + 1 := ⟨fuel - 1, by omega⟩
    have : l.drop k = [] := List.drop_eq_nil_of_le (by omega)
    rw [this, loopN, hB, hn]
    have h1 : decide ((k : Int) < (l.length : Int)) = false := by simp; omega
    simp only [h1, Bool.false_eq_true, if_false, Option.bind_some, listLoop]
  | m + 1, k, fuel, hm, hk, hf => by
    obtain ⟨fuel, rfl⟩ : ∃ f, fuel = f + 1 := ⟨fuel - 1, by omega⟩
    have hlt : k < l.length := by omega
    rw [List.drop_eq_getElem_cons hlt, loopN, hB, hn, lget_nat]
    have h1 : decide ((k : Int) < (l.length : Int)) = true := by simp; omega
    simp only [h1, if_true, List.getElem?_eq_getElem hlt, Option.bind_some, listLoop]
    cases hg : G k l[k] with
    | none => rfl
    | some x =>
      cases x with
      | inr e => rfl
      | inl j =>
        have := hG k _ j hlt hg
        subst this
        simp only [Option.bind_some]
        have := loop_list l hn hB hG m (k + 1) fuel (by omega) (by omega) (by omega)
        rw [← this]
        rfl
theorem w64_small {n : Int} (h1 : 0 ≤ n) (h2 : n < 1000000) : w64 n = n := IntWalk.i64_in n (by omega)
theorem listLoop_some {A E : Type} {G : Int → A → Option (Int ⊕ E)} {fin : Int → E} (hG : ∀ k r, ∃ x, G k r = some x) : ∀ (rs : List A) (k : Nat), ∃ e, listLoop G fin k rs = some e
  | [], k => ⟨_, rfl⟩
  | r :: rs, k => by
    obtain ⟨x, hx⟩ := hG k r
    simp only [listLoop, hx, Option.bind_some]
    cases x with
    | inl j => exact listLoop_some hG rs (k + 1)
    | inr e => exact ⟨e, rfl⟩
theorem lt_B64 {n : Nat} (h : n < 1000000) : n < B64 := Nat.lt_trans h (by decide)
def G39 (index : Int) (i : Int) (r : Run) : Option (Int ⊕ (Int ⊕ Int)) := (some (F40 r index)).bind fun y => if y then some (.inr (.inr i)) else some (.inl (w64 (i + 1)))
def G21 (l : List Run) (index : Int) (i : Int) (r : Run) : Option (Int ⊕ (Int ⊕ (Int × Run))) :=
  (if decide (index ≥ r.first) then (lget l i).bind fun r => (lget l i).bind fun r' => some (decide (w64 (index - r.first) < r'.count)) else some false).bind fun y =>
        if y then (lget l i).bind fun r => some (.inr (.inr (i, r))) else some (.inl (w64 (i + 1)))
theorem both {l : List Run} {index : Int} : ∀ (rs : List Run) (k : Nat), l.drop k = rs →
    (∃ a b, listLoop (G39 index) .inl k rs = some (.inl a) ∧ listLoop (G21 l index) .inl k rs = some (.inl b)) ∨
    ∃ (j : Nat) (r : Run), l[j]? = some r ∧ listLoop (G39 index) .inl k rs = some (.inr (j : Int)) ∧ listLoop (G21 l index) .inl k rs = some (.inr ((j : Int), r))
  | [], k, _ => .inl ⟨_, _, rfl, rfl⟩
  | r :: rs, k, h => by
    have hk : l[k]? = some r := by
      have : (l.drop k)[0]? = some r := by rw [h]; rfl
      simpa using this
    have hd : l.drop (k + 1) = rs := by
      have : (l.drop k).drop 1 = rs := by rw [h]; rfl
      simpa [List.drop_drop] using this
    have e21 : G21 l index k r = if F40 r index then some (.inr (.inr ((k : Int), r))) else some (.inl (w64 (k + 1))) := by
      simp only [G21, lget_nat, hk, Option.bind_some, F40]
      by_cases h1 : index ≥ r.first <;> by_cases h2 : w64 (index - r.first) < r.count <;> simp [h1, h2]
    have e39 : G39 index k r = if F40 r index then some (.inr (.inr (k : Int))) else some (.inl (w64 (k + 1))) := rfl
    simp only [listLoop, e21, e39]
    cases hf : F40 r index with
    | true => exact .inr ⟨k, r, hk, rfl, rfl⟩
    | false => exact both rs (k + 1) hd
theorem hG39 {l : List Run} (hl : l.length ≤ 20) (index : Int) : ∀ (k : Nat) (r : Run) (j : Int), k < l.length → G39 index k r = some (.inl j) → j = k + 1 := by
  intro k r j hk hj
  unfold G39 at hj
  cases hf : F40 r index with
  | true => simp [hf] at hj
  | false =>
    simp [hf] at hj
    rw [← hj]
    exact w64_small (by omega) (by omega)
theorem hG21 {l : List Run} (hl : l.length ≤ 20) (index : Int) : ∀ (k : Nat) (r : Run) (j : Int), k < l.length → G21 l index k r = some (.inl j) → j = k + 1 := by
  intro k r j hk hj
  simp only [G21, Option.bind_eq_some_iff] at hj
  obtain ⟨y, _, hj⟩ := hj
  cases y with
  | true =>
    simp only [if_true, Option.bind_eq_some_iff] at hj
    obtain ⟨_, _, hj⟩ := hj
    cases hj
  | false =>
    simp at hj
    rw [← hj]
    exact w64_small (by omega) (by omega)
theorem find_eq {l : List Run} (hl : l.length ≤ 20) (index : Int) : ∃ a, F20 l index = some a ∧ F21 l index = some a := by
  have hlen : ((l.map Run.cells).length : Int) = l.length := by simp
  have h39 : F39 l (fun r => some (F40 r index)) = (listLoop (G39 index) .inl 0 l).bind fun e : Int ⊕ Int => match e with
    | .inl _ => some (-1)
    | .inr i => some i := by
    unfold F39
    rw [show (0 : Int) = ((0 : Nat) : Int) from rfl, loop_list (G := G39 index) (fin := .inl) l hlen (fun k => rfl) (hG39 hl index) l.length 0 B64 (by omega) (by omega) (lt_B64 (by omega)), List.drop_zero]
    first
      | done
      | rfl
  have h21 : F21 l index = (listLoop (G21 l index) .inl 0 l).bind fun e : Int ⊕ (Int × Run) => match e with
    | .inl _ => some (zrun, false)
    | .inr e => some (e.2, true) := by
    unfold F21
    rw [show (0 : Int) = ((0 : Nat) : Int) from rfl, loop_list (G := G21 l index) (fin := .inl) l hlen (fun k => rfl) (hG21 hl index) l.length 0 B64 (by omega) (by omega) (lt_B64 (by omega)), List.drop_zero]
    first
      | done
      | rfl
  unfold F20
  rw [h39, h21]
  rcases both l 0 (index := index) (l := l) rfl with ⟨a, b, h1, h2⟩ | ⟨j, r, h0, h1, h2⟩
  · rw [h1, h2]
    exact ⟨_, rfl, rfl⟩
  · rw [h1, h2]
    refine ⟨(r, true), ?_, rfl⟩
    have hneg : decide ((j : Int) < 0) = false := by simp
    simp only [Option.bind_some, hneg, Bool.false_eq_true, if_false, lget_nat, h0]
def G4 (index : Int) (i : Int) (r : Run) : Option (Int ⊕ (Int ⊕ Int)) :=
  (some (decide (r.first < 0) || decide (r.count < 0))).bind fun y1 => (some (y1 || decide (r.first > 1048576))).bind fun y2 => (some (y2 || decide (r.count > 1048576))).bind fun y3 => (some (y3 || decide (index < -1048576))).bind fun y4 =>
              if y4 then some (.inr (.inr i)) else some (.inl (w64 (i + 1)))
theorem law4 (l : List Run) (index : Int) : F4k (some true) l index = some true := by
  have hlen : ((l.map Run.cells).length : Int) = l.length := by simp
  unfold F4k
  simp only [Option.bind_some, Bool.not_true, Bool.false_or]
  by_cases h20 : ((l.map Run.cells).length : Int) > 20
  · rw [if_pos (by simpa using h20)]
  · have h20' : l.length ≤ 20 := by omega
    rw [if_neg (by simpa using h20)]
    rw [show (0 : Int) = ((0 : Nat) : Int) from rfl, loop_list (G := G4 index) (fin := .inl) l hlen (fun k => rfl) ?_ l.length 0 B64 (by omega) (by omega) (lt_B64 (by omega)), List.drop_zero]
    · obtain ⟨e, he⟩ := listLoop_some (G := G4 index) (fin := (.inl : Int → Int ⊕ Int)) (fun k r => by
        simp only [G4, Option.bind_some]
        split
        · exact ⟨_, rfl⟩
        · exact ⟨_, rfl⟩) l 0
      rw [he]
      cases e with
      | inr i => rfl
      | inl i =>
        obtain ⟨a, h1, h2⟩ := find_eq h20' index
        simp [h1, h2]
    · intro k r j hk hj
      simp only [G4, Option.bind_some] at hj
      split at hj
      · cases hj
      · cases hj
        exact w64_small (by omega) (by omega)
end Go.P
