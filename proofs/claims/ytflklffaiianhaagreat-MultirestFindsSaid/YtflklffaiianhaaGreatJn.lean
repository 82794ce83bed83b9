import Derived.Test.YtflklffaiianhaaGreatWk
import Derived.Test.YtflklffaiianhaaGreatTb
import Derived.Test.YtflklffaiianhaaGreatFb
import Derived.Test.YtflklffaiianhaaGreatRows
/- A text of the proof of MultirestFinds. -/
set_option maxRecDepth 100000
set_option linter.unusedVariables false
namespace Go.P
open Go.Sim Go.SimIR Go.Proofs
theorem law_true {T : Tab} {f : FuncId} {xs : List PV} (h : FnOK T f xs (bv true)) {ys : List AV} (hl : LR (RC false) xs ys) (hc : ys.all (closed 4) = true) : ∃ d s, callF T (exec T d) 0 f ys { h := [], n := 0 } = some (.v (.bool true), s) := by
  obtain ⟨ifn, h1, h2, h3, h4⟩ := h
  obtain ⟨D, hD⟩ := h4 ys hl
  obtain ⟨w, s', y, k1, k2, k3⟩ := hD D (Nat.le_refl _)
  cases k3
  exact ⟨D, _, by simp only [callF, h1, h2, if_true, hc, k1, k2, Option.map_some]; rfl⟩
theorem ty3 {D : Nat} {cs : List AV} (h : TyC Tryz.prog D 3 cs) : ∃ n, cs = [.int n] ∧ (Lit.int .i64 n).wf = true := by
  cases D with
  | zero => exact h.elim
  | succ D => unfold TyC at h; rw [show Tryz.prog.underlying 3 = some (.int .i64) by kernel_rfl] at h; exact h
theorem ty39 {D : Nat} {cs : List AV} (h : TyC Tryz.prog D 39 cs) : ∃ r : Run, cs = [.int r.first, .int r.count] := by
  cases D with
  | zero => exact h.elim
  | succ D =>
    unfold TyC at h
    simp only [Tryz.underlying39] at h
    obtain ⟨c1, c2, rfl, _, h1, c3, c4, rfl, _, h2, rfl⟩ := h
    obtain ⟨a, rfl, _⟩ := ty3 h1
    obtain ⟨b, rfl, _⟩ := ty3 h2
    exact ⟨⟨a, b⟩, rfl⟩
def aCells (r : Run) : List AV := [.int r.first, .int r.count]
theorem ty30 {D : Nat} {cs : List AV} (h : TyC Tryz.prog D 30 cs) : (cs = [.v (.slice none 0 0)]) ∨ ∃ l : List Run, cs = [.is 2 (l.map aCells)] := by
  cases D with
  | zero => exact h.elim
  | succ D =>
    unfold TyC at h
    simp only [Tryz.underlying30] at h
    rcases h with h | ⟨els, rfl, _, h⟩
    · exact .inl h
    · rename_i hlen
      clear hlen
      right
      rw [show Tryz.prog.cellsOf 39 = 2 by kernel_rfl]
      suffices ∃ l : List Run, els = l.map aCells by
        obtain ⟨l, rfl⟩ := this
        exact ⟨l, rfl⟩
      induction els with
      | nil => exact ⟨[], rfl⟩
      | cons e es ih =>
        obtain ⟨l, rfl⟩ := ih (fun row hrow => h row (by simp [hrow]))
        obtain ⟨r, rfl⟩ := ty39 (h e (by simp)).2
        exact ⟨r :: l, rfl⟩
theorem rr_runs : ∀ l : List Run, RR (l.map Run.cells) (l.map aCells)
  | [] => .nil
  | r :: l => .cons (.cons (.v _) (.cons (.v _) .nil)) (rr_runs l)
end Go.P
set_option maxRecDepth 100000
set_option linter.unusedVariables false
namespace Go.P
open Go.Sim Go.SimIR Go.Proofs
def B40 : Orc := fun f xs => match f, xs with
  | 12, [] => some (bv true)
  | _, _ => none
theorem known_ok : FnOK T 12 [] (bv true) := by
  obtain ⟨D, hD⟩ := g176
  refine ⟨i12, by kernel_rfl, rfl, rfl, fun ys hl => ⟨D, fun d hd => ?_⟩⟩
  obtain ⟨fn, w, s', h1, h2, h3, h4, _⟩ := hD d hd
  rw [show T x176.f = some i12 by kernel_rfl] at h1
  cases h1
  rw [hl.inv_nil]
  exact ⟨w, s', _, h3, h4, .v _⟩
theorem base_ok : ∀ f xs v, B40 f xs = some v → FnOK T f xs v := by
  intro f xs v h
  unfold B40 at h
  split at h
  · cases h; exact known_ok
  · cases h
theorem tab40 : ∀ f fn, P40 f = some fn → T f = some (toI fn) ∧ okP fn.ntmps fn.code = true := by
  intro f fn h
  unfold P40 at h
  split at h
  · cases h; exact ⟨by kernel_rfl, by kernel_rfl⟩
  · cases h; exact ⟨by kernel_rfl, by kernel_rfl⟩
  · cases h; exact ⟨by kernel_rfl, by kernel_rfl⟩
  · cases h; exact ⟨by kernel_rfl, by kernel_rfl⟩
  · cases h; exact ⟨by kernel_rfl, by kernel_rfl⟩
  · cases h
theorem finds_fn (l : List Run) (index : Int) : FnOK T 4 [.is 2 (l.map Run.cells), i64 index] (bv true) := by
  refine Od_ok base_ok tab40 4 4 _ _ ?_
  rw [show Od B40 P40 4 4 _ = _ from ok4 B40 rfl 0 l index, law4]
  rfl
end Go.P
namespace Go.Proofs.YtflklffaiianhaaGreat
open Go.Sim Go.SimIR Go.ChangeShapes Go.WideShapes Go.ChangeAt Go.RowKit Go.P
theorem own : ownKnob Tryz.prog.godebug = none := by kernel_rfl
theorem mixed : Tryz.prog.follows .mixedOrders = true := by kernel_rfl
theorem args2 {P : Program} {W : World} {D : Nat} {t1 t2 : TypeId} {xs : List AV} {vs : List Value} (h : ArgsR P W D #[t1, t2].toList xs vs) : ∃ x y v w, xs = [x, y] ∧ ArgR P W D t1 x v ∧ ArgR P W D t2 y w := by
  rcases xs with _ | ⟨x, _ | ⟨y, _ | ⟨z, xs⟩⟩⟩ <;> rcases vs with _ | ⟨v, _ | ⟨w, _ | ⟨w2, vs⟩⟩⟩ <;> first
    | exact ⟨x, y, v, w, rfl, h.1, h.2.1⟩
    | exact absurd h (by simp [ArgsR])
theorem finds_walk (W : World) (xs : List AV) (args : Array Value) (h : ArgsR Tryz.prog W 8 Tryz.f4.params.toList xs args.toList) :
    Calls Tryz.prog 4 args W fun e W' => e = .returned (.bool true) ∧ Below W.heap.size W W' := by
  have ht := ArgsR.tr h
  have hx : ∃ d s, callF T (exec T d) 0 4 xs { h := [], n := 0 } = some (.v (.bool true), s) := by
    rw [Tryz.params4] at h
    obtain ⟨x, y, v, w, rfl, ⟨_, cs, hc, hx⟩, ⟨_, cs2, hc2, hy⟩⟩ := args2 h
    · rw [show isAggB Tryz.prog 30 = false by kernel_rfl] at hx
      rw [show isAggB Tryz.prog 3 = false by kernel_rfl] at hy
      obtain ⟨index, rfl, _⟩ := ty3 hc2
      simp only [Bool.false_eq_true, if_false, List.headD_cons] at hy
      subst hy
      rcases ty30 hc with rfl | ⟨l, rfl⟩
      · simp only [Bool.false_eq_true, if_false, List.headD_cons] at hx
        subst hx
        exact law_true (finds_fn [] index) (.cons .isn (.cons (.v _) .nil)) rfl
      · simp only [Bool.false_eq_true, if_false, List.headD_cons] at hx
        subst hx
        exact law_true (finds_fn l index) (.cons (rr_runs l).is (.cons (.v _) .nil)) rfl
  obtain ⟨d, s, hx⟩ := hx
  exact sim_calls tab_ok mixed rfl hx ht
theorem finds_lifted (os : Os) (started : os.Started) (H : Type) (enc : TypeId × Value → H) :
    ReturnsInHanded {} Tryz.checked os 4 .any (Rows.multirestFindsSpec.pre6 enc Tryz.prog Tryz.f4 Rows.multirestFindsRow.domain false) (Rows.multirestFindsSpec.post enc Tryz.prog Tryz.f4 false true false false) := by
  refine returnsInHanded_of_change (C := Tryz.checked) own started (by kernel_rfl) Tryz.func4
    (ChangeSpec.witness6 (enc := enc) (C := Tryz.checked) false ⟨#[], #[.slice none 0 0, .int .i64 0], []⟩ 8 (by kernel_rfl) (by kernel_rfl) (by kernel_rfl) (by kernel_rfl)) ?_
  intro W base args ds gs before hval hW _ _
  refine law_contract (C := Tryz.checked) (D := 8) (tb := 4) rfl ?_ (by kernel_rfl) Tryz.underlying4 (by kernel_rfl) finds_walk W base args ds gs before hval hW
  intro ds hds
  have h2 : ds.length = 2 := by rw [hds]; exact congrArg List.length (congrArg Array.toList Tryz.params4)
  match ds, h2 with
  | [d1, d2], _ => rfl
end Go.Proofs.YtflklffaiianhaaGreat
