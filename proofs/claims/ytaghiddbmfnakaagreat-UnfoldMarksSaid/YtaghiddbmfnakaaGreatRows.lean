/-
  No cell of these rows narrows 'for every input' (looked for: loops, veiled, ifaces, maps, wideKeys, modest, calm, conditions, laid).
  DERIVED. THE GIVEN ROWS OF THIS SEAT. 2 by the template 'for every input the law returns true; each argument reads behind the call as it read before'; 0 by the template 'total and deterministic' (their statements: YtaghiddbmfnakaaGreatTotals.lean).
  GIVEN WITH THE SEED: the statements are not yours to turn. If you find one false, say at which input.
  Laid BY PROGRAM, IN A SANDBOX (cutbox-rows.mjs): the forced cells as the released guide's own fill.sh prints them over the translation f5d6c4103696344d… (all of the seat's roots in one cut). By AI agents, Wed Nov 11 2026. No macro, syntax, notation, axiom, sorry.
-/
import Derived.Test.YtaghiddbmfnakaaGreatChecked
import GoSem.Claim
import GoSem.ClaimJoined
import GoSem.ClaimMapViews
import Derived.JoinedTies
import Derived.KernelRfl
namespace Go.Proofs.YtaghiddbmfnakaaGreat
/- THE CELL 'sum', in the pinned program and in every row, IS THE sha256 OF THE DUMP (.gsa) THAT YtaghiddbmfnakaaGreatProg.lean LOADS. Nothing in Lean hashes anything: it is a label: what it is worth is what the hold of that sum in a sandbox is worth. -/
noncomputable def Tryz.pinned : Pinned := { name := "ytaghiddbmfnakaagreat", sum := "f5d6c4103696344da678ea7c3b0a47e8cc52078ebbd8015b1fb0c8c7337c055b", checked := Tryz.checked }
namespace Rows
def none {H : Type} : Left H := { results := [], args := [] }

/-- 'hemiolalaw43.UnfoldOrders': WHATEVER THE INPUT: true; the input reads as it did. -/
def unfoldOrdersSpec : ChangeSpec := { name := "unfoldOrders", fn := fun _ => fun
  | [d] => { results := [.lit (.bool true)], args := [d] }
  | _ => none }
def unfoldOrdersRow : OpenClaim := { program := "ytaghiddbmfnakaagreat", sum := "f5d6c4103696344da678ea7c3b0a47e8cc52078ebbd8015b1fb0c8c7337c055b", func := "hemiola/hemiolalaw43.UnfoldOrders", spec := "unfoldOrders", unfollowed := true, recurses := true, plainKeys := false, apart := false }
def UnfoldOrdersSaid : Prop := unfoldOrdersRow.holds Tryz.pinned (OpenSpec.ofChange unfoldOrdersSpec)

/-- ITS FALSE NEIGHBOUR: 'it returns false'. Refute it at one input. -/
def unfoldOrdersWrong : ChangeSpec := { name := "unfoldOrders", fn := fun _ => fun
  | [d] => { results := [.lit (.bool false)], args := [d] }
  | _ => none }
def UnfoldOrdersWrongFalsely : Prop := unfoldOrdersRow.holds Tryz.pinned (OpenSpec.ofChange unfoldOrdersWrong)

/-- 'hemiolalaw43.UnfoldMarks': WHATEVER THE INPUT: true; the input reads as it did. -/
def unfoldMarksSpec : ChangeSpec := { name := "unfoldMarks", fn := fun _ => fun
  | [d] => { results := [.lit (.bool true)], args := [d] }
  | _ => none }
def unfoldMarksRow : OpenClaim := { program := "ytaghiddbmfnakaagreat", sum := "f5d6c4103696344da678ea7c3b0a47e8cc52078ebbd8015b1fb0c8c7337c055b", func := "hemiola/hemiolalaw43.UnfoldMarks", spec := "unfoldMarks", unfollowed := true, recurses := true, plainKeys := false, apart := false }
def UnfoldMarksSaid : Prop := unfoldMarksRow.holds Tryz.pinned (OpenSpec.ofChange unfoldMarksSpec)

/-- ITS FALSE NEIGHBOUR: 'it returns false'. Refute it at one input. -/
def unfoldMarksWrong : ChangeSpec := { name := "unfoldMarks", fn := fun _ => fun
  | [d] => { results := [.lit (.bool false)], args := [d] }
  | _ => none }
def UnfoldMarksWrongFalsely : Prop := unfoldMarksRow.holds Tryz.pinned (OpenSpec.ofChange unfoldMarksWrong)

/- THE SECOND FORM. 'bulk': how many values and letters a reading holds, each counted each time it is reached (what is shared counts as often as it is met; a slice's spare places count too). A statement '..UptoSaid' is the law's where the arguments, and the package variables that the reading takes, are together of bulk at most 1048576: NARROWER than '..Said'. Prove '..Said' where nothing that the law and all that it calls make is longer than what came in: it says more and counts as full. Else prove '..UptoSaid'. A law counts once. -/
mutual
def uptoBulk {H : Type} : DataW H → Nat
  | .lit (.string bytes) => bytes.length + 1
  | .lit _ => 1
  | .nil => 1
  | .ptr d => uptoBulk d + 1
  | .slice elems spare => uptoBulkAll elems + uptoBulkAll spare + 1
  | .agg parts => uptoBulkAll parts + 1
  | .iface _ d => uptoBulk d + 1
  | .map entries => uptoBulkEntries entries + 1
  | .held _ => 1
def uptoBulkAll {H : Type} : List (DataW H) → Nat
  | [] => 0
  | d :: r => uptoBulk d + uptoBulkAll r
def uptoBulkEntries {H : Type} : List (Lit × DataW H) → Nat
  | [] => 0
  | x :: r => uptoBulkEntry x + uptoBulkEntries r
def uptoBulkEntry {H : Type} : Lit × DataW H → Nat
  | (.string bytes, d) => bytes.length + uptoBulk d + 1
  | (_, d) => uptoBulk d + 1
 end
def uptoSmall : (H : Type) → List (DataW H) → Bool := fun _ ds => decide (uptoBulkAll ds ≤ 1048576)
def OpenSpec.upto (s : _root_.Go.ChangeSpec) : _root_.Go.OpenSpec := { _root_.Go.OpenSpec.ofChange s with cond := some uptoSmall }

/-- 'hemiolalaw43.UnfoldOrders', WHERE WHAT IT READS IS OF BULK AT MOST 1048576: true; the input reads as it did. -/
def unfoldOrdersUptoRow : OpenClaim := { program := "ytaghiddbmfnakaagreat", sum := "f5d6c4103696344da678ea7c3b0a47e8cc52078ebbd8015b1fb0c8c7337c055b", func := "hemiola/hemiolalaw43.UnfoldOrders", spec := "unfoldOrders", unfollowed := true, recurses := true, plainKeys := false, apart := false, narrowed := true }
def UnfoldOrdersUptoSaid : Prop := unfoldOrdersUptoRow.holds Tryz.pinned (OpenSpec.upto unfoldOrdersSpec)

/-- 'hemiolalaw43.UnfoldMarks', WHERE WHAT IT READS IS OF BULK AT MOST 1048576: true; the input reads as it did. -/
def unfoldMarksUptoRow : OpenClaim := { program := "ytaghiddbmfnakaagreat", sum := "f5d6c4103696344da678ea7c3b0a47e8cc52078ebbd8015b1fb0c8c7337c055b", func := "hemiola/hemiolalaw43.UnfoldMarks", spec := "unfoldMarks", unfollowed := true, recurses := true, plainKeys := false, apart := false, narrowed := true }
def UnfoldMarksUptoSaid : Prop := unfoldMarksUptoRow.holds Tryz.pinned (OpenSpec.upto unfoldMarksSpec)

end Rows
end Go.Proofs.YtaghiddbmfnakaaGreat
