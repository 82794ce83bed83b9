/-
  No cell of these rows narrows 'for every input' (looked for: loops, veiled, ifaces, maps, wideKeys, modest, calm, conditions, laid).
  DERIVED. THE GIVEN ROWS OF THIS SEAT. 5 by the template 'for every input the law returns true; each argument reads behind the call as it read before'; 0 by the template 'total and deterministic' (their statements: YtndjmihnknjaeaaGreatTotals.lean).
  GIVEN WITH THE SEED: the statements are not yours to turn. If you find one false, say at which input.
  Laid BY PROGRAM, IN A SANDBOX (cutbox-rows.mjs): the forced cells as the released guide's own fill.sh prints them over the translation 2a7c92b25c50fade… (all of the seat's roots in one cut). By AI agents, Wed Nov 11 2026. No macro, syntax, notation, axiom, sorry.
-/
import Derived.Test.YtndjmihnknjaeaaGreatChecked
import GoSem.Claim
import GoSem.ClaimJoined
import GoSem.ClaimMapViews
import Derived.JoinedTies
import Derived.KernelRfl
namespace Go.Proofs.YtndjmihnknjaeaaGreat
/- THE CELL 'sum', in the pinned program and in every row, IS THE sha256 OF THE DUMP (.gsa) THAT YtndjmihnknjaeaaGreatProg.lean LOADS. Nothing in Lean hashes anything: it is a label: what it is worth is what the hold of that sum in a sandbox is worth. -/
noncomputable def Tryz.pinned : Pinned := { name := "ytndjmihnknjaeaagreat", sum := "2a7c92b25c50fade590c2d8bbdd721e739bc844f1fc5731897e17c2d8d39aa4a", checked := Tryz.checked }
namespace Rows
def none {H : Type} : Left H := { results := [], args := [] }

/-- 'hemiolalaw43.UnfoldOrders': WHATEVER THE INPUT: true; the input reads as it did. -/
def unfoldOrdersSpec : ChangeSpec := { name := "unfoldOrders", fn := fun _ => fun
  | [d] => { results := [.lit (.bool true)], args := [d] }
  | _ => none }
def unfoldOrdersRow : OpenClaim := { program := "ytndjmihnknjaeaagreat", sum := "2a7c92b25c50fade590c2d8bbdd721e739bc844f1fc5731897e17c2d8d39aa4a", func := "hemiola/hemiolalaw43.UnfoldOrders", spec := "unfoldOrders", unfollowed := true, recurses := true, plainKeys := false, apart := false }
def UnfoldOrdersSaid : Prop := unfoldOrdersRow.holds Tryz.pinned (OpenSpec.ofChange unfoldOrdersSpec)

/-- ITS FALSE NEIGHBOUR: 'it returns false'. Refute it at one input. -/
def unfoldOrdersWrong : ChangeSpec := { name := "unfoldOrders", fn := fun _ => fun
  | [d] => { results := [.lit (.bool false)], args := [d] }
  | _ => none }
def UnfoldOrdersWrongFalsely : Prop := unfoldOrdersRow.holds Tryz.pinned (OpenSpec.ofChange unfoldOrdersWrong)

/-- 'hemiolalaw43.UnfoldMarks': WHATEVER THE INPUT: true; the input reads as it did. -/
def unfoldMarksSpec : ChangeSpec := { name := "unfoldMarks", fn := fun _ => fun
  | [d] => { results := [.lit (.bool true)], args := [d] }
  | _ => none }
def unfoldMarksRow : OpenClaim := { program := "ytndjmihnknjaeaagreat", sum := "2a7c92b25c50fade590c2d8bbdd721e739bc844f1fc5731897e17c2d8d39aa4a", func := "hemiola/hemiolalaw43.UnfoldMarks", spec := "unfoldMarks", unfollowed := true, recurses := true, plainKeys := false, apart := false }
def UnfoldMarksSaid : Prop := unfoldMarksRow.holds Tryz.pinned (OpenSpec.ofChange unfoldMarksSpec)

/-- ITS FALSE NEIGHBOUR: 'it returns false'. Refute it at one input. -/
def unfoldMarksWrong : ChangeSpec := { name := "unfoldMarks", fn := fun _ => fun
  | [d] => { results := [.lit (.bool false)], args := [d] }
  | _ => none }
def UnfoldMarksWrongFalsely : Prop := unfoldMarksRow.holds Tryz.pinned (OpenSpec.ofChange unfoldMarksWrong)

/-- 'hemiolalaw43.UnfoldStraight': WHATEVER THE INPUT: true; the input reads as it did. -/
def unfoldStraightSpec : ChangeSpec := { name := "unfoldStraight", fn := fun _ => fun
  | [d] => { results := [.lit (.bool true)], args := [d] }
  | _ => none }
def unfoldStraightRow : OpenClaim := { program := "ytndjmihnknjaeaagreat", sum := "2a7c92b25c50fade590c2d8bbdd721e739bc844f1fc5731897e17c2d8d39aa4a", func := "hemiola/hemiolalaw43.UnfoldStraight", spec := "unfoldStraight", unfollowed := true, recurses := true, plainKeys := false, apart := false }
def UnfoldStraightSaid : Prop := unfoldStraightRow.holds Tryz.pinned (OpenSpec.ofChange unfoldStraightSpec)

/-- ITS FALSE NEIGHBOUR: 'it returns false'. Refute it at one input. -/
def unfoldStraightWrong : ChangeSpec := { name := "unfoldStraight", fn := fun _ => fun
  | [d] => { results := [.lit (.bool false)], args := [d] }
  | _ => none }
def UnfoldStraightWrongFalsely : Prop := unfoldStraightRow.holds Tryz.pinned (OpenSpec.ofChange unfoldStraightWrong)

/-- 'hemiolalaw43.UnfoldPasses': WHATEVER THE INPUT: true; the input reads as it did. -/
def unfoldPassesSpec : ChangeSpec := { name := "unfoldPasses", fn := fun _ => fun
  | [d1, d2] => { results := [.lit (.bool true)], args := [d1, d2] }
  | _ => none }
def unfoldPassesRow : OpenClaim := { program := "ytndjmihnknjaeaagreat", sum := "2a7c92b25c50fade590c2d8bbdd721e739bc844f1fc5731897e17c2d8d39aa4a", func := "hemiola/hemiolalaw43.UnfoldPasses", spec := "unfoldPasses", unfollowed := true, recurses := true, plainKeys := false, apart := false }
def UnfoldPassesSaid : Prop := unfoldPassesRow.holds Tryz.pinned (OpenSpec.ofChange unfoldPassesSpec)

/-- ITS FALSE NEIGHBOUR: 'it returns false'. Refute it at one input. -/
def unfoldPassesWrong : ChangeSpec := { name := "unfoldPasses", fn := fun _ => fun
  | [d1, d2] => { results := [.lit (.bool false)], args := [d1, d2] }
  | _ => none }
def UnfoldPassesWrongFalsely : Prop := unfoldPassesRow.holds Tryz.pinned (OpenSpec.ofChange unfoldPassesWrong)

/-- 'hemiolalaw43.UnfoldOnsets': WHATEVER THE INPUT: true; the input reads as it did. -/
def unfoldOnsetsSpec : ChangeSpec := { name := "unfoldOnsets", fn := fun _ => fun
  | [d1, d2, d3] => { results := [.lit (.bool true)], args := [d1, d2, d3] }
  | _ => none }
def unfoldOnsetsRow : OpenClaim := { program := "ytndjmihnknjaeaagreat", sum := "2a7c92b25c50fade590c2d8bbdd721e739bc844f1fc5731897e17c2d8d39aa4a", func := "hemiola/hemiolalaw43.UnfoldOnsets", spec := "unfoldOnsets", unfollowed := true, recurses := true, plainKeys := false, apart := false }
def UnfoldOnsetsSaid : Prop := unfoldOnsetsRow.holds Tryz.pinned (OpenSpec.ofChange unfoldOnsetsSpec)

/-- ITS FALSE NEIGHBOUR: 'it returns false'. Refute it at one input. -/
def unfoldOnsetsWrong : ChangeSpec := { name := "unfoldOnsets", fn := fun _ => fun
  | [d1, d2, d3] => { results := [.lit (.bool false)], args := [d1, d2, d3] }
  | _ => none }
def UnfoldOnsetsWrongFalsely : Prop := unfoldOnsetsRow.holds Tryz.pinned (OpenSpec.ofChange unfoldOnsetsWrong)

/- THE SECOND FORM. 'bulk': how many values and letters a reading holds, each counted each time it is reached (what is shared counts as often as it is met; a slice's spare places count too). A statement '..UptoSaid' is the law's where the arguments, and the package variables that the reading takes, are together of bulk at most 1048576: NARROWER than '..Said'. Prove '..Said' where nothing that the law and all that it calls make is longer than what came in: it says more and counts as full. Else prove '..UptoSaid'. A law counts once. -/
mutual
def uptoBulk {H : Type} : DataW H → Nat
  | .lit (.string bytes) => bytes.length + 1
  | .lit _ => 1
  | .nil => 1
  | .ptr d => uptoBulk d + 1
  | .slice elems spare => uptoBulkAll elems + uptoBulkAll spare + 1
  | .agg parts => uptoBulkAll parts + 1
  | .iface _ d => uptoBulk d + 1
  | .map entries => uptoBulkEntries entries + 1
  | .held _ => 1
def uptoBulkAll {H : Type} : List (DataW H) → Nat
  | [] => 0
  | d :: r => uptoBulk d + uptoBulkAll r
def uptoBulkEntries {H : Type} : List (Lit × DataW H) → Nat
  | [] => 0
  | x :: r => uptoBulkEntry x + uptoBulkEntries r
def uptoBulkEntry {H : Type} : Lit × DataW H → Nat
  | (.string bytes, d) => bytes.length + uptoBulk d + 1
  | (_, d) => uptoBulk d + 1
 end
def uptoSmall : (H : Type) → List (DataW H) → Bool := fun _ ds => decide (uptoBulkAll ds ≤ 1048576)
def OpenSpec.upto (s : _root_.Go.ChangeSpec) : _root_.Go.OpenSpec := { _root_.Go.OpenSpec.ofChange s with cond := some uptoSmall }

/-- 'hemiolalaw43.UnfoldOrders', WHERE WHAT IT READS IS OF BULK AT MOST 1048576: true; the input reads as it did. -/
def unfoldOrdersUptoRow : OpenClaim := { program := "ytndjmihnknjaeaagreat", sum := "2a7c92b25c50fade590c2d8bbdd721e739bc844f1fc5731897e17c2d8d39aa4a", func := "hemiola/hemiolalaw43.UnfoldOrders", spec := "unfoldOrders", unfollowed := true, recurses := true, plainKeys := false, apart := false, narrowed := true }
def UnfoldOrdersUptoSaid : Prop := unfoldOrdersUptoRow.holds Tryz.pinned (OpenSpec.upto unfoldOrdersSpec)

/-- 'hemiolalaw43.UnfoldMarks', WHERE WHAT IT READS IS OF BULK AT MOST 1048576: true; the input reads as it did. -/
def unfoldMarksUptoRow : OpenClaim := { program := "ytndjmihnknjaeaagreat", sum := "2a7c92b25c50fade590c2d8bbdd721e739bc844f1fc5731897e17c2d8d39aa4a", func := "hemiola/hemiolalaw43.UnfoldMarks", spec := "unfoldMarks", unfollowed := true, recurses := true, plainKeys := false, apart := false, narrowed := true }
def UnfoldMarksUptoSaid : Prop := unfoldMarksUptoRow.holds Tryz.pinned (OpenSpec.upto unfoldMarksSpec)

/-- 'hemiolalaw43.UnfoldStraight', WHERE WHAT IT READS IS OF BULK AT MOST 1048576: true; the input reads as it did. -/
def unfoldStraightUptoRow : OpenClaim := { program := "ytndjmihnknjaeaagreat", sum := "2a7c92b25c50fade590c2d8bbdd721e739bc844f1fc5731897e17c2d8d39aa4a", func := "hemiola/hemiolalaw43.UnfoldStraight", spec := "unfoldStraight", unfollowed := true, recurses := true, plainKeys := false, apart := false, narrowed := true }
def UnfoldStraightUptoSaid : Prop := unfoldStraightUptoRow.holds Tryz.pinned (OpenSpec.upto unfoldStraightSpec)

/-- 'hemiolalaw43.UnfoldPasses', WHERE WHAT IT READS IS OF BULK AT MOST 1048576: true; the input reads as it did. -/
def unfoldPassesUptoRow : OpenClaim := { program := "ytndjmihnknjaeaagreat", sum := "2a7c92b25c50fade590c2d8bbdd721e739bc844f1fc5731897e17c2d8d39aa4a", func := "hemiola/hemiolalaw43.UnfoldPasses", spec := "unfoldPasses", unfollowed := true, recurses := true, plainKeys := false, apart := false, narrowed := true }
def UnfoldPassesUptoSaid : Prop := unfoldPassesUptoRow.holds Tryz.pinned (OpenSpec.upto unfoldPassesSpec)

/-- 'hemiolalaw43.UnfoldOnsets', WHERE WHAT IT READS IS OF BULK AT MOST 1048576: true; the input reads as it did. -/
def unfoldOnsetsUptoRow : OpenClaim := { program := "ytndjmihnknjaeaagreat", sum := "2a7c92b25c50fade590c2d8bbdd721e739bc844f1fc5731897e17c2d8d39aa4a", func := "hemiola/hemiolalaw43.UnfoldOnsets", spec := "unfoldOnsets", unfollowed := true, recurses := true, plainKeys := false, apart := false, narrowed := true }
def UnfoldOnsetsUptoSaid : Prop := unfoldOnsetsUptoRow.holds Tryz.pinned (OpenSpec.upto unfoldOnsetsSpec)

end Rows
end Go.Proofs.YtndjmihnknjaeaaGreat
