/-
  No cell of these rows narrows 'for every input' (looked for: loops, veiled, ifaces, maps, wideKeys, modest, calm, conditions, laid).
  DERIVED. THE GIVEN ROWS OF THIS SEAT. 3 by the template 'for every input the law returns true; each argument reads behind the call as it read before'; 0 by the template 'total and deterministic' (their statements: YtnjheelameojaaaGreatTotals.lean).
  GIVEN WITH THE SEED: the statements are not yours to turn. If you find one false, say at which input.
  Laid BY PROGRAM, IN A SANDBOX (cutbox-rows.mjs): the forced cells as the released guide's own fill.sh prints them over the translation 928e43fcbb76fac1… (all of the seat's roots in one cut). By AI agents, Wed Nov 11 2026. No macro, syntax, notation, axiom, sorry.
-/
import Derived.Test.YtnjheelameojaaaGreatChecked
import GoSem.Claim
import GoSem.ClaimJoined
import GoSem.ClaimMapViews
import Derived.JoinedTies
import Derived.KernelRfl
namespace Go.Proofs.YtnjheelameojaaaGreat
/- THE CELL 'sum', in the pinned program and in every row, IS THE sha256 OF THE DUMP (.gsa) THAT YtnjheelameojaaaGreatProg.lean LOADS. Nothing in Lean hashes anything: it is a label: what it is worth is what the hold of that sum in a sandbox is worth. -/
noncomputable def Tryz.pinned : Pinned := { name := "ytnjheelameojaaagreat", sum := "928e43fcbb76fac1131721ace80c06a29be1597f374fd85827fb50920de1dae4", checked := Tryz.checked }
namespace Rows
def none {H : Type} : Left H := { results := [], args := [] }

/-- 'hemiolalaw42.CueChooses': WHATEVER THE INPUT: true; the input reads as it did. -/
def cueChoosesSpec : ChangeSpec := { name := "cueChooses", fn := fun _ => fun
  | [d1, d2, d3] => { results := [.lit (.bool true)], args := [d1, d2, d3] }
  | _ => none }
def cueChoosesRow : OpenClaim := { program := "ytnjheelameojaaagreat", sum := "928e43fcbb76fac1131721ace80c06a29be1597f374fd85827fb50920de1dae4", func := "hemiola/hemiolalaw42.CueChooses", spec := "cueChooses", unfollowed := true, recurses := true, plainKeys := false, apart := false }
def CueChoosesSaid : Prop := cueChoosesRow.holds Tryz.pinned (OpenSpec.ofChange cueChoosesSpec)

/-- ITS FALSE NEIGHBOUR: 'it returns false'. Refute it at one input. -/
def cueChoosesWrong : ChangeSpec := { name := "cueChooses", fn := fun _ => fun
  | [d1, d2, d3] => { results := [.lit (.bool false)], args := [d1, d2, d3] }
  | _ => none }
def CueChoosesWrongFalsely : Prop := cueChoosesRow.holds Tryz.pinned (OpenSpec.ofChange cueChoosesWrong)

/-- 'hemiolalaw42.CueRests': WHATEVER THE INPUT: true; the input reads as it did. -/
def cueRestsSpec : ChangeSpec := { name := "cueRests", fn := fun _ => fun
  | [d1, d2, d3] => { results := [.lit (.bool true)], args := [d1, d2, d3] }
  | _ => none }
def cueRestsRow : OpenClaim := { program := "ytnjheelameojaaagreat", sum := "928e43fcbb76fac1131721ace80c06a29be1597f374fd85827fb50920de1dae4", func := "hemiola/hemiolalaw42.CueRests", spec := "cueRests", unfollowed := true, recurses := true, plainKeys := false, apart := false }
def CueRestsSaid : Prop := cueRestsRow.holds Tryz.pinned (OpenSpec.ofChange cueRestsSpec)

/-- ITS FALSE NEIGHBOUR: 'it returns false'. Refute it at one input. -/
def cueRestsWrong : ChangeSpec := { name := "cueRests", fn := fun _ => fun
  | [d1, d2, d3] => { results := [.lit (.bool false)], args := [d1, d2, d3] }
  | _ => none }
def CueRestsWrongFalsely : Prop := cueRestsRow.holds Tryz.pinned (OpenSpec.ofChange cueRestsWrong)

/-- 'hemiolalaw42.CueRules': WHATEVER THE INPUT: true; the input reads as it did. -/
def cueRulesSpec : ChangeSpec := { name := "cueRules", fn := fun _ => fun
  | [d1, d2] => { results := [.lit (.bool true)], args := [d1, d2] }
  | _ => none }
def cueRulesRow : OpenClaim := { program := "ytnjheelameojaaagreat", sum := "928e43fcbb76fac1131721ace80c06a29be1597f374fd85827fb50920de1dae4", func := "hemiola/hemiolalaw42.CueRules", spec := "cueRules", inPlace := ["slices.overlaps[hemiola/api.ID]"], unfollowed := true, recurses := true, plainKeys := false, apart := false }
def CueRulesSaid : Prop := cueRulesRow.holds Tryz.pinned (OpenSpec.ofChange cueRulesSpec)

/-- ITS FALSE NEIGHBOUR: 'it returns false'. Refute it at one input. -/
def cueRulesWrong : ChangeSpec := { name := "cueRules", fn := fun _ => fun
  | [d1, d2] => { results := [.lit (.bool false)], args := [d1, d2] }
  | _ => none }
def CueRulesWrongFalsely : Prop := cueRulesRow.holds Tryz.pinned (OpenSpec.ofChange cueRulesWrong)

/- THE SECOND FORM. 'bulk': how many values and letters a reading holds, each counted each time it is reached (what is shared counts as often as it is met; a slice's spare places count too). A statement '..UptoSaid' is the law's where the arguments, and the package variables that the reading takes, are together of bulk at most 1048576: NARROWER than '..Said'. Prove '..Said' where nothing that the law and all that it calls make is longer than what came in: it says more and counts as full. Else prove '..UptoSaid'. A law counts once. -/
mutual
def uptoBulk {H : Type} : DataW H → Nat
  | .lit (.string bytes) => bytes.length + 1
  | .lit _ => 1
  | .nil => 1
  | .ptr d => uptoBulk d + 1
  | .slice elems spare => uptoBulkAll elems + uptoBulkAll spare + 1
  | .agg parts => uptoBulkAll parts + 1
  | .iface _ d => uptoBulk d + 1
  | .map entries => uptoBulkEntries entries + 1
  | .held _ => 1
def uptoBulkAll {H : Type} : List (DataW H) → Nat
  | [] => 0
  | d :: r => uptoBulk d + uptoBulkAll r
def uptoBulkEntries {H : Type} : List (Lit × DataW H) → Nat
  | [] => 0
  | x :: r => uptoBulkEntry x + uptoBulkEntries r
def uptoBulkEntry {H : Type} : Lit × DataW H → Nat
  | (.string bytes, d) => bytes.length + uptoBulk d + 1
  | (_, d) => uptoBulk d + 1
 end
def uptoSmall : (H : Type) → List (DataW H) → Bool := fun _ ds => decide (uptoBulkAll ds ≤ 1048576)
def OpenSpec.upto (s : _root_.Go.ChangeSpec) : _root_.Go.OpenSpec := { _root_.Go.OpenSpec.ofChange s with cond := some uptoSmall }

/-- 'hemiolalaw42.CueChooses', WHERE WHAT IT READS IS OF BULK AT MOST 1048576: true; the input reads as it did. -/
def cueChoosesUptoRow : OpenClaim := { program := "ytnjheelameojaaagreat", sum := "928e43fcbb76fac1131721ace80c06a29be1597f374fd85827fb50920de1dae4", func := "hemiola/hemiolalaw42.CueChooses", spec := "cueChooses", unfollowed := true, recurses := true, plainKeys := false, apart := false, narrowed := true }
def CueChoosesUptoSaid : Prop := cueChoosesUptoRow.holds Tryz.pinned (OpenSpec.upto cueChoosesSpec)

/-- 'hemiolalaw42.CueRests', WHERE WHAT IT READS IS OF BULK AT MOST 1048576: true; the input reads as it did. -/
def cueRestsUptoRow : OpenClaim := { program := "ytnjheelameojaaagreat", sum := "928e43fcbb76fac1131721ace80c06a29be1597f374fd85827fb50920de1dae4", func := "hemiola/hemiolalaw42.CueRests", spec := "cueRests", unfollowed := true, recurses := true, plainKeys := false, apart := false, narrowed := true }
def CueRestsUptoSaid : Prop := cueRestsUptoRow.holds Tryz.pinned (OpenSpec.upto cueRestsSpec)

/-- 'hemiolalaw42.CueRules', WHERE WHAT IT READS IS OF BULK AT MOST 1048576: true; the input reads as it did. -/
def cueRulesUptoRow : OpenClaim := { program := "ytnjheelameojaaagreat", sum := "928e43fcbb76fac1131721ace80c06a29be1597f374fd85827fb50920de1dae4", func := "hemiola/hemiolalaw42.CueRules", spec := "cueRules", inPlace := ["slices.overlaps[hemiola/api.ID]"], unfollowed := true, recurses := true, plainKeys := false, apart := false, narrowed := true }
def CueRulesUptoSaid : Prop := cueRulesUptoRow.holds Tryz.pinned (OpenSpec.upto cueRulesSpec)

end Rows
end Go.Proofs.YtnjheelameojaaaGreat
