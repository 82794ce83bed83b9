/-
  No cell of these rows narrows 'for every input' (looked for: loops, veiled, ifaces, maps, wideKeys, modest, calm, conditions, laid).
  DERIVED. THE GIVEN ROWS OF THIS SEAT. 2 by the template 'for every input the law returns true; each argument reads behind the call as it read before'; 0 by the template 'total and deterministic' (their statements: YtmocdkmjkfpkeaaGreatTotals.lean).
  GIVEN WITH THE SEED: the statements are not yours to turn. If you find one false, say at which input.
  Laid BY PROGRAM, IN A SANDBOX (cutbox-rows.mjs): the forced cells as the released guide's own fill.sh prints them over the translation c689d50753a534ee… (all of the seat's roots in one cut). By AI agents, Wed Nov 11 2026. No macro, syntax, notation, axiom, sorry.
-/
import Derived.Test.YtmocdkmjkfpkeaaGreatChecked
import GoSem.Claim
import GoSem.ClaimJoined
import GoSem.ClaimMapViews
import Derived.JoinedTies
import Derived.KernelRfl
namespace Go.Proofs.YtmocdkmjkfpkeaaGreat
/- THE CELL 'sum', in the pinned program and in every row, IS THE sha256 OF THE DUMP (.gsa) THAT YtmocdkmjkfpkeaaGreatProg.lean LOADS. Nothing in Lean hashes anything: it is a label: what it is worth is what the hold of that sum in a sandbox is worth. -/
noncomputable def Tryz.pinned : Pinned := { name := "ytmocdkmjkfpkeaagreat", sum := "c689d50753a534ee480055e3d580d8b3589fa1379f2d62935b907638a1f9e4d0", checked := Tryz.checked }
namespace Rows
def none {H : Type} : Left H := { results := [], args := [] }

/-- 'hemiolalaw39.ExtractIntervals': WHATEVER THE INPUT: true; the input reads as it did. -/
def extractIntervalsSpec : ChangeSpec := { name := "extractIntervals", fn := fun _ => fun
  | [d1, d2] => { results := [.lit (.bool true)], args := [d1, d2] }
  | _ => none }
def extractIntervalsRow : OpenClaim := { program := "ytmocdkmjkfpkeaagreat", sum := "c689d50753a534ee480055e3d580d8b3589fa1379f2d62935b907638a1f9e4d0", func := "hemiola/hemiolalaw39.ExtractIntervals", spec := "extractIntervals", unfollowed := true, recurses := true, plainKeys := false, apart := false }
def ExtractIntervalsSaid : Prop := extractIntervalsRow.holds Tryz.pinned (OpenSpec.ofChange extractIntervalsSpec)

/-- ITS FALSE NEIGHBOUR: 'it returns false'. Refute it at one input. -/
def extractIntervalsWrong : ChangeSpec := { name := "extractIntervals", fn := fun _ => fun
  | [d1, d2] => { results := [.lit (.bool false)], args := [d1, d2] }
  | _ => none }
def ExtractIntervalsWrongFalsely : Prop := extractIntervalsRow.holds Tryz.pinned (OpenSpec.ofChange extractIntervalsWrong)

/-- 'hemiolalaw39.ExtractRanges': WHATEVER THE INPUT: true; the input reads as it did. -/
def extractRangesSpec : ChangeSpec := { name := "extractRanges", fn := fun _ => fun
  | [d1, d2] => { results := [.lit (.bool true)], args := [d1, d2] }
  | _ => none }
def extractRangesRow : OpenClaim := { program := "ytmocdkmjkfpkeaagreat", sum := "c689d50753a534ee480055e3d580d8b3589fa1379f2d62935b907638a1f9e4d0", func := "hemiola/hemiolalaw39.ExtractRanges", spec := "extractRanges", unfollowed := true, recurses := true, plainKeys := false, apart := false }
def ExtractRangesSaid : Prop := extractRangesRow.holds Tryz.pinned (OpenSpec.ofChange extractRangesSpec)

/-- ITS FALSE NEIGHBOUR: 'it returns false'. Refute it at one input. -/
def extractRangesWrong : ChangeSpec := { name := "extractRanges", fn := fun _ => fun
  | [d1, d2] => { results := [.lit (.bool false)], args := [d1, d2] }
  | _ => none }
def ExtractRangesWrongFalsely : Prop := extractRangesRow.holds Tryz.pinned (OpenSpec.ofChange extractRangesWrong)

/- THE SECOND FORM. 'bulk': how many values and letters a reading holds, each counted each time it is reached (what is shared counts as often as it is met; a slice's spare places count too). A statement '..UptoSaid' is the law's where the arguments, and the package variables that the reading takes, are together of bulk at most 1048576: NARROWER than '..Said'. Prove '..Said' where nothing that the law and all that it calls make is longer than what came in: it says more and counts as full. Else prove '..UptoSaid'. A law counts once. -/
mutual
def uptoBulk {H : Type} : DataW H → Nat
  | .lit (.string bytes) => bytes.length + 1
  | .lit _ => 1
  | .nil => 1
  | .ptr d => uptoBulk d + 1
  | .slice elems spare => uptoBulkAll elems + uptoBulkAll spare + 1
  | .agg parts => uptoBulkAll parts + 1
  | .iface _ d => uptoBulk d + 1
  | .map entries => uptoBulkEntries entries + 1
  | .held _ => 1
def uptoBulkAll {H : Type} : List (DataW H) → Nat
  | [] => 0
  | d :: r => uptoBulk d + uptoBulkAll r
def uptoBulkEntries {H : Type} : List (Lit × DataW H) → Nat
  | [] => 0
  | x :: r => uptoBulkEntry x + uptoBulkEntries r
def uptoBulkEntry {H : Type} : Lit × DataW H → Nat
  | (.string bytes, d) => bytes.length + uptoBulk d + 1
  | (_, d) => uptoBulk d + 1
 end
def uptoSmall : (H : Type) → List (DataW H) → Bool := fun _ ds => decide (uptoBulkAll ds ≤ 1048576)
def OpenSpec.upto (s : _root_.Go.ChangeSpec) : _root_.Go.OpenSpec := { _root_.Go.OpenSpec.ofChange s with cond := some uptoSmall }

/-- 'hemiolalaw39.ExtractIntervals', WHERE WHAT IT READS IS OF BULK AT MOST 1048576: true; the input reads as it did. -/
def extractIntervalsUptoRow : OpenClaim := { program := "ytmocdkmjkfpkeaagreat", sum := "c689d50753a534ee480055e3d580d8b3589fa1379f2d62935b907638a1f9e4d0", func := "hemiola/hemiolalaw39.ExtractIntervals", spec := "extractIntervals", unfollowed := true, recurses := true, plainKeys := false, apart := false, narrowed := true }
def ExtractIntervalsUptoSaid : Prop := extractIntervalsUptoRow.holds Tryz.pinned (OpenSpec.upto extractIntervalsSpec)

/-- 'hemiolalaw39.ExtractRanges', WHERE WHAT IT READS IS OF BULK AT MOST 1048576: true; the input reads as it did. -/
def extractRangesUptoRow : OpenClaim := { program := "ytmocdkmjkfpkeaagreat", sum := "c689d50753a534ee480055e3d580d8b3589fa1379f2d62935b907638a1f9e4d0", func := "hemiola/hemiolalaw39.ExtractRanges", spec := "extractRanges", unfollowed := true, recurses := true, plainKeys := false, apart := false, narrowed := true }
def ExtractRangesUptoSaid : Prop := extractRangesUptoRow.holds Tryz.pinned (OpenSpec.upto extractRangesSpec)

end Rows
end Go.Proofs.YtmocdkmjkfpkeaaGreat
