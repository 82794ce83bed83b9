/-
  No cell of these rows narrows 'for every input' (looked for: loops, veiled, ifaces, maps, wideKeys, modest, calm, conditions, laid).
  DERIVED. THE GIVEN ROWS OF THIS SEAT. 9 by the template 'for every input the law returns true; each argument reads behind the call as it read before'; 0 by the template 'total and deterministic' (their statements: YtflklffaiianhaaGreatTotals.lean).
  GIVEN WITH THE SEED: the statements are not yours to turn. If you find one false, say at which input.
  Laid BY PROGRAM, IN A SANDBOX (cutbox-rows.mjs): the forced cells as the released guide's own fill.sh prints them over the translation 7d4da163f4975f1a… (all of the seat's roots in one cut). By AI agents, Wed Nov 11 2026. No macro, syntax, notation, axiom, sorry.
-/
import Derived.Test.YtflklffaiianhaaGreatChecked
import GoSem.Claim
import GoSem.ClaimJoined
import GoSem.ClaimMapViews
import Derived.JoinedTies
import Derived.KernelRfl
namespace Go.Proofs.YtflklffaiianhaaGreat
/- THE CELL 'sum', in the pinned program and in every row, IS THE sha256 OF THE DUMP (.gsa) THAT YtflklffaiianhaaGreatProg.lean LOADS. Nothing in Lean hashes anything: it is a label: what it is worth is what the hold of that sum in a sandbox is worth. -/
noncomputable def Tryz.pinned : Pinned := { name := "ytflklffaiianhaagreat", sum := "7d4da163f4975f1abc1187a2e8e0d8fb37a706f377cc3c4a7bec1c9db00a70fe", checked := Tryz.checked }
namespace Rows
def none {H : Type} : Left H := { results := [], args := [] }

/-- 'hemiolalaw40.MultirestRuns': WHATEVER THE INPUT: true; the input reads as it did. -/
def multirestRunsSpec : ChangeSpec := { name := "multirestRuns", fn := fun _ => fun
  | [d] => { results := [.lit (.bool true)], args := [d] }
  | _ => none }
def multirestRunsRow : OpenClaim := { program := "ytflklffaiianhaagreat", sum := "7d4da163f4975f1abc1187a2e8e0d8fb37a706f377cc3c4a7bec1c9db00a70fe", func := "hemiola/hemiolalaw40.MultirestRuns", spec := "multirestRuns", unfollowed := true, recurses := true, plainKeys := false, apart := false }
def MultirestRunsSaid : Prop := multirestRunsRow.holds Tryz.pinned (OpenSpec.ofChange multirestRunsSpec)

/-- ITS FALSE NEIGHBOUR: 'it returns false'. Refute it at one input. -/
def multirestRunsWrong : ChangeSpec := { name := "multirestRuns", fn := fun _ => fun
  | [d] => { results := [.lit (.bool false)], args := [d] }
  | _ => none }
def MultirestRunsWrongFalsely : Prop := multirestRunsRow.holds Tryz.pinned (OpenSpec.ofChange multirestRunsWrong)

/-- 'hemiolalaw40.MultirestFinds': WHATEVER THE INPUT: true; the input reads as it did. -/
def multirestFindsSpec : ChangeSpec := { name := "multirestFinds", fn := fun _ => fun
  | [d1, d2] => { results := [.lit (.bool true)], args := [d1, d2] }
  | _ => none }
def multirestFindsRow : OpenClaim := { program := "ytflklffaiianhaagreat", sum := "7d4da163f4975f1abc1187a2e8e0d8fb37a706f377cc3c4a7bec1c9db00a70fe", func := "hemiola/hemiolalaw40.MultirestFinds", spec := "multirestFinds", unfollowed := true, recurses := true, plainKeys := false, apart := false }
def MultirestFindsSaid : Prop := multirestFindsRow.holds Tryz.pinned (OpenSpec.ofChange multirestFindsSpec)

/-- ITS FALSE NEIGHBOUR: 'it returns false'. Refute it at one input. -/
def multirestFindsWrong : ChangeSpec := { name := "multirestFinds", fn := fun _ => fun
  | [d1, d2] => { results := [.lit (.bool false)], args := [d1, d2] }
  | _ => none }
def MultirestFindsWrongFalsely : Prop := multirestFindsRow.holds Tryz.pinned (OpenSpec.ofChange multirestFindsWrong)

/-- 'hemiolalaw40.MultirestEmpty': WHATEVER THE INPUT: true; the input reads as it did. -/
def multirestEmptySpec : ChangeSpec := { name := "multirestEmpty", fn := fun _ => fun
  | [d1, d2] => { results := [.lit (.bool true)], args := [d1, d2] }
  | _ => none }
def multirestEmptyRow : OpenClaim := { program := "ytflklffaiianhaagreat", sum := "7d4da163f4975f1abc1187a2e8e0d8fb37a706f377cc3c4a7bec1c9db00a70fe", func := "hemiola/hemiolalaw40.MultirestEmpty", spec := "multirestEmpty", unfollowed := true, recurses := true, plainKeys := false, apart := false }
def MultirestEmptySaid : Prop := multirestEmptyRow.holds Tryz.pinned (OpenSpec.ofChange multirestEmptySpec)

/-- ITS FALSE NEIGHBOUR: 'it returns false'. Refute it at one input. -/
def multirestEmptyWrong : ChangeSpec := { name := "multirestEmpty", fn := fun _ => fun
  | [d1, d2] => { results := [.lit (.bool false)], args := [d1, d2] }
  | _ => none }
def MultirestEmptyWrongFalsely : Prop := multirestEmptyRow.holds Tryz.pinned (OpenSpec.ofChange multirestEmptyWrong)

/-- 'hemiolalaw40.MultirestLongest': WHATEVER THE INPUT: true; the input reads as it did. -/
def multirestLongestSpec : ChangeSpec := { name := "multirestLongest", fn := fun _ => fun
  | [d] => { results := [.lit (.bool true)], args := [d] }
  | _ => none }
def multirestLongestRow : OpenClaim := { program := "ytflklffaiianhaagreat", sum := "7d4da163f4975f1abc1187a2e8e0d8fb37a706f377cc3c4a7bec1c9db00a70fe", func := "hemiola/hemiolalaw40.MultirestLongest", spec := "multirestLongest", unfollowed := true, recurses := true, plainKeys := false, apart := false }
def MultirestLongestSaid : Prop := multirestLongestRow.holds Tryz.pinned (OpenSpec.ofChange multirestLongestSpec)

/-- ITS FALSE NEIGHBOUR: 'it returns false'. Refute it at one input. -/
def multirestLongestWrong : ChangeSpec := { name := "multirestLongest", fn := fun _ => fun
  | [d] => { results := [.lit (.bool false)], args := [d] }
  | _ => none }
def MultirestLongestWrongFalsely : Prop := multirestLongestRow.holds Tryz.pinned (OpenSpec.ofChange multirestLongestWrong)

/-- 'hemiolalaw40.MultirestOriginals': WHATEVER THE INPUT: true; the input reads as it did. -/
def multirestOriginalsSpec : ChangeSpec := { name := "multirestOriginals", fn := fun _ => fun
  | [d1, d2] => { results := [.lit (.bool true)], args := [d1, d2] }
  | _ => none }
def multirestOriginalsRow : OpenClaim := { program := "ytflklffaiianhaagreat", sum := "7d4da163f4975f1abc1187a2e8e0d8fb37a706f377cc3c4a7bec1c9db00a70fe", func := "hemiola/hemiolalaw40.MultirestOriginals", spec := "multirestOriginals", unfollowed := true, recurses := true, plainKeys := false, apart := false }
def MultirestOriginalsSaid : Prop := multirestOriginalsRow.holds Tryz.pinned (OpenSpec.ofChange multirestOriginalsSpec)

/-- ITS FALSE NEIGHBOUR: 'it returns false'. Refute it at one input. -/
def multirestOriginalsWrong : ChangeSpec := { name := "multirestOriginals", fn := fun _ => fun
  | [d1, d2] => { results := [.lit (.bool false)], args := [d1, d2] }
  | _ => none }
def MultirestOriginalsWrongFalsely : Prop := multirestOriginalsRow.holds Tryz.pinned (OpenSpec.ofChange multirestOriginalsWrong)

/-- 'hemiolalaw40.MultirestCollapses': WHATEVER THE INPUT: true; the input reads as it did. -/
def multirestCollapsesSpec : ChangeSpec := { name := "multirestCollapses", fn := fun _ => fun
  | [d] => { results := [.lit (.bool true)], args := [d] }
  | _ => none }
def multirestCollapsesRow : OpenClaim := { program := "ytflklffaiianhaagreat", sum := "7d4da163f4975f1abc1187a2e8e0d8fb37a706f377cc3c4a7bec1c9db00a70fe", func := "hemiola/hemiolalaw40.MultirestCollapses", spec := "multirestCollapses", unfollowed := true, recurses := true, plainKeys := false, apart := false }
def MultirestCollapsesSaid : Prop := multirestCollapsesRow.holds Tryz.pinned (OpenSpec.ofChange multirestCollapsesSpec)

/-- ITS FALSE NEIGHBOUR: 'it returns false'. Refute it at one input. -/
def multirestCollapsesWrong : ChangeSpec := { name := "multirestCollapses", fn := fun _ => fun
  | [d] => { results := [.lit (.bool false)], args := [d] }
  | _ => none }
def MultirestCollapsesWrongFalsely : Prop := multirestCollapsesRow.holds Tryz.pinned (OpenSpec.ofChange multirestCollapsesWrong)

/-- 'hemiolalaw40.MultirestHides': WHATEVER THE INPUT: true; the input reads as it did. -/
def multirestHidesSpec : ChangeSpec := { name := "multirestHides", fn := fun _ => fun
  | [d] => { results := [.lit (.bool true)], args := [d] }
  | _ => none }
def multirestHidesRow : OpenClaim := { program := "ytflklffaiianhaagreat", sum := "7d4da163f4975f1abc1187a2e8e0d8fb37a706f377cc3c4a7bec1c9db00a70fe", func := "hemiola/hemiolalaw40.MultirestHides", spec := "multirestHides", unfollowed := true, recurses := true, plainKeys := false, apart := false }
def MultirestHidesSaid : Prop := multirestHidesRow.holds Tryz.pinned (OpenSpec.ofChange multirestHidesSpec)

/-- ITS FALSE NEIGHBOUR: 'it returns false'. Refute it at one input. -/
def multirestHidesWrong : ChangeSpec := { name := "multirestHides", fn := fun _ => fun
  | [d] => { results := [.lit (.bool false)], args := [d] }
  | _ => none }
def MultirestHidesWrongFalsely : Prop := multirestHidesRow.holds Tryz.pinned (OpenSpec.ofChange multirestHidesWrong)

/-- 'hemiolalaw40.MultirestTurns': WHATEVER THE INPUT: true; the input reads as it did. -/
def multirestTurnsSpec : ChangeSpec := { name := "multirestTurns", fn := fun _ => fun
  | [d] => { results := [.lit (.bool true)], args := [d] }
  | _ => none }
def multirestTurnsRow : OpenClaim := { program := "ytflklffaiianhaagreat", sum := "7d4da163f4975f1abc1187a2e8e0d8fb37a706f377cc3c4a7bec1c9db00a70fe", func := "hemiola/hemiolalaw40.MultirestTurns", spec := "multirestTurns", unfollowed := true, recurses := true, plainKeys := false, apart := false }
def MultirestTurnsSaid : Prop := multirestTurnsRow.holds Tryz.pinned (OpenSpec.ofChange multirestTurnsSpec)

/-- ITS FALSE NEIGHBOUR: 'it returns false'. Refute it at one input. -/
def multirestTurnsWrong : ChangeSpec := { name := "multirestTurns", fn := fun _ => fun
  | [d] => { results := [.lit (.bool false)], args := [d] }
  | _ => none }
def MultirestTurnsWrongFalsely : Prop := multirestTurnsRow.holds Tryz.pinned (OpenSpec.ofChange multirestTurnsWrong)

/-- 'hemiolalaw40.MultirestSounds': WHATEVER THE INPUT: true; the input reads as it did. -/
def multirestSoundsSpec : ChangeSpec := { name := "multirestSounds", fn := fun _ => fun
  | [d] => { results := [.lit (.bool true)], args := [d] }
  | _ => none }
def multirestSoundsRow : OpenClaim := { program := "ytflklffaiianhaagreat", sum := "7d4da163f4975f1abc1187a2e8e0d8fb37a706f377cc3c4a7bec1c9db00a70fe", func := "hemiola/hemiolalaw40.MultirestSounds", spec := "multirestSounds", unfollowed := true, recurses := true, plainKeys := false, apart := false }
def MultirestSoundsSaid : Prop := multirestSoundsRow.holds Tryz.pinned (OpenSpec.ofChange multirestSoundsSpec)

/-- ITS FALSE NEIGHBOUR: 'it returns false'. Refute it at one input. -/
def multirestSoundsWrong : ChangeSpec := { name := "multirestSounds", fn := fun _ => fun
  | [d] => { results := [.lit (.bool false)], args := [d] }
  | _ => none }
def MultirestSoundsWrongFalsely : Prop := multirestSoundsRow.holds Tryz.pinned (OpenSpec.ofChange multirestSoundsWrong)

/- THE SECOND FORM. 'bulk': how many values and letters a reading holds, each counted each time it is reached (what is shared counts as often as it is met; a slice's spare places count too). A statement '..UptoSaid' is the law's where the arguments, and the package variables that the reading takes, are together of bulk at most 1048576: NARROWER than '..Said'. Prove '..Said' where nothing that the law and all that it calls make is longer than what came in: it says more and counts as full. Else prove '..UptoSaid'. A law counts once. -/
mutual
def uptoBulk {H : Type} : DataW H → Nat
  | .lit (.string bytes) => bytes.length + 1
  | .lit _ => 1
  | .nil => 1
  | .ptr d => uptoBulk d + 1
  | .slice elems spare => uptoBulkAll elems + uptoBulkAll spare + 1
  | .agg parts => uptoBulkAll parts + 1
  | .iface _ d => uptoBulk d + 1
  | .map entries => uptoBulkEntries entries + 1
  | .held _ => 1
def uptoBulkAll {H : Type} : List (DataW H) → Nat
  | [] => 0
  | d :: r => uptoBulk d + uptoBulkAll r
def uptoBulkEntries {H : Type} : List (Lit × DataW H) → Nat
  | [] => 0
  | x :: r => uptoBulkEntry x + uptoBulkEntries r
def uptoBulkEntry {H : Type} : Lit × DataW H → Nat
  | (.string bytes, d) => bytes.length + uptoBulk d + 1
  | (_, d) => uptoBulk d + 1
 end
def uptoSmall : (H : Type) → List (DataW H) → Bool := fun _ ds => decide (uptoBulkAll ds ≤ 1048576)
def OpenSpec.upto (s : _root_.Go.ChangeSpec) : _root_.Go.OpenSpec := { _root_.Go.OpenSpec.ofChange s with cond := some uptoSmall }

/-- 'hemiolalaw40.MultirestRuns', WHERE WHAT IT READS IS OF BULK AT MOST 1048576: true; the input reads as it did. -/
def multirestRunsUptoRow : OpenClaim := { program := "ytflklffaiianhaagreat", sum := "7d4da163f4975f1abc1187a2e8e0d8fb37a706f377cc3c4a7bec1c9db00a70fe", func := "hemiola/hemiolalaw40.MultirestRuns", spec := "multirestRuns", unfollowed := true, recurses := true, plainKeys := false, apart := false, narrowed := true }
def MultirestRunsUptoSaid : Prop := multirestRunsUptoRow.holds Tryz.pinned (OpenSpec.upto multirestRunsSpec)

/-- 'hemiolalaw40.MultirestFinds', WHERE WHAT IT READS IS OF BULK AT MOST 1048576: true; the input reads as it did. -/
def multirestFindsUptoRow : OpenClaim := { program := "ytflklffaiianhaagreat", sum := "7d4da163f4975f1abc1187a2e8e0d8fb37a706f377cc3c4a7bec1c9db00a70fe", func := "hemiola/hemiolalaw40.MultirestFinds", spec := "multirestFinds", unfollowed := true, recurses := true, plainKeys := false, apart := false, narrowed := true }
def MultirestFindsUptoSaid : Prop := multirestFindsUptoRow.holds Tryz.pinned (OpenSpec.upto multirestFindsSpec)

/-- 'hemiolalaw40.MultirestEmpty', WHERE WHAT IT READS IS OF BULK AT MOST 1048576: true; the input reads as it did. -/
def multirestEmptyUptoRow : OpenClaim := { program := "ytflklffaiianhaagreat", sum := "7d4da163f4975f1abc1187a2e8e0d8fb37a706f377cc3c4a7bec1c9db00a70fe", func := "hemiola/hemiolalaw40.MultirestEmpty", spec := "multirestEmpty", unfollowed := true, recurses := true, plainKeys := false, apart := false, narrowed := true }
def MultirestEmptyUptoSaid : Prop := multirestEmptyUptoRow.holds Tryz.pinned (OpenSpec.upto multirestEmptySpec)

/-- 'hemiolalaw40.MultirestLongest', WHERE WHAT IT READS IS OF BULK AT MOST 1048576: true; the input reads as it did. -/
def multirestLongestUptoRow : OpenClaim := { program := "ytflklffaiianhaagreat", sum := "7d4da163f4975f1abc1187a2e8e0d8fb37a706f377cc3c4a7bec1c9db00a70fe", func := "hemiola/hemiolalaw40.MultirestLongest", spec := "multirestLongest", unfollowed := true, recurses := true, plainKeys := false, apart := false, narrowed := true }
def MultirestLongestUptoSaid : Prop := multirestLongestUptoRow.holds Tryz.pinned (OpenSpec.upto multirestLongestSpec)

/-- 'hemiolalaw40.MultirestOriginals', WHERE WHAT IT READS IS OF BULK AT MOST 1048576: true; the input reads as it did. -/
def multirestOriginalsUptoRow : OpenClaim := { program := "ytflklffaiianhaagreat", sum := "7d4da163f4975f1abc1187a2e8e0d8fb37a706f377cc3c4a7bec1c9db00a70fe", func := "hemiola/hemiolalaw40.MultirestOriginals", spec := "multirestOriginals", unfollowed := true, recurses := true, plainKeys := false, apart := false, narrowed := true }
def MultirestOriginalsUptoSaid : Prop := multirestOriginalsUptoRow.holds Tryz.pinned (OpenSpec.upto multirestOriginalsSpec)

/-- 'hemiolalaw40.MultirestCollapses', WHERE WHAT IT READS IS OF BULK AT MOST 1048576: true; the input reads as it did. -/
def multirestCollapsesUptoRow : OpenClaim := { program := "ytflklffaiianhaagreat", sum := "7d4da163f4975f1abc1187a2e8e0d8fb37a706f377cc3c4a7bec1c9db00a70fe", func := "hemiola/hemiolalaw40.MultirestCollapses", spec := "multirestCollapses", unfollowed := true, recurses := true, plainKeys := false, apart := false, narrowed := true }
def MultirestCollapsesUptoSaid : Prop := multirestCollapsesUptoRow.holds Tryz.pinned (OpenSpec.upto multirestCollapsesSpec)

/-- 'hemiolalaw40.MultirestHides', WHERE WHAT IT READS IS OF BULK AT MOST 1048576: true; the input reads as it did. -/
def multirestHidesUptoRow : OpenClaim := { program := "ytflklffaiianhaagreat", sum := "7d4da163f4975f1abc1187a2e8e0d8fb37a706f377cc3c4a7bec1c9db00a70fe", func := "hemiola/hemiolalaw40.MultirestHides", spec := "multirestHides", unfollowed := true, recurses := true, plainKeys := false, apart := false, narrowed := true }
def MultirestHidesUptoSaid : Prop := multirestHidesUptoRow.holds Tryz.pinned (OpenSpec.upto multirestHidesSpec)

/-- 'hemiolalaw40.MultirestTurns', WHERE WHAT IT READS IS OF BULK AT MOST 1048576: true; the input reads as it did. -/
def multirestTurnsUptoRow : OpenClaim := { program := "ytflklffaiianhaagreat", sum := "7d4da163f4975f1abc1187a2e8e0d8fb37a706f377cc3c4a7bec1c9db00a70fe", func := "hemiola/hemiolalaw40.MultirestTurns", spec := "multirestTurns", unfollowed := true, recurses := true, plainKeys := false, apart := false, narrowed := true }
def MultirestTurnsUptoSaid : Prop := multirestTurnsUptoRow.holds Tryz.pinned (OpenSpec.upto multirestTurnsSpec)

/-- 'hemiolalaw40.MultirestSounds', WHERE WHAT IT READS IS OF BULK AT MOST 1048576: true; the input reads as it did. -/
def multirestSoundsUptoRow : OpenClaim := { program := "ytflklffaiianhaagreat", sum := "7d4da163f4975f1abc1187a2e8e0d8fb37a706f377cc3c4a7bec1c9db00a70fe", func := "hemiola/hemiolalaw40.MultirestSounds", spec := "multirestSounds", unfollowed := true, recurses := true, plainKeys := false, apart := false, narrowed := true }
def MultirestSoundsUptoSaid : Prop := multirestSoundsUptoRow.holds Tryz.pinned (OpenSpec.upto multirestSoundsSpec)

end Rows
end Go.Proofs.YtflklffaiianhaaGreat
