import Derived.Test.YtolknogilcdomaaGreatRows
import Derived.KernelRfl
import Derived.ChangeSame
import Derived.ProofKit
import Derived.OpenShut
/- A text of the proof. -/
set_option linter.all false
set_option maxRecDepth 100000
namespace Go.Proofs.YtolknogilcdomaaGreat
open Go.ChangeShapes Go.WideShapes Go.ChangeAt Go.RowKit
theorem a1:(Rows.extractWrittenRow.inPlace==Tryz.pinned.checked.prog.inPlace 3)=true:=by kernel_rfl
theorem a2:(Rows.extractWrittenRow.unfollowed==Tryz.pinned.checked.prog.unfollowed 3)=true:=by kernel_rfl
theorem a3:(Rows.extractWrittenRow.recurses==Tryz.pinned.checked.prog.recurses 3)=true:=by kernel_rfl
theorem a4:(Rows.extractWrittenRow.named==Tryz.pinned.checked.prog.varsNamed 3)=true:=by kernel_rfl
theorem a5:laidOutB Tryz.pinned.checked.prog=true:=by kernel_rfl
theorem a6:mapsRowed Tryz.pinned.checked.prog=true:=by kernel_rfl
theorem a7:(Rows.extractWrittenRow.plainKeys==Tryz.pinned.checked.prog.plainKeys)=true:=by kernel_rfl
theorem a8:(Tryz.pinned.checked.prog.stops==[])=true:=by kernel_rfl
theorem a9:(Tryz.pinned.checked.prog.stopKnobs==[])=true:=by kernel_rfl
theorem bB2:joinedFacts Tryz.pinned.checked.prog 3 Tryz.f3 Rows.extractWrittenSpec Rows.extractWrittenRow=true:=by
 unfold joinedFacts
 simp only[Bool.and_eq_true]
 repeat' apply And.intro
 .kernel_rfl
 .exact a5
 .exact a6
 .kernel_rfl
 .kernel_rfl
 .kernel_rfl
 .exact a8
 .kernel_rfl
 .exact a9
 .exact a1
 .exact a2
 .exact a3
 .exact a4
 .kernel_rfl
 .kernel_rfl
 .kernel_rfl
 .kernel_rfl
 .kernel_rfl
 .kernel_rfl
 .kernel_rfl
 .kernel_rfl
 .kernel_rfl
 .exact a7
 .kernel_rfl
 .kernel_rfl
 .kernel_rfl
 .kernel_rfl
 .kernel_rfl
 .kernel_rfl
 .kernel_rfl
 .kernel_rfl
 .kernel_rfl
theorem b1:Tryz.pinned.checked.prog.funcNamed Rows.extractWrittenRow.func=some 3:=by kernel_rfl
theorem b2:Tryz.f3.isInstance Tryz.pinned.checked.prog Rows.extractWrittenRow.origin Rows.extractWrittenRow.targs:=of_decide_eq_true (by kernel_rfl)
theorem b3:Tryz.f3.isWrapper Tryz.pinned.checked.prog Rows.extractWrittenRow.wrapper Rows.extractWrittenRow.mainSum:=by
 unfold Func.isWrapper;first|(rw[if_pos (by decide+kernel)];kernel_rfl)|(rw[if_neg (by decide+kernel)];exact⟨rfl,rfl⟩)
theorem tW1 (h:∀(os:Os) (started:os.Started) (H:Type) (enc:TypeId×Value->H),ReturnsInHanded {} Tryz.checked os 3 .any (Rows.extractWrittenSpec.pre6 enc Tryz.prog Tryz.f3 Rows.extractWrittenRow.domain false) (Rows.extractWrittenSpec.post enc Tryz.prog Tryz.f3 false true false false)):Rows.ExtractWrittenSaid:=
 OpenClaim.holds_of_wide 3 Tryz.f3 rfl rfl rfl rfl rfl rfl rfl ⟨rfl,rfl,rfl,rfl,rfl⟩ rfl rfl rfl rfl rfl b1 Tryz.func3 bB2 b2 b3
  (fun os started H enc _=>h os started H enc)
end Go.Proofs.YtolknogilcdomaaGreat
