import Derived.Test.YtndjmihnknjaeaaGreatRows
import Derived.KernelRfl
import Derived.ChangeSame
import Derived.ProofKit
import Derived.OpenShut
/- A text of the proof. -/
set_option linter.all false
set_option maxRecDepth 100000
namespace Go.Proofs.YtndjmihnknjaeaaGreat
open Go.ChangeShapes Go.WideShapes Go.ChangeAt Go.RowKit
theorem a1:(Rows.unfoldPassesRow.inPlace==Tryz.pinned.checked.prog.inPlace 6)=true:=by kernel_rfl
theorem a2:(Rows.unfoldPassesRow.unfollowed==Tryz.pinned.checked.prog.unfollowed 6)=true:=by kernel_rfl
theorem a3:(Rows.unfoldPassesRow.recurses==Tryz.pinned.checked.prog.recurses 6)=true:=by kernel_rfl
theorem a4:(Rows.unfoldPassesRow.named==Tryz.pinned.checked.prog.varsNamed 6)=true:=by kernel_rfl
theorem a5:laidOutB Tryz.pinned.checked.prog=true:=by kernel_rfl
theorem a6:mapsRowed Tryz.pinned.checked.prog=true:=by kernel_rfl
theorem a7:(Rows.unfoldPassesRow.plainKeys==Tryz.pinned.checked.prog.plainKeys)=true:=by kernel_rfl
theorem a8:(Tryz.pinned.checked.prog.stops==[])=true:=by kernel_rfl
theorem a9:(Tryz.pinned.checked.prog.stopKnobs==[])=true:=by kernel_rfl
theorem bC1:joinedFacts Tryz.pinned.checked.prog 6 Tryz.f6 Rows.unfoldPassesSpec Rows.unfoldPassesRow=true:=by
 unfold joinedFacts
 simp only[Bool.and_eq_true]
 repeat' apply And.intro
 .kernel_rfl
 .exact a5
 .exact a6
 .kernel_rfl
 .kernel_rfl
 .kernel_rfl
 .exact a8
 .kernel_rfl
 .exact a9
 .exact a1
 .exact a2
 .exact a3
 .exact a4
 .kernel_rfl
 .kernel_rfl
 .kernel_rfl
 .kernel_rfl
 .kernel_rfl
 .kernel_rfl
 .kernel_rfl
 .kernel_rfl
 .kernel_rfl
 .exact a7
 .kernel_rfl
 .kernel_rfl
 .kernel_rfl
 .kernel_rfl
 .kernel_rfl
 .kernel_rfl
 .kernel_rfl
 .kernel_rfl
 .kernel_rfl
theorem b1:Tryz.pinned.checked.prog.funcNamed Rows.unfoldPassesRow.func=some 6:=by kernel_rfl
theorem b2:Tryz.f6.isInstance Tryz.pinned.checked.prog Rows.unfoldPassesRow.origin Rows.unfoldPassesRow.targs:=of_decide_eq_true (by kernel_rfl)
theorem b3:Tryz.f6.isWrapper Tryz.pinned.checked.prog Rows.unfoldPassesRow.wrapper Rows.unfoldPassesRow.mainSum:=by
 unfold Func.isWrapper;first|(rw[if_pos (by decide+kernel)];kernel_rfl)|(rw[if_neg (by decide+kernel)];exact⟨rfl,rfl⟩)
theorem uK (h:∀(os:Os) (started:os.Started) (H:Type) (enc:TypeId×Value->H),ReturnsInHanded {} Tryz.checked os 6 .any (Rows.unfoldPassesSpec.pre6 enc Tryz.prog Tryz.f6 Rows.unfoldPassesRow.domain false) (Rows.unfoldPassesSpec.post enc Tryz.prog Tryz.f6 false true false false)):Rows.UnfoldPassesSaid:=
 OpenClaim.holds_of_wide 6 Tryz.f6 rfl rfl rfl rfl rfl rfl rfl ⟨rfl,rfl,rfl,rfl,rfl⟩ rfl rfl rfl rfl rfl b1 Tryz.func6 bC1 b2 b3
  (fun os started H enc _=>h os started H enc)
end Go.Proofs.YtndjmihnknjaeaaGreat
