import Derived.Test.YtndjmihnknjaeaaGreatRows
import Derived.KernelRfl
import Derived.ChangeSame
import Derived.ProofKit
import Derived.OpenShut
/- A text of the proof. -/
set_option linter.all false
set_option maxRecDepth 100000
namespace Go.Proofs.YtndjmihnknjaeaaGreat
open Go.ChangeShapes Go.WideShapes Go.ChangeAt Go.RowKit
theorem a1:(Rows.unfoldOnsetsRow.inPlace==Tryz.pinned.checked.prog.inPlace 7)=true:=by kernel_rfl
theorem a2:(Rows.unfoldOnsetsRow.unfollowed==Tryz.pinned.checked.prog.unfollowed 7)=true:=by kernel_rfl
theorem a3:(Rows.unfoldOnsetsRow.recurses==Tryz.pinned.checked.prog.recurses 7)=true:=by kernel_rfl
theorem a4:(Rows.unfoldOnsetsRow.named==Tryz.pinned.checked.prog.varsNamed 7)=true:=by kernel_rfl
theorem a5:laidOutB Tryz.pinned.checked.prog=true:=by kernel_rfl
theorem a6:mapsRowed Tryz.pinned.checked.prog=true:=by kernel_rfl
theorem a7:(Rows.unfoldOnsetsRow.plainKeys==Tryz.pinned.checked.prog.plainKeys)=true:=by kernel_rfl
theorem a8:(Tryz.pinned.checked.prog.stops==[])=true:=by kernel_rfl
theorem a9:(Tryz.pinned.checked.prog.stopKnobs==[])=true:=by kernel_rfl
theorem bC1:joinedFacts Tryz.pinned.checked.prog 7 Tryz.f7 Rows.unfoldOnsetsSpec Rows.unfoldOnsetsRow=true:=by
 unfold joinedFacts
 simp only[Bool.and_eq_true]
 repeat' apply And.intro
 .kernel_rfl
 .exact a5
 .exact a6
 .kernel_rfl
 .kernel_rfl
 .kernel_rfl
 .exact a8
 .kernel_rfl
 .exact a9
 .exact a1
 .exact a2
 .exact a3
 .exact a4
 .kernel_rfl
 .kernel_rfl
 .kernel_rfl
 .kernel_rfl
 .kernel_rfl
 .kernel_rfl
 .kernel_rfl
 .kernel_rfl
 .kernel_rfl
 .exact a7
 .kernel_rfl
 .kernel_rfl
 .kernel_rfl
 .kernel_rfl
 .kernel_rfl
 .kernel_rfl
 .kernel_rfl
 .kernel_rfl
 .kernel_rfl
theorem b1:Tryz.pinned.checked.prog.funcNamed Rows.unfoldOnsetsRow.func=some 7:=by kernel_rfl
theorem b2:Tryz.f7.isInstance Tryz.pinned.checked.prog Rows.unfoldOnsetsRow.origin Rows.unfoldOnsetsRow.targs:=of_decide_eq_true (by kernel_rfl)
theorem b3:Tryz.f7.isWrapper Tryz.pinned.checked.prog Rows.unfoldOnsetsRow.wrapper Rows.unfoldOnsetsRow.mainSum:=by
 unfold Func.isWrapper;first|(rw[if_pos (by decide+kernel)];kernel_rfl)|(rw[if_neg (by decide+kernel)];exact⟨rfl,rfl⟩)
theorem uK (h:∀(os:Os) (started:os.Started) (H:Type) (enc:TypeId×Value->H),ReturnsInHanded {} Tryz.checked os 7 .any (Rows.unfoldOnsetsSpec.pre6 enc Tryz.prog Tryz.f7 Rows.unfoldOnsetsRow.domain false) (Rows.unfoldOnsetsSpec.post enc Tryz.prog Tryz.f7 false true false false)):Rows.UnfoldOnsetsSaid:=
 OpenClaim.holds_of_wide 7 Tryz.f7 rfl rfl rfl rfl rfl rfl rfl ⟨rfl,rfl,rfl,rfl,rfl⟩ rfl rfl rfl rfl rfl b1 Tryz.func7 bC1 b2 b3
  (fun os started H enc _=>h os started H enc)
end Go.Proofs.YtndjmihnknjaeaaGreat
