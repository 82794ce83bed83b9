import Derived.Test.YtfdbgfhnlgbonaaGreatRows
import Derived.KernelRfl
import Derived.ChangeSame
import Derived.ProofKit
import Derived.OpenShut
/- A text of the proof. -/
set_option linter.all false
set_option maxRecDepth 100000
namespace Go.Proofs.YtfdbgfhnlgbonaaGreat
open Go.ChangeShapes Go.WideShapes Go.ChangeAt Go.RowKit
theorem a1:(Rows.cueRemovesRow.inPlace==Tryz.pinned.checked.prog.inPlace 4)=true:=by kernel_rfl
theorem a2:(Rows.cueRemovesRow.unfollowed==Tryz.pinned.checked.prog.unfollowed 4)=true:=by kernel_rfl
theorem a3:(Rows.cueRemovesRow.recurses==Tryz.pinned.checked.prog.recurses 4)=true:=by kernel_rfl
theorem a4:(Rows.cueRemovesRow.named==Tryz.pinned.checked.prog.varsNamed 4)=true:=by kernel_rfl
theorem a5:laidOutB Tryz.pinned.checked.prog=true:=by kernel_rfl
theorem a6:mapsRowed Tryz.pinned.checked.prog=true:=by kernel_rfl
theorem a7:(Rows.cueRemovesRow.plainKeys==Tryz.pinned.checked.prog.plainKeys)=true:=by kernel_rfl
theorem a8:(Tryz.pinned.checked.prog.stops==[])=true:=by kernel_rfl
theorem a9:(Tryz.pinned.checked.prog.stopKnobs==[])=true:=by kernel_rfl
theorem wX1:joinedFacts Tryz.pinned.checked.prog 4 Tryz.f4 Rows.cueRemovesSpec Rows.cueRemovesRow=true:=by
 unfold joinedFacts
 simp only[Bool.and_eq_true]
 repeat' apply And.intro
 .kernel_rfl
 .exact a5
 .exact a6
 .kernel_rfl
 .kernel_rfl
 .kernel_rfl
 .exact a8
 .kernel_rfl
 .exact a9
 .exact a1
 .exact a2
 .exact a3
 .exact a4
 .kernel_rfl
 .kernel_rfl
 .kernel_rfl
 .kernel_rfl
 .kernel_rfl
 .kernel_rfl
 .kernel_rfl
 .kernel_rfl
 .kernel_rfl
 .exact a7
 .kernel_rfl
 .kernel_rfl
 .kernel_rfl
 .kernel_rfl
 .kernel_rfl
 .kernel_rfl
 .kernel_rfl
 .kernel_rfl
 .kernel_rfl
theorem b1:Tryz.pinned.checked.prog.funcNamed Rows.cueRemovesRow.func=some 4:=by kernel_rfl
theorem b2:Tryz.f4.isInstance Tryz.pinned.checked.prog Rows.cueRemovesRow.origin Rows.cueRemovesRow.targs:=of_decide_eq_true (by kernel_rfl)
theorem b3:Tryz.f4.isWrapper Tryz.pinned.checked.prog Rows.cueRemovesRow.wrapper Rows.cueRemovesRow.mainSum:=by
 unfold Func.isWrapper;first|(rw[if_pos (by decide+kernel)];kernel_rfl)|(rw[if_neg (by decide+kernel)];exact⟨rfl,rfl⟩)
theorem rD1 (h:∀(os:Os) (started:os.Started) (H:Type) (enc:TypeId×Value->H),ReturnsInHanded {} Tryz.checked os 4 .any (Rows.cueRemovesSpec.pre6 enc Tryz.prog Tryz.f4 Rows.cueRemovesRow.domain false) (Rows.cueRemovesSpec.post enc Tryz.prog Tryz.f4 false true false false)):Rows.CueRemovesSaid:=
 OpenClaim.holds_of_wide 4 Tryz.f4 rfl rfl rfl rfl rfl rfl rfl ⟨rfl,rfl,rfl,rfl,rfl⟩ rfl rfl rfl rfl rfl b1 Tryz.func4 wX1 b2 b3
  (fun os started H enc _=>h os started H enc)
end Go.Proofs.YtfdbgfhnlgbonaaGreat
