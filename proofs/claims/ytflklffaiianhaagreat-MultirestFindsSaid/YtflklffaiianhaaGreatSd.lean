import Derived.Test.YtflklffaiianhaaGreatJn
/- MultirestFinds, as Rows states it: the law answers true for every list of runs and every index that its row admits. -/
set_option maxRecDepth 100000
namespace Go.Proofs.YtflklffaiianhaaGreat
open Go.Sim Go.SimIR Go.ChangeShapes Go.WideShapes Go.ChangeAt Go.RowKit Go.P
theorem finds_said : Rows.MultirestFindsSaid :=
  OpenClaim.holds_of_wide 4 Tryz.f4 rfl rfl rfl rfl rfl rfl rfl ⟨rfl, rfl, rfl, rfl, rfl⟩ rfl rfl rfl rfl rfl (by kernel_rfl) Tryz.func4 (by kernel_rfl)
    (of_decide_eq_true (by kernel_rfl)) (by unfold Func.isWrapper; first | (rw [if_pos (by decide +kernel)]; kernel_rfl) | (rw [if_neg (by decide +kernel)]; exact ⟨rfl, rfl⟩))
    (fun os started H enc _ => finds_lifted os started H enc)
end Go.Proofs.YtflklffaiianhaaGreat
