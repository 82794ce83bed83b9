import Derived.Test.YtaghiddbmfnakaaGreatJn3
import Derived.Test.YtaghiddbmfnakaaGreatFc3
/- UnfoldOrders, as Rows states it: for every score that its row admits the law answers true: Unfold returns the bars of the definition. -/
set_option linter.all false
namespace Go.Proofs.YtaghiddbmfnakaaGreat
theorem law_said:Rows.UnfoldOrdersSaid:=dC1 Ka
end Go.Proofs.YtaghiddbmfnakaaGreat
