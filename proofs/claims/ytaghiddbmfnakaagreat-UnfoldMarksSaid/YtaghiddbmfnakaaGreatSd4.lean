import Derived.Test.YtaghiddbmfnakaaGreatJn4
import Derived.Test.YtaghiddbmfnakaaGreatFc4
/- UnfoldMarks, as Rows states it: for every list of marks that its row admits the law answers true: Unfold returns the bars of the definition, if the score is valid. -/
set_option linter.all false
namespace Go.Proofs.YtaghiddbmfnakaaGreat
theorem law_said:Rows.UnfoldMarksSaid:=dK1 Kg
end Go.Proofs.YtaghiddbmfnakaaGreat
