import Derived.Test.YtndjmihnknjaeaaGreatJn6
import Derived.Test.YtndjmihnknjaeaaGreatFc6
/- UnfoldPasses, as Rows states it: for every score and list of bars that its row admits the law answers true: Passes and Reached agree with the definition. -/
set_option linter.all false
namespace Go.Proofs.YtndjmihnknjaeaaGreat
theorem law_said:Rows.UnfoldPassesSaid:=uK kC
end Go.Proofs.YtndjmihnknjaeaaGreat
