import Derived.Test.YtndjmihnknjaeaaGreatJn7
import Derived.Test.YtndjmihnknjaeaaGreatFc7
/- UnfoldOnsets, as Rows states it: for every score, list of bars and tick that its row admits the law answers true: Onsets and At agree with the definition. -/
set_option linter.all false
namespace Go.Proofs.YtndjmihnknjaeaaGreat
theorem law_said:Rows.UnfoldOnsetsSaid:=uK kC
end Go.Proofs.YtndjmihnknjaeaaGreat
