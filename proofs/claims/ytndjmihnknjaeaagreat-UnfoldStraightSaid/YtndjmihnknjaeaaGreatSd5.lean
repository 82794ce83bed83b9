import Derived.Test.YtndjmihnknjaeaaGreatJn5
import Derived.Test.YtndjmihnknjaeaaGreatFc5
/- UnfoldStraight, as Rows states it: for every score that its row admits the law answers true: a small valid score without repeats, endings and jumps is unfolded to its measures, each once. -/
set_option linter.all false
namespace Go.Proofs.YtndjmihnknjaeaaGreat
theorem law_said:Rows.UnfoldStraightSaid:=gC1 xE
end Go.Proofs.YtndjmihnknjaeaaGreat
