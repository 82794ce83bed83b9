import Derived.Test.YtcbmkpbljlaghaaGreatJn4
import Derived.Test.YtcbmkpbljlaghaaGreatFc4
/- UnfoldTies, as Rows states it: for every score that its row admits the law answers true: in the bars that Unfold returns every note lies within the bars, and where a note goes on in the next measure the next bar is this measure. -/
set_option linter.all false
namespace Go.Proofs.YtcbmkpbljlaghaaGreat
theorem law_said:Rows.UnfoldTiesSaid:=oC1 Ru
end Go.Proofs.YtcbmkpbljlaghaaGreat
