import Derived.Test.YtmocdkmjkfpkeaaGreatJn4
import Derived.Test.YtmocdkmjkfpkeaaGreatFc4
/- ExtractRanges, as Rows states it: for every score and part that its row admits the law answers true: Range returns the lowest and the highest head of a part of a small score. -/
set_option linter.all false
namespace Go.Proofs.YtmocdkmjkfpkeaaGreat
theorem law_said:Rows.ExtractRangesSaid:=hJ1 yK
end Go.Proofs.YtmocdkmjkfpkeaaGreat
