import Derived.Test.YtmocdkmjkfpkeaaGreatJn3
import Derived.Test.YtmocdkmjkfpkeaaGreatFc3
/- ExtractIntervals, as Rows states it: for every score and part that its row admits the law answers true: Interval and Keys agree with the definition. -/
set_option linter.all false
namespace Go.Proofs.YtmocdkmjkfpkeaaGreat
theorem law_said:Rows.ExtractIntervalsSaid:=hK1 No
end Go.Proofs.YtmocdkmjkfpkeaaGreat
