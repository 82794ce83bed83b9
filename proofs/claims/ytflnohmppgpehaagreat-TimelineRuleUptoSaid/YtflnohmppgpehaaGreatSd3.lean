import Derived.Test.YtflnohmppgpehaaGreatJn3
import Derived.Test.YtflnohmppgpehaaGreatFc3
/- TimelineRule, as Rows states it where what it reads is of the bulk that Rows names: the law answers true: the functions of scores return ErrRule for a score that is not valid. -/
set_option linter.all false
namespace Go.Proofs.YtflnohmppgpehaaGreat
theorem law_said:Rows.TimelineRuleUptoSaid:=iU1 zE
end Go.Proofs.YtflnohmppgpehaaGreat
