import Derived.Test.YtajloalceibekaaGreatJn4
import Derived.Test.YtajloalceibekaaGreatFc4
/- CondenseRule, as Rows states it where what it reads is of the bulk that Rows names: the law answers true: the functions of scores return ErrRule for a score that is not valid. -/
set_option linter.all false
namespace Go.Proofs.YtajloalceibekaaGreat
theorem law_said:Rows.CondenseRuleUptoSaid:=iZ1 zM
end Go.Proofs.YtajloalceibekaaGreat
