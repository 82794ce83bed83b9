import Derived.Test.YtajloalceibekaaGreatJn3
import Derived.Test.YtajloalceibekaaGreatFc3
/- CondenseLabels, as Rows states it: for every plan and index that its row admits the law answers true: Label returns what is written above a measure. -/
set_option linter.all false
namespace Go.Proofs.YtajloalceibekaaGreat
theorem law_said:Rows.CondenseLabelsSaid:=gF1 xN
end Go.Proofs.YtajloalceibekaaGreat
