import Derived.Test.YtccnabgijejljaaGreatJn3
import Derived.Test.YtccnabgijejljaaGreatFc3
/- TimelineSame, as Rows states it: for every two lists of notes that its row admits the law answers true: SameSound compares what is heard. -/
set_option linter.all false
namespace Go.Proofs.YtccnabgijejljaaGreat
theorem law_said:Rows.TimelineSameSaid:=fC1 wH
end Go.Proofs.YtccnabgijejljaaGreat
