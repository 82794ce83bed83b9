import Derived.Test.YtnjheelameojaaaGreatJn5
import Derived.Test.YtnjheelameojaaaGreatFc5
/- CueRules, as Rows states it: for every score and cue that its row admits the law answers true: all functions of scores return ErrRule for a score that is not valid. -/
set_option linter.all false
namespace Go.Proofs.YtnjheelameojaaaGreat
theorem law_said:Rows.CueRulesSaid:=vI kQ
end Go.Proofs.YtnjheelameojaaaGreat
