import Derived.Test.YtnjheelameojaaaGreatJn4
import Derived.Test.YtnjheelameojaaaGreatFc4
/- CueRests, as Rows states it: for every score, part and rules that its row admits the law answers true: Rests and Entries return the measures of the model, or the first error. -/
set_option linter.all false
namespace Go.Proofs.YtnjheelameojaaaGreat
theorem law_said:Rows.CueRestsSaid:=vI kQ
end Go.Proofs.YtnjheelameojaaaGreat
