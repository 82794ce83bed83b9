import Derived.Test.YtflklffaiianhaaGreatJn5
import Derived.Test.YtflklffaiianhaaGreatFc5
/- MultirestEmpty, as Rows states it: for every score and index that its row admits the law answers true: Empty and Joins are those of the model. -/
set_option linter.all false
namespace Go.Proofs.YtflklffaiianhaaGreat
theorem law_said:Rows.MultirestEmptySaid:=iR dO
end Go.Proofs.YtflklffaiianhaaGreat
