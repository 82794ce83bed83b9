import Derived.Test.YtflklffaiianhaaGreatJn3
import Derived.Test.YtflklffaiianhaaGreatFc3
/- MultirestRuns, as Rows states it: for every score that its row admits the law answers true: Runs and Visible are those of the model. -/
set_option linter.all false
namespace Go.Proofs.YtflklffaiianhaaGreat
theorem law_said:Rows.MultirestRunsSaid:=iR dO
end Go.Proofs.YtflklffaiianhaaGreat
