import Derived.Test.YtflklffaiianhaaGreatJn6
import Derived.Test.YtflklffaiianhaaGreatFc6
/- MultirestLongest, as Rows states it: for every score that its row admits the law answers true: runs have at least two measures, all empty, and cannot be longer. -/
set_option linter.all false
namespace Go.Proofs.YtflklffaiianhaaGreat
theorem law_said:Rows.MultirestLongestSaid:=iR dO
end Go.Proofs.YtflklffaiianhaaGreat
