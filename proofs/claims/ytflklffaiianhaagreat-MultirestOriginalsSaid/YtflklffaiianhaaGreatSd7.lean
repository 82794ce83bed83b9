import Derived.Test.YtflklffaiianhaaGreatJn7
import Derived.Test.YtflklffaiianhaaGreatFc7
/- MultirestOriginals, as Rows states it: for every score and index that its row admits the law answers true: Original is where the visible measure begins. -/
set_option linter.all false
namespace Go.Proofs.YtflklffaiianhaaGreat
theorem law_said:Rows.MultirestOriginalsSaid:=iR dO
end Go.Proofs.YtflklffaiianhaaGreat
