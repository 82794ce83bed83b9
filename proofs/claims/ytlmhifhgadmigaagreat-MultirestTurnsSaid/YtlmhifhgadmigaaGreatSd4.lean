import Derived.Test.YtlmhifhgadmigaaGreatJn4
import Derived.Test.YtlmhifhgadmigaaGreatFc4
/- MultirestTurns, as Rows states it: for every score that its row admits the law answers true: Turns returns for each measure the ticks of rest that end with it, or ErrRule. -/
set_option linter.all false
namespace Go.Proofs.YtlmhifhgadmigaaGreat
theorem law_said:Rows.MultirestTurnsSaid:=dC1 Jv
end Go.Proofs.YtlmhifhgadmigaaGreat
