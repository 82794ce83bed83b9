import Derived.Test.YtlmhifhgadmigaaGreatJn3
import Derived.Test.YtlmhifhgadmigaaGreatFc3
/- MultirestHides, as Rows states it: for every score that its row admits the law answers true: in a hidden measure nothing sounds, and no spanner begins or ends. -/
set_option linter.all false
namespace Go.Proofs.YtlmhifhgadmigaaGreat
theorem law_said:Rows.MultirestHidesSaid:=gK1 Ma
end Go.Proofs.YtlmhifhgadmigaaGreat
