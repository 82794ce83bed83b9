import Derived.Test.YtlohgggadnajiaaGreatJn3
import Derived.Test.YtlohgggadnajiaaGreatFc3
/- ExtractBack, as Rows states it: for every score and interval that its row admits the law answers true: a score that is shifted by an interval and by its negation again is the score itself, where every shift of a pitch is exact. -/
set_option linter.all false
namespace Go.Proofs.YtlohgggadnajiaaGreat
theorem law_said:Rows.ExtractBackSaid:=sI1 Ut
end Go.Proofs.YtlohgggadnajiaaGreat
