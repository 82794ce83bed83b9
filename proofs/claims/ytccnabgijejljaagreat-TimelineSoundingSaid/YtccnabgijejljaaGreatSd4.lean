import Derived.Test.YtccnabgijejljaaGreatJn4
import Derived.Test.YtccnabgijejljaaGreatFc4
/- TimelineSounding, as Rows states it: for every list of notes, tick and part that its row admits the law answers true: Sounding and Part return the notes that sound at the tick, and those of the part. -/
set_option linter.all false
namespace Go.Proofs.YtccnabgijejljaaGreat
theorem law_said:Rows.TimelineSoundingSaid:=eN1 vY
end Go.Proofs.YtccnabgijejljaaGreat
