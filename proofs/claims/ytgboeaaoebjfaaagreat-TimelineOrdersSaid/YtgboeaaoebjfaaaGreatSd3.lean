import Derived.Test.YtgboeaaoebjfaaaGreatJn3
import Derived.Test.YtgboeaaoebjfaaaGreatFc3
/- TimelineOrders, as Rows states it: for every list of notes that its row admits the law answers true: Compare is the order of the definition, and Sort returns the notes in order. -/
set_option linter.all false
namespace Go.Proofs.YtgboeaaoebjfaaaGreat
theorem law_said:Rows.TimelineOrdersSaid:=iW1 yV
end Go.Proofs.YtgboeaaoebjfaaaGreat
