import Derived.Test.YtfdbgfhnlgbonaaGreatJn3
import Derived.Test.YtfdbgfhnlgbonaaGreatFc3
/- CueChooses, as Rows states it: for every score, part and rules that its row admits the law answers true: Choose returns the cues of the model, which have a positive weight. -/
set_option linter.all false
namespace Go.Proofs.YtfdbgfhnlgbonaaGreat
theorem law_said:Rows.CueChoosesSaid:=sY1 Uw
end Go.Proofs.YtfdbgfhnlgbonaaGreat
