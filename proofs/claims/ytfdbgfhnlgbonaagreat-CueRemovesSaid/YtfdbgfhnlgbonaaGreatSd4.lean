import Derived.Test.YtfdbgfhnlgbonaaGreatJn4
import Derived.Test.YtfdbgfhnlgbonaaGreatFc4
/- CueRemoves, as Rows states it: for every score and ids that its row admits the law answers true: Remove gives the score without the voices of the cues named, pruned, or its error. -/
set_option linter.all false
namespace Go.Proofs.YtfdbgfhnlgbonaaGreat
theorem law_said:Rows.CueRemovesSaid:=rD1 Uu
end Go.Proofs.YtfdbgfhnlgbonaaGreat
