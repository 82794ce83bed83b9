import Derived.Test.YtcbmkpbljlaghaaGreatJn3
import Derived.Test.YtcbmkpbljlaghaaGreatFc3
/- UnfoldNotes, as Rows states it: for every score and list of bars that its row admits the law answers true: Notes agrees with the definition. -/
set_option linter.all false
namespace Go.Proofs.YtcbmkpbljlaghaaGreat
theorem law_said:Rows.UnfoldNotesSaid:=eD1 Ko
end Go.Proofs.YtcbmkpbljlaghaaGreat
