import Derived.Test.YtolknogilcdomaaGreatJn3
import Derived.Test.YtolknogilcdomaaGreatFc3
/- ExtractWritten, as Rows states it: for every score that its row admits the law answers true: Written gives the score with the pitches and intervals of the definition, or its error, and Sounding gives the sounding score of the definition. -/
set_option linter.all false
namespace Go.Proofs.YtolknogilcdomaaGreat
theorem law_said:Rows.ExtractWrittenSaid:=tW1 Vz
end Go.Proofs.YtolknogilcdomaaGreat
