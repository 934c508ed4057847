/- A file that never waits is told so where another one would block; it is so for all who have it; no conditions. -/
import Derived.Test.YtnmdbfbjdhgmlaaGreatMi
namespace Go.Proofs.YtnmdbfbjdhgmlaaGreat
theorem PipesNow_holds : Rows.PipesNowSaid := Go.EQ.PipesNow_holds
#print axioms PipesNow_holds
end Go.Proofs.YtnmdbfbjdhgmlaaGreat
