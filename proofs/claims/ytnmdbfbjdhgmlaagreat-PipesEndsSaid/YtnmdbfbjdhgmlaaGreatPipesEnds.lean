/- With the last writer gone what is left is read, then the end is told, again and again; with the last reader gone a write is refused, and its signal raised; no conditions. -/
import Derived.Test.YtnmdbfbjdhgmlaaGreatMi
namespace Go.Proofs.YtnmdbfbjdhgmlaaGreat
theorem PipesEnds_holds : Rows.PipesEndsSaid := Go.EQ.PipesEnds_holds
#print axioms PipesEnds_holds
end Go.Proofs.YtnmdbfbjdhgmlaaGreat
