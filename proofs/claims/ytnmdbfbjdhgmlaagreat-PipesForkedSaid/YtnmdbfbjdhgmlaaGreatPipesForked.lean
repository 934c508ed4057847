/- A child has its parent's descriptors, of the same files: what the one closes the other still has; what the one writes the other reads; no conditions. -/
import Derived.Test.YtnmdbfbjdhgmlaaGreatMi
namespace Go.Proofs.YtnmdbfbjdhgmlaaGreat
theorem PipesForked_holds : Rows.PipesForkedSaid := Go.EQ.PipesForked_holds
#print axioms PipesForked_holds
end Go.Proofs.YtnmdbfbjdhgmlaaGreat
