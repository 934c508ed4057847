/- What is read out of a pipe is what was written, in order; small writes are whole; no more than there is room for goes in; no conditions. -/
import Derived.Test.YtnmdbfbjdhgmlaaGreatMi
namespace Go.Proofs.YtnmdbfbjdhgmlaaGreat
theorem PipesFlow_holds : Rows.PipesFlowSaid := Go.EQ.PipesFlow_holds
#print axioms PipesFlow_holds
end Go.Proofs.YtnmdbfbjdhgmlaaGreat
