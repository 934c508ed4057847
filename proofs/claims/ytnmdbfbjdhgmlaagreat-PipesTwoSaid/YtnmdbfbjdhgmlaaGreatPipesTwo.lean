/- Pipes are apart: what flows in one is nothing to another one; no conditions. -/
import Derived.Test.YtnmdbfbjdhgmlaaGreatMi
namespace Go.Proofs.YtnmdbfbjdhgmlaaGreat
theorem PipesTwo_holds : Rows.PipesTwoSaid := Go.EQ.PipesTwo_holds
#print axioms PipesTwo_holds
end Go.Proofs.YtnmdbfbjdhgmlaaGreat
