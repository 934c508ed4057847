/- What is typed is read, in order, by the front group alone; the front goes to a group that is there, given by the front group alone; no conditions. -/
import Derived.Test.YtnmdbfbjdhgmlaaGreatMi
namespace Go.Proofs.YtnmdbfbjdhgmlaaGreat
theorem PipesTerm_holds : Rows.PipesTermSaid := Go.EQ.PipesTerm_holds
#print axioms PipesTerm_holds
end Go.Proofs.YtnmdbfbjdhgmlaaGreat
