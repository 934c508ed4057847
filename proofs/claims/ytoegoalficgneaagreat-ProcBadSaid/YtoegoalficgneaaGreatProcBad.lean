/- A process whose own record is bad is told EIO whatever it asks, and nobody's record is changed by it. -/
import Derived.Test.YtoegoalficgneaaGreatMk
namespace Go.Proofs.YtoegoalficgneaaGreat
theorem ProcBad_holds : Rows.ProcBadSaid := Go.EQ.ProcBad_holds
#print axioms ProcBad_holds
end Go.Proofs.YtoegoalficgneaaGreat
