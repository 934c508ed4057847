/- Honest calls on descriptors, and of processes, keep sound commons sound; no conditions. -/
import Derived.Test.YtoegoalficgneaaGreatMj
namespace Go.Proofs.YtoegoalficgneaaGreat
theorem FdsSound_holds : Rows.FdsSoundSaid := Go.EQ.FdsSound_holds
#print axioms FdsSound_holds
end Go.Proofs.YtoegoalficgneaaGreat
