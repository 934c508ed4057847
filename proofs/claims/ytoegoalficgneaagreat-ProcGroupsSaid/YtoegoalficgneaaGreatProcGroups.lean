/- A signal to a group reaches all of it, and nobody else; to a slot that one alone; no conditions. -/
import Derived.Test.YtoegoalficgneaaGreatMi
namespace Go.Proofs.YtoegoalficgneaaGreat
theorem ProcGroups_holds : Rows.ProcGroupsSaid := Go.EQ.ProcGroups_holds
#print axioms ProcGroups_holds
end Go.Proofs.YtoegoalficgneaaGreat
