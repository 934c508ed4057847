/- Honest calls keep sound commons sound, whatever is called; no conditions. -/
import Derived.Test.YtoegoalficgneaaGreatMj
namespace Go.Proofs.YtoegoalficgneaaGreat
theorem ProcSound_holds : Rows.ProcSoundSaid := Go.EQ.ProcSound_holds
#print axioms ProcSound_holds
end Go.Proofs.YtoegoalficgneaaGreat
