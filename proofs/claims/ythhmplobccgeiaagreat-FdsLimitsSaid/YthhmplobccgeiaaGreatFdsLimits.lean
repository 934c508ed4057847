/- As many pipes, files and descriptors may be as there is room for: what finds none changes nothing; closed ones make room; no conditions. -/
import Derived.Test.YthhmplobccgeiaaGreatMh
namespace Go.Proofs.YthhmplobccgeiaaGreat
theorem FdsLimits_holds : Rows.FdsLimitsSaid := Go.EQ.FdsLimits_holds
#print axioms FdsLimits_holds
end Go.Proofs.YthhmplobccgeiaaGreat
