/- Orphans -/
import Derived.Test.YthhmplobccgeiaaGreatMh
namespace Go.Proofs.YthhmplobccgeiaaGreat
theorem ProcOrphans_holds : Rows.ProcOrphansSaid := Go.EQ.ProcOrphans_holds
#print axioms ProcOrphans_holds
end Go.Proofs.YthhmplobccgeiaaGreat
