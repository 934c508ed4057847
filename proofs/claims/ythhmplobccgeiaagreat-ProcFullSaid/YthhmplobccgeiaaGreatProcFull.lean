/- Processes: forks till there is no room; a fork that finds none changes nothing -/
import Derived.Test.YthhmplobccgeiaaGreatMh
namespace Go.Proofs.YthhmplobccgeiaaGreat
theorem ProcFull_holds : Rows.ProcFullSaid := Go.EQ.ProcFull_holds
#print axioms ProcFull_holds
end Go.Proofs.YthhmplobccgeiaaGreat
