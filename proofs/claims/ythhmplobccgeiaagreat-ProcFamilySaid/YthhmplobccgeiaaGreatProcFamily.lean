/- A process' children are waited for each once, with the code each ended with; no conditions. -/
import Derived.Test.YthhmplobccgeiaaGreatMh
namespace Go.Proofs.YthhmplobccgeiaaGreat
theorem ProcFamily_holds : Rows.ProcFamilySaid := Go.EQ.ProcFamily_holds
#print axioms ProcFamily_holds
end Go.Proofs.YthhmplobccgeiaaGreat
