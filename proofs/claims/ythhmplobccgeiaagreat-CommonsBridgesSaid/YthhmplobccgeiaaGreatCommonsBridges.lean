/- The commons: what one session writes to a bridge the other reads -/
import Derived.Test.YthhmplobccgeiaaGreatMh
namespace Go.Proofs.YthhmplobccgeiaaGreat
theorem CommonsBridges_holds : Rows.CommonsBridgesSaid := Go.EQ.CommonsBridges_holds
#print axioms CommonsBridges_holds
end Go.Proofs.YthhmplobccgeiaaGreat
