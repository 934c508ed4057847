/- What one slot was told is picked out in its order; returns are counted by their calls; one row of bytes is the beginning of another one, or not. -/
import Derived.Test.YtffngggpkaibkaaGreatDoorMh
namespace Go.Proofs.YtffngggpkaibkaaGreatDoor
theorem TraceCounts_holds : Rows.TraceCountsCardSaid := Go.EQ.TraceCounts_holds
#print axioms TraceCounts_holds
end Go.Proofs.YtffngggpkaibkaaGreatDoor
