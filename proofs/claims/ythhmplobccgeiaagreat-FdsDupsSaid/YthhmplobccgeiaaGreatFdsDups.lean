/- What is doubled is one file: closed as often as it was doubled it is gone, not sooner; a double to itself does nothing; no conditions. -/
import Derived.Test.YthhmplobccgeiaaGreatMh
namespace Go.Proofs.YthhmplobccgeiaaGreat
theorem FdsDups_holds : Rows.FdsDupsSaid := Go.EQ.FdsDups_holds
#print axioms FdsDups_holds
end Go.Proofs.YthhmplobccgeiaaGreat
