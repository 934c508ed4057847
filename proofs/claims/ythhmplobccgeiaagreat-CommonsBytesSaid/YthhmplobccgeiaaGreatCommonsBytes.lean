/- The commons: a record written moves no byte but its own -/
import Derived.Test.YthhmplobccgeiaaGreatMh
namespace Go.Proofs.YthhmplobccgeiaaGreat
theorem CommonsBytes_holds : Rows.CommonsBytesSaid := Go.EQ.CommonsBytes_holds
#print axioms CommonsBytes_holds
end Go.Proofs.YthhmplobccgeiaaGreat
