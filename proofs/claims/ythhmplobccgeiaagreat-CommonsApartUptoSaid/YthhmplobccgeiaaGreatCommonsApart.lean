/- The commons: what one holds for bad another one does not; one record set changes no other -/
import Derived.Test.YthhmplobccgeiaaGreatMh
namespace Go.Proofs.YthhmplobccgeiaaGreat
theorem CommonsApart_holds : Rows.CommonsApartUptoSaid := Go.EQ.CommonsApart_holds
#print axioms CommonsApart_holds
end Go.Proofs.YthhmplobccgeiaaGreat
