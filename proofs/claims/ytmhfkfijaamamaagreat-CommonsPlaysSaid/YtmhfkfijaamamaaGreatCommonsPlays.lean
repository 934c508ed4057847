/- Records are read, set and freed as the document says, among others who write any bytes; what was bad once is bad for ever, for this one. -/
import Derived.Test.YtmhfkfijaamamaaGreatMk
namespace Go.Proofs.YtmhfkfijaamamaaGreat
theorem CommonsPlays_holds : Rows.CommonsPlaysSaid := Go.EQ.CommonsPlays_holds
#print axioms CommonsPlays_holds
end Go.Proofs.YtmhfkfijaamamaaGreat
