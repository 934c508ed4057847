/- CommonsGone returns true whatever it is given: two whole numbers; its own run, by cases of the few bits that it reads of them. No condition. -/
import Derived.Test.YtocmejnmpmbepaaGreatMj
namespace Go.Proofs.YtocmejnmpmbepaaGreat
theorem CommonsGone_holds : Rows.CommonsGoneSaid := Go.EQ.CommonsGone_holds
#print axioms CommonsGone_holds
end Go.Proofs.YtocmejnmpmbepaaGreat
