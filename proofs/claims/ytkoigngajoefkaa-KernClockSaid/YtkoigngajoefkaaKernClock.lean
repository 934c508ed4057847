/- For every list of numbers the law KernClock of layer 8 returns true and leaves its argument as it was. No condition. -/
import Derived.Test.YtkoigngajoefkaaMg
namespace Go.Proofs.Ytkoigngajoefkaa
theorem KernClock_holds : Rows.KernClockSaid := Go.EQ.KernClock_holds
#print axioms KernClock_holds
end Go.Proofs.Ytkoigngajoefkaa
