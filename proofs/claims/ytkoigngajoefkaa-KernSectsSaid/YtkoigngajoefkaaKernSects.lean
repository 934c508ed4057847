/- For every list of steps the law KernSects of layer 8 returns true and leaves its argument as it was. No condition. -/
import Derived.Test.YtkoigngajoefkaaMg
namespace Go.Proofs.Ytkoigngajoefkaa
theorem KernSects_holds : Rows.KernSectsSaid := Go.EQ.KernSects_holds
#print axioms KernSects_holds
end Go.Proofs.Ytkoigngajoefkaa
