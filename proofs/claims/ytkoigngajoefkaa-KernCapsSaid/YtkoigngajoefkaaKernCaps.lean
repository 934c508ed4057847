/- For every list of numbers and all numbers the law KernCaps of layer 8 returns true and leaves its arguments as they were. No condition. -/
import Derived.Test.YtkoigngajoefkaaMg
namespace Go.Proofs.Ytkoigngajoefkaa
theorem KernCaps_holds : Rows.KernCapsSaid := Go.EQ.KernCaps_holds
#print axioms KernCaps_holds
end Go.Proofs.Ytkoigngajoefkaa
