/- For all numbers and every list of steps the law KernFrames of layer 8 returns true and leaves its arguments as they were. No condition. -/
import Derived.Test.YtkoigngajoefkaaMg
namespace Go.Proofs.Ytkoigngajoefkaa
theorem KernFrames_holds : Rows.KernFramesSaid := Go.EQ.KernFrames_holds
#print axioms KernFrames_holds
end Go.Proofs.Ytkoigngajoefkaa
