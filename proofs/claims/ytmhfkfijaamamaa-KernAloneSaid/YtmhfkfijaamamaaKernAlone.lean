/- What the environments of sessions that share nothing are answered hangs on their own calls and on the clock alone: another session's calls, left out, change no answer. -/
import Derived.Test.YtmhfkfijaamamaaMh
namespace Go.Proofs.Ytmhfkfijaamamaa
theorem KernAlone_holds : Rows.KernAloneSaid := Go.EQ.KernAlone_holds
#print axioms KernAlone_holds
end Go.Proofs.Ytmhfkfijaamamaa
