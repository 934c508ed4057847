/- A blocked call ends when a signal that is caught comes, and tells so; one that ends the process ends it with that code; one that is ignored, or kept off, does nothing. -/
import Derived.Test.YtonlefldpebcpaaGreatDoorMm
namespace Go.Proofs.YtonlefldpebcpaaGreatDoor
theorem HostSignals_holds : Rows.HostSignalsCardSaid := Go.EQ.HostSignals_holds
#print axioms HostSignals_holds
end Go.Proofs.YtonlefldpebcpaaGreatDoor
