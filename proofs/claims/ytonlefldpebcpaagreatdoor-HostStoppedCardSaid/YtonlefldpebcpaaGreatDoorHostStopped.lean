/- One that is stopped does nothing till it goes on, and holds nobody up; then its call is done. -/
import Derived.Test.YtonlefldpebcpaaGreatDoorMm
namespace Go.Proofs.YtonlefldpebcpaaGreatDoor
theorem HostStopped_holds : Rows.HostStoppedCardSaid := Go.EQ.HostStopped_holds
#print axioms HostStopped_holds
end Go.Proofs.YtonlefldpebcpaaGreatDoor
