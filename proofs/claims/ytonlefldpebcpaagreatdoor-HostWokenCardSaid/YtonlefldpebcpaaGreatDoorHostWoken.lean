/- A read that found nothing is woken by bytes, and by the end, and by nothing else: till then its picks do nothing. -/
import Derived.Test.YtonlefldpebcpaaGreatDoorMl
namespace Go.Proofs.YtonlefldpebcpaaGreatDoor
theorem HostWoken_holds : Rows.HostWokenCardSaid := Go.EQ.HostWoken_holds
#print axioms HostWoken_holds
end Go.Proofs.YtonlefldpebcpaaGreatDoor
