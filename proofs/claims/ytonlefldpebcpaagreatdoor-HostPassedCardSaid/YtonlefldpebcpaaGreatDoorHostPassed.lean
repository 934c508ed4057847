/- One that is in and never picked again holds the others up for no longer than the lease; picked later it begins anew, and does its call once. -/
import Derived.Test.YtonlefldpebcpaaGreatDoorMl
namespace Go.Proofs.YtonlefldpebcpaaGreatDoor
theorem HostPassed_holds : Rows.HostPassedCardSaid := Go.EQ.HostPassed_holds
#print axioms HostPassed_holds
end Go.Proofs.YtonlefldpebcpaaGreatDoor
