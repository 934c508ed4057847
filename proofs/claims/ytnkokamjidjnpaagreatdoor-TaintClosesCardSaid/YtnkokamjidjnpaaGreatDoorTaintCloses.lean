/- TaintCloses returns true whatever it is given: a plan, whole numbers, a whole number; and the card ties the two tables that its code names to the program's text. No condition. -/
import Derived.Test.YtnkokamjidjnpaaGreatDoorMi
namespace Go.Proofs.YtnkokamjidjnpaaGreatDoor
theorem TaintCloses_holds : Rows.TaintClosesCardSaid := Go.EQ.TaintCloses_holds
#print axioms TaintCloses_holds
end Go.Proofs.YtnkokamjidjnpaaGreatDoor
