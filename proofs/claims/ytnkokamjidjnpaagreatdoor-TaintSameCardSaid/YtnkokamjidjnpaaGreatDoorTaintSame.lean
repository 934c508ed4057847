/- TaintSame returns true whatever it is given: an Out and a whole number; and the card ties the two tables that its code names to the program's text. No condition. -/
import Derived.Test.YtnkokamjidjnpaaGreatDoorMi
namespace Go.Proofs.YtnkokamjidjnpaaGreatDoor
theorem TaintSame_holds : Rows.TaintSameCardSaid := Go.EQ.TaintSame_holds
#print axioms TaintSame_holds
end Go.Proofs.YtnkokamjidjnpaaGreatDoor
