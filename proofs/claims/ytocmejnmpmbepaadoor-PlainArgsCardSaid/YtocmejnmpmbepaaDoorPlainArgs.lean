/- PlainArgs returns true whatever plan it is given, and the card ties the two tables that its code names to the program's text. No condition. -/
import Derived.Test.YtocmejnmpmbepaaDoorMi
namespace Go.Proofs.YtocmejnmpmbepaaDoor
theorem PlainArgs_holds : Rows.PlainArgsCardSaid := Go.EQ.PlainArgs_holds
#print axioms PlainArgs_holds
end Go.Proofs.YtocmejnmpmbepaaDoor
