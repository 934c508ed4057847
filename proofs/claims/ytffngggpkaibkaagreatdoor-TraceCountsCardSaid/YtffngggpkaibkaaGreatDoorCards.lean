/-
  DERIVED. GIVEN WITH THE SEED: THE CARDS: each row of YtffngggpkaibkaaGreatDoorRows.lean that lists a variable, with what it lists TIED to the program's text (the seventh form; the later family's looks); each row that meets fmt, with fmt's text TOLD by the authors' own Lean function (tested against real Go, not proved from fmt's source: count such statements apart). THE CARD IS WHAT COUNTS. Prove the row's statement (the work); the ties are given (YtffngggpkaibkaaGreatDoorTie.lean); close each card by the builder's one call (the guide's Derived/Test/ToyasCard.lean, 'card_holds'). Laid BY PROGRAM, IN A SANDBOX (cutbox-door.mjs). By AI agents, Wed Nov 11 2026. No macro, syntax, notation, axiom, sorry.
-/
import Derived.Test.YtffngggpkaibkaaGreatDoorRows
import GoSem.ClaimSeven
namespace Go.Proofs.YtffngggpkaibkaaGreatDoor
namespace Rows

/-- THE TIED CARD OF 'commonagelaw25.TraceCounts'. -/
def traceCountsCard : Claim7 := { stood := { row := traceCountsRow, standIns := [], harness := (true, "68dd376fea1172a40cad1b7529e6c41f0fcc5f75966c5df814e6222363e19334"), looks := false }, kinds := [], alts := [], laidByText := true, laidKinds := [.data, .data], laidTests := true, laidLooks := .later }
def TraceCountsCardSaid : Prop := Claim7.holds Tryz.pinned (.plain (OpenSpec.ofChange traceCountsSpec)) traceCountsCard

/-- THE SECOND FORM's CARD OF 'commonagelaw25.TraceCounts'. -/
def traceCountsUptoCard : Claim7 := { stood := { row := traceCountsUptoRow, standIns := [], harness := (true, "68dd376fea1172a40cad1b7529e6c41f0fcc5f75966c5df814e6222363e19334"), looks := false }, kinds := [], alts := [], laidByText := true, laidKinds := [.data, .data], laidTests := true, laidLooks := .later }
def TraceCountsUptoCardSaid : Prop := Claim7.holds Tryz.pinned (.plain (OpenSpec.upto traceCountsSpec)) traceCountsUptoCard
end Rows
end Go.Proofs.YtffngggpkaibkaaGreatDoor
