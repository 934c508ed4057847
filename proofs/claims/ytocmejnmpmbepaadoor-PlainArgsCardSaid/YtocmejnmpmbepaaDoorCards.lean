/-
  DERIVED. GIVEN WITH THE SEED: THE CARDS: each row of YtocmejnmpmbepaaDoorRows.lean that lists a variable, with what it lists TIED to the program's text (the seventh form; the later family's looks); each row that meets fmt, with fmt's text TOLD by the authors' own Lean function (tested against real Go, not proved from fmt's source: count such statements apart). THE CARD IS WHAT COUNTS. Prove the row's statement (the work); the ties are given (YtocmejnmpmbepaaDoorTie.lean); close each card by the builder's one call (the guide's Derived/Test/ToyasCard.lean, 'card_holds'). Laid BY PROGRAM, IN A SANDBOX (cutbox-door.mjs). By AI agents, Wed Nov 11 2026. No macro, syntax, notation, axiom, sorry.
-/
import Derived.Test.YtocmejnmpmbepaaDoorRows
import GoSem.ClaimSeven
namespace Go.Proofs.YtocmejnmpmbepaaDoor
namespace Rows

/-- THE TIED CARD OF 'commonagelaw23.PlainArgs'. -/
def plainArgsCard : Claim7 := { stood := { row := plainArgsRow, standIns := [], harness := (true, "c2cf444e84d7788ec7d2bc1996c8705d0b2fa40a33e07d6b0459d78bd55fcdec"), looks := false }, kinds := [], alts := [], laidByText := true, laidKinds := [.data, .data], laidTests := true, laidLooks := .later }
def PlainArgsCardSaid : Prop := Claim7.holds Tryd.pinned (.plain (OpenSpec.ofChange plainArgsSpec)) plainArgsCard

/-- THE SECOND FORM's CARD OF 'commonagelaw23.PlainArgs'. -/
def plainArgsUptoCard : Claim7 := { stood := { row := plainArgsUptoRow, standIns := [], harness := (true, "c2cf444e84d7788ec7d2bc1996c8705d0b2fa40a33e07d6b0459d78bd55fcdec"), looks := false }, kinds := [], alts := [], laidByText := true, laidKinds := [.data, .data], laidTests := true, laidLooks := .later }
def PlainArgsUptoCardSaid : Prop := Claim7.holds Tryd.pinned (.plain (OpenSpec.upto plainArgsSpec)) plainArgsUptoCard
end Rows
end Go.Proofs.YtocmejnmpmbepaaDoor
