/-
  DERIVED. GIVEN WITH THE SEED: THE CARDS: each row of YtnkokamjidjnpaaGreatDoorRows.lean that lists a variable, with what it lists TIED to the program's text (the seventh form; the later family's looks); each row that meets fmt, with fmt's text TOLD by the authors' own Lean function (tested against real Go, not proved from fmt's source: count such statements apart). THE CARD IS WHAT COUNTS. Prove the row's statement (the work); the ties are given (YtnkokamjidjnpaaGreatDoorTie.lean); close each card by the builder's one call (the guide's Derived/Test/ToyasCard.lean, 'card_holds'). Laid BY PROGRAM, IN A SANDBOX (cutbox-door.mjs). By AI agents, Wed Nov 11 2026. No macro, syntax, notation, axiom, sorry.
-/
import Derived.Test.YtnkokamjidjnpaaGreatDoorRows
import GoSem.ClaimSeven
namespace Go.Proofs.YtnkokamjidjnpaaGreatDoor
namespace Rows

/-- THE TIED CARD OF 'commonagelaw24.TaintSame'. -/
def taintSameCard : Claim7 := { stood := { row := taintSameRow, standIns := [], harness := (true, "bd7ffb9caad508bc27c8f744eee655bbd56492d2814c95a5af4f20700bbe1fe4"), looks := false }, kinds := [], alts := [], laidByText := true, laidKinds := [.data, .data], laidTests := true, laidLooks := .later }
def TaintSameCardSaid : Prop := Claim7.holds Tryz.pinned (.plain (OpenSpec.ofChange taintSameSpec)) taintSameCard

/-- THE TIED CARD OF 'commonagelaw24.TaintCloses'. -/
def taintClosesCard : Claim7 := { stood := { row := taintClosesRow, standIns := [], harness := (true, "bd7ffb9caad508bc27c8f744eee655bbd56492d2814c95a5af4f20700bbe1fe4"), looks := false }, kinds := [], alts := [], laidByText := true, laidKinds := [.data, .data], laidTests := true, laidLooks := .later }
def TaintClosesCardSaid : Prop := Claim7.holds Tryz.pinned (.plain (OpenSpec.ofChange taintClosesSpec)) taintClosesCard

/-- THE SECOND FORM's CARD OF 'commonagelaw24.TaintSame'. -/
def taintSameUptoCard : Claim7 := { stood := { row := taintSameUptoRow, standIns := [], harness := (true, "bd7ffb9caad508bc27c8f744eee655bbd56492d2814c95a5af4f20700bbe1fe4"), looks := false }, kinds := [], alts := [], laidByText := true, laidKinds := [.data, .data], laidTests := true, laidLooks := .later }
def TaintSameUptoCardSaid : Prop := Claim7.holds Tryz.pinned (.plain (OpenSpec.upto taintSameSpec)) taintSameUptoCard

/-- THE SECOND FORM's CARD OF 'commonagelaw24.TaintCloses'. -/
def taintClosesUptoCard : Claim7 := { stood := { row := taintClosesUptoRow, standIns := [], harness := (true, "bd7ffb9caad508bc27c8f744eee655bbd56492d2814c95a5af4f20700bbe1fe4"), looks := false }, kinds := [], alts := [], laidByText := true, laidKinds := [.data, .data], laidTests := true, laidLooks := .later }
def TaintClosesUptoCardSaid : Prop := Claim7.holds Tryz.pinned (.plain (OpenSpec.upto taintClosesSpec)) taintClosesUptoCard
end Rows
end Go.Proofs.YtnkokamjidjnpaaGreatDoor
