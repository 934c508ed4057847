/-
  DERIVED. GIVEN WITH THE SEED: THE CARDS: each row of YtonlefldpebcpaaGreatDoorRows.lean that lists a variable, with what it lists TIED to the program's text (the seventh form; the later family's looks); each row that meets fmt, with fmt's text TOLD by the authors' own Lean function (tested against real Go, not proved from fmt's source: count such statements apart). THE CARD IS WHAT COUNTS. Prove the row's statement (the work); the ties are given (YtonlefldpebcpaaGreatDoorTie.lean); close each card by the builder's one call (the guide's Derived/Test/ToyasCard.lean, 'card_holds'). Laid BY PROGRAM, IN A SANDBOX (cutbox-door.mjs). By AI agents, Wed Nov 11 2026. No macro, syntax, notation, axiom, sorry.
-/
import Derived.Test.YtonlefldpebcpaaGreatDoorRows
import GoSem.ClaimSeven
namespace Go.Proofs.YtonlefldpebcpaaGreatDoor
namespace Rows

/-- THE TIED CARD OF 'commonagelaw21.HostStopped'. -/
def hostStoppedCard : Claim7 := { stood := { row := hostStoppedRow, standIns := [], harness := (true, "6abb6189450580e97e10011ec0d2f79ddb92c782cabbe0c99113948bcd4fa8b9"), looks := false }, kinds := [], alts := [], laidByText := true, laidKinds := [.data, .data], laidTests := true, laidLooks := .later }
def HostStoppedCardSaid : Prop := Claim7.holds Tryz.pinned (.plain (OpenSpec.ofChange hostStoppedSpec)) hostStoppedCard

/-- THE TIED CARD OF 'commonagelaw21.HostSignals'. -/
def hostSignalsCard : Claim7 := { stood := { row := hostSignalsRow, standIns := [], harness := (true, "6abb6189450580e97e10011ec0d2f79ddb92c782cabbe0c99113948bcd4fa8b9"), looks := false }, kinds := [], alts := [], laidByText := true, laidKinds := [.data, .data], laidTests := true, laidLooks := .later }
def HostSignalsCardSaid : Prop := Claim7.holds Tryz.pinned (.plain (OpenSpec.ofChange hostSignalsSpec)) hostSignalsCard

/-- THE TIED CARD OF 'commonagelaw21.HostPassed'. -/
def hostPassedCard : Claim7 := { stood := { row := hostPassedRow, standIns := [], harness := (true, "6abb6189450580e97e10011ec0d2f79ddb92c782cabbe0c99113948bcd4fa8b9"), looks := false }, kinds := [], alts := [], laidByText := true, laidKinds := [.data, .data], laidTests := true, laidLooks := .later }
def HostPassedCardSaid : Prop := Claim7.holds Tryz.pinned (.plain (OpenSpec.ofChange hostPassedSpec)) hostPassedCard

/-- THE TIED CARD OF 'commonagelaw21.HostWoken'. -/
def hostWokenCard : Claim7 := { stood := { row := hostWokenRow, standIns := [], harness := (true, "6abb6189450580e97e10011ec0d2f79ddb92c782cabbe0c99113948bcd4fa8b9"), looks := false }, kinds := [], alts := [], laidByText := true, laidKinds := [.data, .data], laidTests := true, laidLooks := .later }
def HostWokenCardSaid : Prop := Claim7.holds Tryz.pinned (.plain (OpenSpec.ofChange hostWokenSpec)) hostWokenCard

/-- THE SECOND FORM's CARD OF 'commonagelaw21.HostStopped'. -/
def hostStoppedUptoCard : Claim7 := { stood := { row := hostStoppedUptoRow, standIns := [], harness := (true, "6abb6189450580e97e10011ec0d2f79ddb92c782cabbe0c99113948bcd4fa8b9"), looks := false }, kinds := [], alts := [], laidByText := true, laidKinds := [.data, .data], laidTests := true, laidLooks := .later }
def HostStoppedUptoCardSaid : Prop := Claim7.holds Tryz.pinned (.plain (OpenSpec.upto hostStoppedSpec)) hostStoppedUptoCard

/-- THE SECOND FORM's CARD OF 'commonagelaw21.HostSignals'. -/
def hostSignalsUptoCard : Claim7 := { stood := { row := hostSignalsUptoRow, standIns := [], harness := (true, "6abb6189450580e97e10011ec0d2f79ddb92c782cabbe0c99113948bcd4fa8b9"), looks := false }, kinds := [], alts := [], laidByText := true, laidKinds := [.data, .data], laidTests := true, laidLooks := .later }
def HostSignalsUptoCardSaid : Prop := Claim7.holds Tryz.pinned (.plain (OpenSpec.upto hostSignalsSpec)) hostSignalsUptoCard

/-- THE SECOND FORM's CARD OF 'commonagelaw21.HostPassed'. -/
def hostPassedUptoCard : Claim7 := { stood := { row := hostPassedUptoRow, standIns := [], harness := (true, "6abb6189450580e97e10011ec0d2f79ddb92c782cabbe0c99113948bcd4fa8b9"), looks := false }, kinds := [], alts := [], laidByText := true, laidKinds := [.data, .data], laidTests := true, laidLooks := .later }
def HostPassedUptoCardSaid : Prop := Claim7.holds Tryz.pinned (.plain (OpenSpec.upto hostPassedSpec)) hostPassedUptoCard

/-- THE SECOND FORM's CARD OF 'commonagelaw21.HostWoken'. -/
def hostWokenUptoCard : Claim7 := { stood := { row := hostWokenUptoRow, standIns := [], harness := (true, "6abb6189450580e97e10011ec0d2f79ddb92c782cabbe0c99113948bcd4fa8b9"), looks := false }, kinds := [], alts := [], laidByText := true, laidKinds := [.data, .data], laidTests := true, laidLooks := .later }
def HostWokenUptoCardSaid : Prop := Claim7.holds Tryz.pinned (.plain (OpenSpec.upto hostWokenSpec)) hostWokenUptoCard
end Rows
end Go.Proofs.YtonlefldpebcpaaGreatDoor
