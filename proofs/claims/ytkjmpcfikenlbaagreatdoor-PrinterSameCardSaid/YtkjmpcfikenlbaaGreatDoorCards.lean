/-
  DERIVED. GIVEN WITH THE SEED: THE CARDS: each row of YtkjmpcfikenlbaaGreatDoorRows.lean that lists a variable, with what it lists TIED to the program's text (the seventh form; the later family's looks); each row that meets fmt, with fmt's text TOLD by the authors' own Lean function (tested against real Go, not proved from fmt's source: count such statements apart). THE CARD IS WHAT COUNTS. Prove the row's statement (the work); the ties are given (YtkjmpcfikenlbaaGreatDoorTie.lean); close each card by the builder's one call (the guide's Derived/Test/ToyasCard.lean, 'card_holds'). Laid BY PROGRAM, IN A SANDBOX (cutbox-door.mjs). By AI agents, Wed Nov 11 2026. No macro, syntax, notation, axiom, sorry.
-/
import Derived.Test.YtkjmpcfikenlbaaGreatDoorRows
import GoSem.ClaimSeven
namespace Go.Proofs.YtkjmpcfikenlbaaGreatDoor
namespace Rows

/-- THE TIED CARD OF 'libevolutionlaw03.PrinterSame'. -/
def printerSameCard : Claim7 := { stood := { row := printerSameRow, standIns := [], harness := (true, "c4eacddfff162039aaf411d803a240b293b6c7ba70084bfa0f32ca5978344da5"), looks := true }, kinds := [], alts := [], laidByText := true, laidKinds := [.data, .data, .data, .sentinel, .sentinel], laidTests := true, laidLooks := .later }
def PrinterSameCardSaid : Prop := Claim7.holds Tryz.pinned (.plain (OpenSpec.ofChange printerSameSpec)) printerSameCard

/-- THE SECOND FORM's CARD OF 'libevolutionlaw03.PrinterSame'. -/
def printerSameUptoCard : Claim7 := { stood := { row := printerSameUptoRow, standIns := [], harness := (true, "c4eacddfff162039aaf411d803a240b293b6c7ba70084bfa0f32ca5978344da5"), looks := true }, kinds := [], alts := [], laidByText := true, laidKinds := [.data, .data, .data, .sentinel, .sentinel], laidTests := true, laidLooks := .later }
def PrinterSameUptoCardSaid : Prop := Claim7.holds Tryz.pinned (.plain (OpenSpec.upto printerSameSpec)) printerSameUptoCard
end Rows
end Go.Proofs.YtkjmpcfikenlbaaGreatDoor
