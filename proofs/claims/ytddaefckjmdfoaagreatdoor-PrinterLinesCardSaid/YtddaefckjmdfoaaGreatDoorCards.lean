/-
  DERIVED. GIVEN WITH THE SEED: THE CARDS: each row of YtddaefckjmdfoaaGreatDoorRows.lean that lists a variable, with what it lists TIED to the program's text (the seventh form; the later family's looks); each row that meets fmt, with fmt's text TOLD by the authors' own Lean function (tested against real Go, not proved from fmt's source: count such statements apart). THE CARD IS WHAT COUNTS. Prove the row's statement (the work); the ties are given (YtddaefckjmdfoaaGreatDoorTie.lean); close each card by the builder's one call (the guide's Derived/Test/ToyasCard.lean, 'card_holds'). Laid BY PROGRAM, IN A SANDBOX (cutbox-door.mjs). By AI agents, Wed Nov 11 2026. No macro, syntax, notation, axiom, sorry.
-/
import Derived.Test.YtddaefckjmdfoaaGreatDoorRows
import GoSem.ClaimSeven
namespace Go.Proofs.YtddaefckjmdfoaaGreatDoor
namespace Rows

/-- THE TIED CARD OF 'libevolutionlaw03.PrinterLines'. -/
def printerLinesCard : Claim7 := { stood := { row := printerLinesRow, standIns := [], harness := (true, "ecfb34d13f8032cbd50f1b032422828059cbcb11171a0d610a5822631bb929e5"), looks := true }, kinds := [], alts := [], laidByText := true, laidKinds := [.data, .data, .data, .sentinel, .sentinel], laidTests := true, laidLooks := .later }
def PrinterLinesCardSaid : Prop := Claim7.holds Tryz.pinned (.plain (OpenSpec.ofChange printerLinesSpec)) printerLinesCard

/-- THE SECOND FORM's CARD OF 'libevolutionlaw03.PrinterLines'. -/
def printerLinesUptoCard : Claim7 := { stood := { row := printerLinesUptoRow, standIns := [], harness := (true, "ecfb34d13f8032cbd50f1b032422828059cbcb11171a0d610a5822631bb929e5"), looks := true }, kinds := [], alts := [], laidByText := true, laidKinds := [.data, .data, .data, .sentinel, .sentinel], laidTests := true, laidLooks := .later }
def PrinterLinesUptoCardSaid : Prop := Claim7.holds Tryz.pinned (.plain (OpenSpec.upto printerLinesSpec)) printerLinesUptoCard
end Rows
end Go.Proofs.YtddaefckjmdfoaaGreatDoor
