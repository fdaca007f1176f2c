/-
  DERIVED. GIVEN WITH THE SEED: THE CARDS: each row of YtbfbkolbggdfoadGreatDoorRows.lean that lists a variable, with what it lists TIED to the program's text (the seventh form; the later family's looks); each row that meets fmt, with fmt's text TOLD by the authors' own Lean function (tested against real Go, not proved from fmt's source: count such statements apart). THE CARD IS WHAT COUNTS. Prove the row's statement (the work); the ties are given (YtbfbkolbggdfoadGreatDoorTie.lean); close each card by the builder's one call (the guide's Derived/Test/ToyasCard.lean, 'card_holds'). Laid BY PROGRAM, IN A SANDBOX (cutbox-door.mjs). By AI agents, Wed Nov 11 2026. No macro, syntax, notation, axiom, sorry.
-/
import Derived.Test.YtbfbkolbggdfoadGreatDoorRows
import GoSem.ClaimSeven
namespace Go.Proofs.YtbfbkolbggdfoadGreatDoor
namespace Rows

/-- THE TIED CARD OF 'libevolutionlaw03.PrinterCases'. -/
def printerCasesCard : Claim7 := { stood := { row := printerCasesRow, standIns := [], harness := (true, "5d3908f5ed39f901bf46c96d45448c0188cfd186272f70a68130cc11703afb31"), looks := true }, kinds := [], alts := [], laidByText := true, laidKinds := [.data, .data, .data, .sentinel, .sentinel], laidTests := true, laidLooks := .later }
def PrinterCasesCardSaid : Prop := Claim7.holds Tryz.pinned (.plain (OpenSpec.ofChange printerCasesSpec)) printerCasesCard

/-- THE SECOND FORM's CARD OF 'libevolutionlaw03.PrinterCases'. -/
def printerCasesUptoCard : Claim7 := { stood := { row := printerCasesUptoRow, standIns := [], harness := (true, "5d3908f5ed39f901bf46c96d45448c0188cfd186272f70a68130cc11703afb31"), looks := true }, kinds := [], alts := [], laidByText := true, laidKinds := [.data, .data, .data, .sentinel, .sentinel], laidTests := true, laidLooks := .later }
def PrinterCasesUptoCardSaid : Prop := Claim7.holds Tryz.pinned (.plain (OpenSpec.upto printerCasesSpec)) printerCasesUptoCard
end Rows
end Go.Proofs.YtbfbkolbggdfoadGreatDoor
