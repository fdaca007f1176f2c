/-
  DERIVED. GIVEN WITH THE SEED: THE CARDS: each row of YtehnkiaepkldiaaGreatDoorRows.lean that lists a variable, with what it lists TIED to the program's text (the seventh form; the later family's looks); each row that meets fmt, with fmt's text TOLD by the authors' own Lean function (tested against real Go, not proved from fmt's source: count such statements apart). THE CARD IS WHAT COUNTS. Prove the row's statement (the work); the ties are given (YtehnkiaepkldiaaGreatDoorTie.lean); close each card by the builder's one call (the guide's Derived/Test/ToyasCard.lean, 'card_holds'). Laid BY PROGRAM, IN A SANDBOX (cutbox-door.mjs). By AI agents, Wed Nov 11 2026. No macro, syntax, notation, axiom, sorry.
-/
import Derived.Test.YtehnkiaepkldiaaGreatDoorRows
import GoSem.ClaimSeven
namespace Go.Proofs.YtehnkiaepkldiaaGreatDoor
namespace Rows

/-- THE TIED CARD OF 'libevolutionlaw05.ScopePlaces'. -/
def scopePlacesCard : Claim7 := { stood := { row := scopePlacesRow, standIns := [], harness := (true, "4ab65f33dcb2079cc285439ef53f08e06ddb87ac1216d70d6ea8a591096091da"), looks := true }, kinds := [], alts := [], laidByText := true, laidKinds := [.data, .data, .data, .sentinel, .sentinel], laidTests := true, laidLooks := .later }
def ScopePlacesCardSaid : Prop := Claim7.holds Tryz.pinned (.plain (OpenSpec.ofChange scopePlacesSpec)) scopePlacesCard

/-- THE SECOND FORM's CARD OF 'libevolutionlaw05.ScopePlaces'. -/
def scopePlacesUptoCard : Claim7 := { stood := { row := scopePlacesUptoRow, standIns := [], harness := (true, "4ab65f33dcb2079cc285439ef53f08e06ddb87ac1216d70d6ea8a591096091da"), looks := true }, kinds := [], alts := [], laidByText := true, laidKinds := [.data, .data, .data, .sentinel, .sentinel], laidTests := true, laidLooks := .later }
def ScopePlacesUptoCardSaid : Prop := Claim7.holds Tryz.pinned (.plain (OpenSpec.upto scopePlacesSpec)) scopePlacesUptoCard
end Rows
end Go.Proofs.YtehnkiaepkldiaaGreatDoor
