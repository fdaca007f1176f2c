/-
  DERIVED. GIVEN WITH THE SEED: THE CARDS: each row of YtfohbedfjjlbdaaGreatDoorRows.lean that lists a variable, with what it lists TIED to the program's text (the seventh form; the later family's looks); each row that meets fmt, with fmt's text TOLD by the authors' own Lean function (tested against real Go, not proved from fmt's source: count such statements apart). THE CARD IS WHAT COUNTS. Prove the row's statement (the work); the ties are given (YtfohbedfjjlbdaaGreatDoorTie.lean); close each card by the builder's one call (the guide's Derived/Test/ToyasCard.lean, 'card_holds'). Laid BY PROGRAM, IN A SANDBOX (cutbox-door.mjs). By AI agents, Wed Nov 11 2026. No macro, syntax, notation, axiom, sorry.
-/
import Derived.Test.YtfohbedfjjlbdaaGreatDoorRows
import GoSem.ClaimSeven
namespace Go.Proofs.YtfohbedfjjlbdaaGreatDoor
namespace Rows

/-- THE TIED CARD OF 'libevolutionlaw02.SyntaxDepths'. -/
def syntaxDepthsCard : Claim7 := { stood := { row := syntaxDepthsRow, standIns := [], harness := (true, "fb2c7a7591c8affaf8b90c20fa4de9460fc124de1b62321c9fb94e9d7f91e24d"), looks := true }, kinds := [], alts := [], laidByText := true, laidKinds := [.data, .data, .data, .sentinel, .sentinel], laidTests := true, laidLooks := .later }
def SyntaxDepthsCardSaid : Prop := Claim7.holds Tryz.pinned (.plain (OpenSpec.ofChange syntaxDepthsSpec)) syntaxDepthsCard

/-- THE SECOND FORM's CARD OF 'libevolutionlaw02.SyntaxDepths'. -/
def syntaxDepthsUptoCard : Claim7 := { stood := { row := syntaxDepthsUptoRow, standIns := [], harness := (true, "fb2c7a7591c8affaf8b90c20fa4de9460fc124de1b62321c9fb94e9d7f91e24d"), looks := true }, kinds := [], alts := [], laidByText := true, laidKinds := [.data, .data, .data, .sentinel, .sentinel], laidTests := true, laidLooks := .later }
def SyntaxDepthsUptoCardSaid : Prop := Claim7.holds Tryz.pinned (.plain (OpenSpec.upto syntaxDepthsSpec)) syntaxDepthsUptoCard
end Rows
end Go.Proofs.YtfohbedfjjlbdaaGreatDoor
