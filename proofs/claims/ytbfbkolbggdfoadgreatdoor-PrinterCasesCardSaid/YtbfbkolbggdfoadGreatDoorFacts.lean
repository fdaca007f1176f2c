/- The closed facts of the row of PrinterCases. -/
import Derived.Test.YtbfbkolbggdfoadGreatDoorRows
import Derived.WalkKit
import Derived.ProofKit
namespace Go.Proofs.YtbfbkolbggdfoadGreatDoor
open Go Go.RowKit
theorem fact1 : (Rows.printerCasesRow.inPlace == Tryz.pinned.checked.prog.inPlace 3) = true := by kernel_rfl
theorem fact2 : (Rows.printerCasesRow.unfollowed == Tryz.pinned.checked.prog.unfollowed 3) = true := by kernel_rfl
theorem fact3 : (Rows.printerCasesRow.recurses == Tryz.pinned.checked.prog.recurses 3) = true := by kernel_rfl
theorem fact4 : (Rows.printerCasesRow.named == Tryz.pinned.checked.prog.varsNamed 3) = true := by kernel_rfl
theorem facts : joinedFacts Tryz.pinned.checked.prog 3 Tryz.f3 Rows.printerCasesSpec Rows.printerCasesRow = true := by
  unfold joinedFacts
  rw [fact1, fact2, fact3, fact4]
  kernel_rfl
end Go.Proofs.YtbfbkolbggdfoadGreatDoor
