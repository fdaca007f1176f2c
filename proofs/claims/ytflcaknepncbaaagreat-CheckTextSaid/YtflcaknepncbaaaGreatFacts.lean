/- The closed facts of the row of CheckText. -/
import Derived.Test.YtflcaknepncbaaaGreatRows
import Derived.WalkKit
import Derived.ProofKit
namespace Go.Proofs.YtflcaknepncbaaaGreat
open Go Go.RowKit
theorem fact1 : (Rows.checkTextRow.inPlace == Tryz.pinned.checked.prog.inPlace 3) = true := by kernel_rfl
theorem fact2 : (Rows.checkTextRow.unfollowed == Tryz.pinned.checked.prog.unfollowed 3) = true := by kernel_rfl
theorem fact3 : (Rows.checkTextRow.recurses == Tryz.pinned.checked.prog.recurses 3) = true := by kernel_rfl
theorem fact4 : (Rows.checkTextRow.named == Tryz.pinned.checked.prog.varsNamed 3) = true := by kernel_rfl
theorem facts : joinedFacts Tryz.pinned.checked.prog 3 Tryz.f3 Rows.checkTextSpec Rows.checkTextRow = true := by
  unfold joinedFacts
  rw [fact1, fact2, fact3, fact4]
  kernel_rfl
end Go.Proofs.YtflcaknepncbaaaGreat
