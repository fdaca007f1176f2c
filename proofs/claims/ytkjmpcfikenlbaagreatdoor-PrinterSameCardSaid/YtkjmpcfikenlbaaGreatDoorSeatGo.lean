/- A part. -/
import Derived.Test.YtkjmpcfikenlbaaGreatDoorCards
import Derived.SevenTiedAt
import Derived.KernelRfl
set_option linter.all false
namespace Go.Proofs.YtkjmpcfikenlbaaGreatDoor
open Go
theorem goes_by:false=Rows.printerSameRow.goesBy Tryz.pinned.checked.prog:=by kernel_rfl
end Go.Proofs.YtkjmpcfikenlbaaGreatDoor
