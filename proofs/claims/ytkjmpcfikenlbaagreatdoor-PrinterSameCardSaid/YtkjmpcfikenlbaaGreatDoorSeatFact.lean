/- A part. -/
import Derived.Test.YtkjmpcfikenlbaaGreatDoorRows
import Derived.Test.YtkjmpcfikenlbaaGreatDoorCards
import Derived.Test.YtkjmpcfikenlbaaGreatDoorTie
import Derived.WalkKit
import Derived.ProofKit
import Derived.OpenShut
import Derived.ChangeSlices
import Derived.LaidMore
import Derived.LaidOnce
import Derived.Stop.Joined
import Derived.SevenTiedAt
set_option linter.all false
namespace Go.Proofs.YtkjmpcfikenlbaaGreatDoor
open Go Go.ChangeShapes Go.WideShapes Go.ChangeAt Go.RowKit
theorem fact1:(Rows.printerSameRow.inPlace==Tryz.pinned.checked.prog.inPlace 3)=true:=by kernel_rfl
theorem fact2:(Rows.printerSameRow.unfollowed==Tryz.pinned.checked.prog.unfollowed 3)=true:=by kernel_rfl
theorem fact3:(Rows.printerSameRow.recurses==Tryz.pinned.checked.prog.recurses 3)=true:=by kernel_rfl
theorem fact4:(Rows.printerSameRow.named==Tryz.pinned.checked.prog.varsNamed 3)=true:=by kernel_rfl
theorem facts:joinedFacts Tryz.pinned.checked.prog 3 Tryz.f3 Rows.printerSameSpec Rows.printerSameRow=true:=by
 unfold joinedFacts
 rw[fact1,fact2,fact3,fact4]
 kernel_rfl
end Go.Proofs.YtkjmpcfikenlbaaGreatDoor
