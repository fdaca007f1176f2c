/- A part. -/
import Derived.Test.YtkjmpcfikenlbaaGreatDoorProg
import Derived.Test.YtkjmpcfikenlbaaGreatDoorT5
import Derived.Test.YtkjmpcfikenlbaaGreatDoorE10
set_option linter.all false
namespace Go.Tx
open Go Go.Ev Go.Proofs
theorem mixed:Tryz.prog.follows .mixedOrders=true:=by kernel_rfl
theorem named:oL Tryz.prog:=auf (by kernel_rfl)
theorem awake_run:P6 (N6 Tryz.prog) je (ZN 276 290) 100000 5 [] yD (λr _=>Qn r)=true:=by kernel_rfl
end Go.Tx
