/- The check of the start, run once. -/
import Derived.Test.YtehnkiaepkldiaaGreatDoorSpB
namespace Go.Sp
open Go Go.Ev Go.Proofs
theorem mixed : Tryz.prog.follows .mixedOrders = true := by kernel_rfl
theorem named : Named Tryz.prog := named_of (by kernel_rfl)
theorem awake_run : callF (pgF Tryz.prog) E0 (ext2 259 280) 100000 5 [] emptyHeap (fun r _ => isT r) = true := by kernel_rfl
end Go.Sp
