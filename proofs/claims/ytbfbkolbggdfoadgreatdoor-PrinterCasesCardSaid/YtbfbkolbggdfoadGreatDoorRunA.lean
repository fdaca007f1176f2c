/- The runs of PrinterCases by the evaluator: what is run; awake once. -/
import Derived.Test.YtbfbkolbggdfoadGreatDoorEvG
import Derived.Test.YtbfbkolbggdfoadGreatDoorProg
import Derived.KernelRfl
namespace Go.Proofs.YtbfbkolbggdfoadGreatDoor
open Go Go.Ev
noncomputable def ext : Nat → Option Ext := withT 7 (ext2 121 120)
/-- the call at an input of these residues, and at these bools -/
noncomputable def run (r0 : Nat) (b1 : Bool) (b2 : Bool) : Bool := callF Tryz.prog ext 100000 3 [.resid 4 7 r0, .bool b1, .bool b2] emptyHeap fun r _ => isT r
theorem mixed : Tryz.prog.follows .mixedOrders = true := by kernel_rfl
theorem named : Named Tryz.prog := named_of (by kernel_rfl)
theorem awake_run : callF Tryz.prog (ext2 121 120) 100000 7 [] emptyHeap (fun r _ => isT r) = true := by kernel_rfl
end Go.Proofs.YtbfbkolbggdfoadGreatDoor
