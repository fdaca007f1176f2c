/- The runs of SurfaceForeign by the evaluator: what is run; awake once. -/
import Derived.Test.YtbfbkolbggdfoacGreatEvG
import Derived.Test.YtbfbkolbggdfoacGreatProg
import Derived.KernelRfl
namespace Go.Proofs.YtbfbkolbggdfoacGreat
open Go Go.Ev
noncomputable def ext : Nat → Option Ext := withM 4 (withT 7 (ext2 304 267))
/-- the call at an input of these residues, and at these bools -/
noncomputable def run (r0 : Nat) (b1 : Bool) : Bool := callF Tryz.prog ext 100000 3 [.resid 3 5 r0, .bool b1] emptyHeap fun r _ => isT r
theorem mixed : Tryz.prog.follows .mixedOrders = true := by kernel_rfl
theorem named : Named Tryz.prog := named_of (by kernel_rfl)
theorem awake_run : callF Tryz.prog (ext2 304 267) 100000 7 [] emptyHeap (fun r _ => isT r) = true := by kernel_rfl
end Go.Proofs.YtbfbkolbggdfoacGreat
