/- PrinterCases, run at some of its inputs. -/
import Derived.Test.YtbfbkolbggdfoadGreatDoorRunA
namespace Go.Proofs.YtbfbkolbggdfoadGreatDoor
open Go Go.Ev
def ks0 : List (Nat × Bool × Bool) := [(0, false, false), (0, true, true), (1, true, false), (2, false, true), (3, false, false), (3, true, true), (4, true, false), (5, false, true), (6, false, false), (6, true, true)]
theorem run0 : ks0.all (fun x => run x.1 x.2.1 x.2.2) = true := by kernel_rfl
end Go.Proofs.YtbfbkolbggdfoadGreatDoor
