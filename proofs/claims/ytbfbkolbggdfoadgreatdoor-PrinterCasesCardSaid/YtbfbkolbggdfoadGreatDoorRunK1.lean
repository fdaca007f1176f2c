/- PrinterCases, run at some of its inputs. -/
import Derived.Test.YtbfbkolbggdfoadGreatDoorRunA
namespace Go.Proofs.YtbfbkolbggdfoadGreatDoor
open Go Go.Ev
def ks1 : List (Nat × Bool × Bool) := [(0, false, true), (1, false, false), (1, true, true), (2, true, false), (3, false, true), (4, false, false), (4, true, true), (5, true, false), (6, false, true)]
theorem run1 : ks1.all (fun x => run x.1 x.2.1 x.2.2) = true := by kernel_rfl
end Go.Proofs.YtbfbkolbggdfoadGreatDoor
