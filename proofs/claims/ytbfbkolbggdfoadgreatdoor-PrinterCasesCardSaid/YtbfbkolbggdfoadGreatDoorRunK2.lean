/- PrinterCases, run at some of its inputs. -/
import Derived.Test.YtbfbkolbggdfoadGreatDoorRunA
namespace Go.Proofs.YtbfbkolbggdfoadGreatDoor
open Go Go.Ev
def ks2 : List (Nat × Bool × Bool) := [(0, true, false), (1, false, true), (2, false, false), (2, true, true), (3, true, false), (4, false, true), (5, false, false), (5, true, true), (6, true, false)]
theorem run2 : ks2.all (fun x => run x.1 x.2.1 x.2.2) = true := by kernel_rfl
end Go.Proofs.YtbfbkolbggdfoadGreatDoor
