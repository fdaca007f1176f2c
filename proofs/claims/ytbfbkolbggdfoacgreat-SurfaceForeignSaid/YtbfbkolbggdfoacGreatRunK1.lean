/- SurfaceForeign, run at some of its inputs. -/
import Derived.Test.YtbfbkolbggdfoacGreatRunA
namespace Go.Proofs.YtbfbkolbggdfoacGreat
open Go Go.Ev
def ks1 : List (Nat × Bool) := [(0, true), (3, false)]
theorem run1 : ks1.all (fun x => run x.1 x.2) = true := by kernel_rfl
end Go.Proofs.YtbfbkolbggdfoacGreat
