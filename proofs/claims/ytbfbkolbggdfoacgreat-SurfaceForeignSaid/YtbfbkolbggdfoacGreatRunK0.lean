/- SurfaceForeign, run at some of its inputs. -/
import Derived.Test.YtbfbkolbggdfoacGreatRunA
namespace Go.Proofs.YtbfbkolbggdfoacGreat
open Go Go.Ev
def ks0 : List (Nat × Bool) := [(0, false), (2, true)]
theorem run0 : ks0.all (fun x => run x.1 x.2) = true := by kernel_rfl
end Go.Proofs.YtbfbkolbggdfoacGreat
