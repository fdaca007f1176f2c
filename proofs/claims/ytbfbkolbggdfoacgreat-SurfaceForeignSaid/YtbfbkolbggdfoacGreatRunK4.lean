/- SurfaceForeign, run at some of its inputs. -/
import Derived.Test.YtbfbkolbggdfoacGreatRunA
namespace Go.Proofs.YtbfbkolbggdfoacGreat
open Go Go.Ev
def ks4 : List (Nat × Bool) := [(2, false), (4, true)]
theorem run4 : ks4.all (fun x => run x.1 x.2) = true := by kernel_rfl
end Go.Proofs.YtbfbkolbggdfoacGreat
