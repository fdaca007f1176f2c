/- SurfaceForeign, run at some of its inputs. -/
import Derived.Test.YtbfbkolbggdfoacGreatRunA
namespace Go.Proofs.YtbfbkolbggdfoacGreat
open Go Go.Ev
def ks2 : List (Nat × Bool) := [(1, false), (3, true)]
theorem run2 : ks2.all (fun x => run x.1 x.2) = true := by kernel_rfl
end Go.Proofs.YtbfbkolbggdfoacGreat
