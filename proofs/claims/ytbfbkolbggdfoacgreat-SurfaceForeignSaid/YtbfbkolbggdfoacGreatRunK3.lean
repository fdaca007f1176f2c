/- SurfaceForeign, run at some of its inputs. -/
import Derived.Test.YtbfbkolbggdfoacGreatRunA
namespace Go.Proofs.YtbfbkolbggdfoacGreat
open Go Go.Ev
def ks3 : List (Nat × Bool) := [(1, true), (4, false)]
theorem run3 : ks3.all (fun x => run x.1 x.2) = true := by kernel_rfl
end Go.Proofs.YtbfbkolbggdfoacGreat
