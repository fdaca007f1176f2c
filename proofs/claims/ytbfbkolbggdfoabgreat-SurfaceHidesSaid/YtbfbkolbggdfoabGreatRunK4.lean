/- SurfaceHides, run at some of its inputs. -/
import Derived.Test.YtbfbkolbggdfoabGreatRunA
namespace Go.Proofs.YtbfbkolbggdfoabGreat
open Go Go.Ev
def ks4 : List (Nat × Bool × Bool) := [(1, false, false), (2, true, false), (4, false, false), (5, true, false), (7, false, false), (8, true, false), (10, false, false), (11, true, false)]
theorem run4 : ks4.all (fun x => run x.1 x.2.1 x.2.2) = true := by kernel_rfl
end Go.Proofs.YtbfbkolbggdfoabGreat
