/- SurfaceHides, run at some of its inputs. -/
import Derived.Test.YtbfbkolbggdfoabGreatRunA
namespace Go.Proofs.YtbfbkolbggdfoabGreat
open Go Go.Ev
def ks0 : List (Nat × Bool × Bool) := [(0, false, false), (1, true, false), (3, false, false), (4, true, false), (6, false, false), (7, true, false), (9, false, false), (10, true, false)]
theorem run0 : ks0.all (fun x => run x.1 x.2.1 x.2.2) = true := by kernel_rfl
end Go.Proofs.YtbfbkolbggdfoabGreat
