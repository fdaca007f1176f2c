/- SurfaceHides, run at some of its inputs. -/
import Derived.Test.YtbfbkolbggdfoabGreatRunA
namespace Go.Proofs.YtbfbkolbggdfoabGreat
open Go Go.Ev
def ks2 : List (Nat × Bool × Bool) := [(0, true, false), (2, false, false), (3, true, false), (5, false, false), (6, true, false), (8, false, false), (9, true, false), (11, false, false)]
theorem run2 : ks2.all (fun x => run x.1 x.2.1 x.2.2) = true := by kernel_rfl
end Go.Proofs.YtbfbkolbggdfoabGreat
