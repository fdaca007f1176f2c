/- SurfaceHides, run at some of its inputs. -/
import Derived.Test.YtbfbkolbggdfoabGreatRunA
namespace Go.Proofs.YtbfbkolbggdfoabGreat
open Go Go.Ev
def ks1 : List (Nat × Bool × Bool) := [(0, false, true), (1, true, true), (3, false, true), (4, true, true), (6, false, true), (7, true, true), (9, false, true), (10, true, true)]
theorem run1 : ks1.all (fun x => run x.1 x.2.1 x.2.2) = true := by kernel_rfl
end Go.Proofs.YtbfbkolbggdfoabGreat
