/- SurfaceHides, run at some of its inputs. -/
import Derived.Test.YtbfbkolbggdfoabGreatRunA
namespace Go.Proofs.YtbfbkolbggdfoabGreat
open Go Go.Ev
def ks5 : List (Nat × Bool × Bool) := [(1, false, true), (2, true, true), (4, false, true), (5, true, true), (7, false, true), (8, true, true), (10, false, true), (11, true, true)]
theorem run5 : ks5.all (fun x => run x.1 x.2.1 x.2.2) = true := by kernel_rfl
end Go.Proofs.YtbfbkolbggdfoabGreat
