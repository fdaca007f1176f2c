/- SurfaceHides, run at some of its inputs. -/
import Derived.Test.YtbfbkolbggdfoabGreatRunA
namespace Go.Proofs.YtbfbkolbggdfoabGreat
open Go Go.Ev
def ks3 : List (Nat × Bool × Bool) := [(0, true, true), (2, false, true), (3, true, true), (5, false, true), (6, true, true), (8, false, true), (9, true, true), (11, false, true)]
theorem run3 : ks3.all (fun x => run x.1 x.2.1 x.2.2) = true := by kernel_rfl
end Go.Proofs.YtbfbkolbggdfoabGreat
