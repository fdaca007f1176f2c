/- CheckText, run at some of its inputs. -/
import Derived.Test.YtflcaknepncbaaaGreatRunA
namespace Go.Proofs.YtflcaknepncbaaaGreat
open Go Go.Ev
def ks30 : List (Nat × Nat) := [(3, 3), (8, 8), (14, 4), (20, 0)]
theorem run30 : ks30.all (fun x => run x.1 x.2) = true := by kernel_rfl
def ks31 : List (Nat × Nat) := [(3, 4), (9, 0), (14, 5), (20, 1)]
theorem run31 : ks31.all (fun x => run x.1 x.2) = true := by kernel_rfl
end Go.Proofs.YtflcaknepncbaaaGreat
