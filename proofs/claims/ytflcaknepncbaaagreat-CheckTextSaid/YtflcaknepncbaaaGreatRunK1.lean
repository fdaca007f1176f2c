/- CheckText, run at some of its inputs. -/
import Derived.Test.YtflcaknepncbaaaGreatRunA
namespace Go.Proofs.YtflcaknepncbaaaGreat
open Go Go.Ev
def ks2 : List (Nat × Nat) := [(0, 2), (5, 7), (11, 3), (16, 8)]
theorem run2 : ks2.all (fun x => run x.1 x.2) = true := by kernel_rfl
def ks3 : List (Nat × Nat) := [(0, 3), (5, 8), (11, 4), (17, 0)]
theorem run3 : ks3.all (fun x => run x.1 x.2) = true := by kernel_rfl
end Go.Proofs.YtflcaknepncbaaaGreat
