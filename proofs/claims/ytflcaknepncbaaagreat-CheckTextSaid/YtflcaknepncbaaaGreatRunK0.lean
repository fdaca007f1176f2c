/- CheckText, run at some of its inputs. -/
import Derived.Test.YtflcaknepncbaaaGreatRunA
namespace Go.Proofs.YtflcaknepncbaaaGreat
open Go Go.Ev
def ks0 : List (Nat × Nat) := [(0, 0), (5, 5), (11, 1), (16, 6)]
theorem run0 : ks0.all (fun x => run x.1 x.2) = true := by kernel_rfl
def ks1 : List (Nat × Nat) := [(0, 1), (5, 6), (11, 2), (16, 7)]
theorem run1 : ks1.all (fun x => run x.1 x.2) = true := by kernel_rfl
end Go.Proofs.YtflcaknepncbaaaGreat
