/- CheckText, run at some of its inputs. -/
import Derived.Test.YtflcaknepncbaaaGreatRunA
namespace Go.Proofs.YtflcaknepncbaaaGreat
open Go Go.Ev
def ks12 : List (Nat × Nat) := [(1, 3), (6, 8), (12, 4), (18, 0)]
theorem run12 : ks12.all (fun x => run x.1 x.2) = true := by kernel_rfl
def ks13 : List (Nat × Nat) := [(1, 4), (7, 0), (12, 5), (18, 1)]
theorem run13 : ks13.all (fun x => run x.1 x.2) = true := by kernel_rfl
end Go.Proofs.YtflcaknepncbaaaGreat
