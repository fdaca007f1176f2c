/- CheckText, run at some of its inputs. -/
import Derived.Test.YtflcaknepncbaaaGreatRunA
namespace Go.Proofs.YtflcaknepncbaaaGreat
open Go Go.Ev
def ks10 : List (Nat × Nat) := [(1, 1), (6, 6), (12, 2), (17, 7)]
theorem run10 : ks10.all (fun x => run x.1 x.2) = true := by kernel_rfl
def ks11 : List (Nat × Nat) := [(1, 2), (6, 7), (12, 3), (17, 8)]
theorem run11 : ks11.all (fun x => run x.1 x.2) = true := by kernel_rfl
end Go.Proofs.YtflcaknepncbaaaGreat
