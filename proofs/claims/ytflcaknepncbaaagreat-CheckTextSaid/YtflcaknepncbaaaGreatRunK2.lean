/- CheckText, run at some of its inputs. -/
import Derived.Test.YtflcaknepncbaaaGreatRunA
namespace Go.Proofs.YtflcaknepncbaaaGreat
open Go Go.Ev
def ks4 : List (Nat × Nat) := [(0, 4), (6, 0), (11, 5), (17, 1)]
theorem run4 : ks4.all (fun x => run x.1 x.2) = true := by kernel_rfl
def ks5 : List (Nat × Nat) := [(0, 5), (6, 1), (11, 6), (17, 2)]
theorem run5 : ks5.all (fun x => run x.1 x.2) = true := by kernel_rfl
end Go.Proofs.YtflcaknepncbaaaGreat
