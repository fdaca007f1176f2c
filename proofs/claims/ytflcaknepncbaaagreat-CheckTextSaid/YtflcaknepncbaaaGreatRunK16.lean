/- CheckText, run at some of its inputs. -/
import Derived.Test.YtflcaknepncbaaaGreatRunA
namespace Go.Proofs.YtflcaknepncbaaaGreat
open Go Go.Ev
def ks32 : List (Nat × Nat) := [(3, 5), (9, 1), (14, 6), (20, 2)]
theorem run32 : ks32.all (fun x => run x.1 x.2) = true := by kernel_rfl
def ks33 : List (Nat × Nat) := [(3, 6), (9, 2), (14, 7), (20, 3)]
theorem run33 : ks33.all (fun x => run x.1 x.2) = true := by kernel_rfl
end Go.Proofs.YtflcaknepncbaaaGreat
