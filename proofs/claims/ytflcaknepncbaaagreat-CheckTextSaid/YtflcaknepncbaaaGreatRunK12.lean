/- CheckText, run at some of its inputs. -/
import Derived.Test.YtflcaknepncbaaaGreatRunA
namespace Go.Proofs.YtflcaknepncbaaaGreat
open Go Go.Ev
def ks24 : List (Nat × Nat) := [(2, 6), (8, 2), (13, 7), (19, 3)]
theorem run24 : ks24.all (fun x => run x.1 x.2) = true := by kernel_rfl
def ks25 : List (Nat × Nat) := [(2, 7), (8, 3), (13, 8), (19, 4)]
theorem run25 : ks25.all (fun x => run x.1 x.2) = true := by kernel_rfl
end Go.Proofs.YtflcaknepncbaaaGreat
