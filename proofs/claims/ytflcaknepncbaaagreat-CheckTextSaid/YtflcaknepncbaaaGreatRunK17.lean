/- CheckText, run at some of its inputs. -/
import Derived.Test.YtflcaknepncbaaaGreatRunA
namespace Go.Proofs.YtflcaknepncbaaaGreat
open Go Go.Ev
def ks34 : List (Nat × Nat) := [(3, 7), (9, 3), (14, 8), (20, 4)]
theorem run34 : ks34.all (fun x => run x.1 x.2) = true := by kernel_rfl
def ks35 : List (Nat × Nat) := [(3, 8), (9, 4), (15, 0), (20, 5)]
theorem run35 : ks35.all (fun x => run x.1 x.2) = true := by kernel_rfl
end Go.Proofs.YtflcaknepncbaaaGreat
