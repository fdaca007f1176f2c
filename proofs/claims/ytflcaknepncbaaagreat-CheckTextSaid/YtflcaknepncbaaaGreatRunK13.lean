/- CheckText, run at some of its inputs. -/
import Derived.Test.YtflcaknepncbaaaGreatRunA
namespace Go.Proofs.YtflcaknepncbaaaGreat
open Go Go.Ev
def ks26 : List (Nat × Nat) := [(2, 8), (8, 4), (14, 0), (19, 5)]
theorem run26 : ks26.all (fun x => run x.1 x.2) = true := by kernel_rfl
def ks27 : List (Nat × Nat) := [(3, 0), (8, 5), (14, 1), (19, 6)]
theorem run27 : ks27.all (fun x => run x.1 x.2) = true := by kernel_rfl
end Go.Proofs.YtflcaknepncbaaaGreat
