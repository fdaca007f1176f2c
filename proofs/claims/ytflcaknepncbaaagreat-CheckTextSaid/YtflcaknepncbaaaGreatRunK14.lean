/- CheckText, run at some of its inputs. -/
import Derived.Test.YtflcaknepncbaaaGreatRunA
namespace Go.Proofs.YtflcaknepncbaaaGreat
open Go Go.Ev
def ks28 : List (Nat × Nat) := [(3, 1), (8, 6), (14, 2), (19, 7)]
theorem run28 : ks28.all (fun x => run x.1 x.2) = true := by kernel_rfl
def ks29 : List (Nat × Nat) := [(3, 2), (8, 7), (14, 3), (19, 8)]
theorem run29 : ks29.all (fun x => run x.1 x.2) = true := by kernel_rfl
end Go.Proofs.YtflcaknepncbaaaGreat
