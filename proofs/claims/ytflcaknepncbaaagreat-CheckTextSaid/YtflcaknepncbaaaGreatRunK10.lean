/- CheckText, run at some of its inputs. -/
import Derived.Test.YtflcaknepncbaaaGreatRunA
namespace Go.Proofs.YtflcaknepncbaaaGreat
open Go Go.Ev
def ks20 : List (Nat × Nat) := [(2, 2), (7, 7), (13, 3), (18, 8)]
theorem run20 : ks20.all (fun x => run x.1 x.2) = true := by kernel_rfl
def ks21 : List (Nat × Nat) := [(2, 3), (7, 8), (13, 4), (19, 0)]
theorem run21 : ks21.all (fun x => run x.1 x.2) = true := by kernel_rfl
end Go.Proofs.YtflcaknepncbaaaGreat
