/- CheckText, run at some of its inputs. -/
import Derived.Test.YtflcaknepncbaaaGreatRunA
namespace Go.Proofs.YtflcaknepncbaaaGreat
open Go Go.Ev
def ks46 : List (Nat × Nat) := [(5, 1), (10, 6), (16, 2), (21, 7)]
theorem run46 : ks46.all (fun x => run x.1 x.2) = true := by kernel_rfl
def ks47 : List (Nat × Nat) := [(5, 2), (10, 7), (16, 3), (21, 8)]
theorem run47 : ks47.all (fun x => run x.1 x.2) = true := by kernel_rfl
end Go.Proofs.YtflcaknepncbaaaGreat
