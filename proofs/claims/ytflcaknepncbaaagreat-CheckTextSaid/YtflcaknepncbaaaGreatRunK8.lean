/- CheckText, run at some of its inputs. -/
import Derived.Test.YtflcaknepncbaaaGreatRunA
namespace Go.Proofs.YtflcaknepncbaaaGreat
open Go Go.Ev
def ks16 : List (Nat × Nat) := [(1, 7), (7, 3), (12, 8), (18, 4)]
theorem run16 : ks16.all (fun x => run x.1 x.2) = true := by kernel_rfl
def ks17 : List (Nat × Nat) := [(1, 8), (7, 4), (13, 0), (18, 5)]
theorem run17 : ks17.all (fun x => run x.1 x.2) = true := by kernel_rfl
end Go.Proofs.YtflcaknepncbaaaGreat
