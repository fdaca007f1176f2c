/- CheckText, run at some of its inputs. -/
import Derived.Test.YtflcaknepncbaaaGreatRunA
namespace Go.Proofs.YtflcaknepncbaaaGreat
open Go Go.Ev
def ks48 : List (Nat × Nat) := [(5, 3), (10, 8), (16, 4)]
theorem run48 : ks48.all (fun x => run x.1 x.2) = true := by kernel_rfl
def ks49 : List (Nat × Nat) := [(5, 4), (11, 0), (16, 5)]
theorem run49 : ks49.all (fun x => run x.1 x.2) = true := by kernel_rfl
end Go.Proofs.YtflcaknepncbaaaGreat
