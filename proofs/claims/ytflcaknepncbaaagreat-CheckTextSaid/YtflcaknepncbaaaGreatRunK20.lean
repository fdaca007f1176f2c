/- CheckText, run at some of its inputs. -/
import Derived.Test.YtflcaknepncbaaaGreatRunA
namespace Go.Proofs.YtflcaknepncbaaaGreat
open Go Go.Ev
def ks40 : List (Nat × Nat) := [(4, 4), (10, 0), (15, 5), (21, 1)]
theorem run40 : ks40.all (fun x => run x.1 x.2) = true := by kernel_rfl
def ks41 : List (Nat × Nat) := [(4, 5), (10, 1), (15, 6), (21, 2)]
theorem run41 : ks41.all (fun x => run x.1 x.2) = true := by kernel_rfl
end Go.Proofs.YtflcaknepncbaaaGreat
