/- CheckText, run at some of its inputs. -/
import Derived.Test.YtflcaknepncbaaaGreatRunA
namespace Go.Proofs.YtflcaknepncbaaaGreat
open Go Go.Ev
def ks22 : List (Nat × Nat) := [(2, 4), (8, 0), (13, 5), (19, 1)]
theorem run22 : ks22.all (fun x => run x.1 x.2) = true := by kernel_rfl
def ks23 : List (Nat × Nat) := [(2, 5), (8, 1), (13, 6), (19, 2)]
theorem run23 : ks23.all (fun x => run x.1 x.2) = true := by kernel_rfl
end Go.Proofs.YtflcaknepncbaaaGreat
