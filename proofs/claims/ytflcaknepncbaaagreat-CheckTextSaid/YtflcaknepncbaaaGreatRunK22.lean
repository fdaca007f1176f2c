/- CheckText, run at some of its inputs. -/
import Derived.Test.YtflcaknepncbaaaGreatRunA
namespace Go.Proofs.YtflcaknepncbaaaGreat
open Go Go.Ev
def ks44 : List (Nat × Nat) := [(4, 8), (10, 4), (16, 0), (21, 5)]
theorem run44 : ks44.all (fun x => run x.1 x.2) = true := by kernel_rfl
def ks45 : List (Nat × Nat) := [(5, 0), (10, 5), (16, 1), (21, 6)]
theorem run45 : ks45.all (fun x => run x.1 x.2) = true := by kernel_rfl
end Go.Proofs.YtflcaknepncbaaaGreat
