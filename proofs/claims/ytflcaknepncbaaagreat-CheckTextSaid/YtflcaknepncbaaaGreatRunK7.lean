/- CheckText, run at some of its inputs. -/
import Derived.Test.YtflcaknepncbaaaGreatRunA
namespace Go.Proofs.YtflcaknepncbaaaGreat
open Go Go.Ev
def ks14 : List (Nat × Nat) := [(1, 5), (7, 1), (12, 6), (18, 2)]
theorem run14 : ks14.all (fun x => run x.1 x.2) = true := by kernel_rfl
def ks15 : List (Nat × Nat) := [(1, 6), (7, 2), (12, 7), (18, 3)]
theorem run15 : ks15.all (fun x => run x.1 x.2) = true := by kernel_rfl
end Go.Proofs.YtflcaknepncbaaaGreat
