/- CheckText, run at some of its inputs. -/
import Derived.Test.YtflcaknepncbaaaGreatRunA
namespace Go.Proofs.YtflcaknepncbaaaGreat
open Go Go.Ev
def ks18 : List (Nat × Nat) := [(2, 0), (7, 5), (13, 1), (18, 6)]
theorem run18 : ks18.all (fun x => run x.1 x.2) = true := by kernel_rfl
def ks19 : List (Nat × Nat) := [(2, 1), (7, 6), (13, 2), (18, 7)]
theorem run19 : ks19.all (fun x => run x.1 x.2) = true := by kernel_rfl
end Go.Proofs.YtflcaknepncbaaaGreat
