/- CheckText, run at some of its inputs. -/
import Derived.Test.YtflcaknepncbaaaGreatRunA
namespace Go.Proofs.YtflcaknepncbaaaGreat
open Go Go.Ev
def ks38 : List (Nat × Nat) := [(4, 2), (9, 7), (15, 3), (20, 8)]
theorem run38 : ks38.all (fun x => run x.1 x.2) = true := by kernel_rfl
def ks39 : List (Nat × Nat) := [(4, 3), (9, 8), (15, 4), (21, 0)]
theorem run39 : ks39.all (fun x => run x.1 x.2) = true := by kernel_rfl
end Go.Proofs.YtflcaknepncbaaaGreat
