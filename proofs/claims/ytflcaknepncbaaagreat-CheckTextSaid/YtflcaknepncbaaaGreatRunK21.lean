/- CheckText, run at some of its inputs. -/
import Derived.Test.YtflcaknepncbaaaGreatRunA
namespace Go.Proofs.YtflcaknepncbaaaGreat
open Go Go.Ev
def ks42 : List (Nat × Nat) := [(4, 6), (10, 2), (15, 7), (21, 3)]
theorem run42 : ks42.all (fun x => run x.1 x.2) = true := by kernel_rfl
def ks43 : List (Nat × Nat) := [(4, 7), (10, 3), (15, 8), (21, 4)]
theorem run43 : ks43.all (fun x => run x.1 x.2) = true := by kernel_rfl
end Go.Proofs.YtflcaknepncbaaaGreat
