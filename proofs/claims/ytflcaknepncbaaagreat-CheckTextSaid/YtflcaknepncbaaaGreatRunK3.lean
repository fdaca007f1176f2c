/- CheckText, run at some of its inputs. -/
import Derived.Test.YtflcaknepncbaaaGreatRunA
namespace Go.Proofs.YtflcaknepncbaaaGreat
open Go Go.Ev
def ks6 : List (Nat × Nat) := [(0, 6), (6, 2), (11, 7), (17, 3)]
theorem run6 : ks6.all (fun x => run x.1 x.2) = true := by kernel_rfl
def ks7 : List (Nat × Nat) := [(0, 7), (6, 3), (11, 8), (17, 4)]
theorem run7 : ks7.all (fun x => run x.1 x.2) = true := by kernel_rfl
end Go.Proofs.YtflcaknepncbaaaGreat
