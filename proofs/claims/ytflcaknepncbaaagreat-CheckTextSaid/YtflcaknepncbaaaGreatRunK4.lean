/- CheckText, run at some of its inputs. -/
import Derived.Test.YtflcaknepncbaaaGreatRunA
namespace Go.Proofs.YtflcaknepncbaaaGreat
open Go Go.Ev
def ks8 : List (Nat × Nat) := [(0, 8), (6, 4), (12, 0), (17, 5)]
theorem run8 : ks8.all (fun x => run x.1 x.2) = true := by kernel_rfl
def ks9 : List (Nat × Nat) := [(1, 0), (6, 5), (12, 1), (17, 6)]
theorem run9 : ks9.all (fun x => run x.1 x.2) = true := by kernel_rfl
end Go.Proofs.YtflcaknepncbaaaGreat
