/- CheckText, run at some of its inputs. -/
import Derived.Test.YtflcaknepncbaaaGreatRunA
namespace Go.Proofs.YtflcaknepncbaaaGreat
open Go Go.Ev
def ks36 : List (Nat × Nat) := [(4, 0), (9, 5), (15, 1), (20, 6)]
theorem run36 : ks36.all (fun x => run x.1 x.2) = true := by kernel_rfl
def ks37 : List (Nat × Nat) := [(4, 1), (9, 6), (15, 2), (20, 7)]
theorem run37 : ks37.all (fun x => run x.1 x.2) = true := by kernel_rfl
end Go.Proofs.YtflcaknepncbaaaGreat
