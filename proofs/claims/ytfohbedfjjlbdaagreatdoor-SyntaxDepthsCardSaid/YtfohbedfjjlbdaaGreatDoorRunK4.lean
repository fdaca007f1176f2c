/- SyntaxDepths behind its first two statements, run at some values of k. -/
import Derived.Test.YtfohbedfjjlbdaaGreatDoorRunA
namespace Go.Proofs.YtfohbedfjjlbdaaGreatDoor
open Go Go.Ev
def ks4 : List Nat := [41, 40, 8, 9]
theorem run4 : ks4.all suf = true := by kernel_rfl
end Go.Proofs.YtfohbedfjjlbdaaGreatDoor
