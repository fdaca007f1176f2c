/- SyntaxDepths behind its first two statements, run at some values of k. -/
import Derived.Test.YtfohbedfjjlbdaaGreatDoorRunA
namespace Go.Proofs.YtfohbedfjjlbdaaGreatDoor
open Go Go.Ev
def ks1 : List Nat := [47, 46, 2, 3]
theorem run1 : ks1.all suf = true := by kernel_rfl
end Go.Proofs.YtfohbedfjjlbdaaGreatDoor
