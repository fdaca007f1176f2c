/- SyntaxDepths behind its first two statements, run at some values of k. -/
import Derived.Test.YtfohbedfjjlbdaaGreatDoorRunA
namespace Go.Proofs.YtfohbedfjjlbdaaGreatDoor
open Go Go.Ev
def ks2 : List Nat := [45, 44, 4, 5]
theorem run2 : ks2.all suf = true := by kernel_rfl
end Go.Proofs.YtfohbedfjjlbdaaGreatDoor
