/- SyntaxDepths behind its first two statements, run at some values of k. -/
import Derived.Test.YtfohbedfjjlbdaaGreatDoorRunA
namespace Go.Proofs.YtfohbedfjjlbdaaGreatDoor
open Go Go.Ev
def ks11 : List Nat := [24, 23, 22, 21]
theorem run11 : ks11.all suf = true := by kernel_rfl
end Go.Proofs.YtfohbedfjjlbdaaGreatDoor
