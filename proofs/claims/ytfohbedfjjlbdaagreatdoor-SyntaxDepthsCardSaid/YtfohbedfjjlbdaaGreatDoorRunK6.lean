/- SyntaxDepths behind its first two statements, run at some values of k. -/
import Derived.Test.YtfohbedfjjlbdaaGreatDoorRunA
namespace Go.Proofs.YtfohbedfjjlbdaaGreatDoor
open Go Go.Ev
def ks6 : List Nat := [37, 36, 12, 13]
theorem run6 : ks6.all suf = true := by kernel_rfl
end Go.Proofs.YtfohbedfjjlbdaaGreatDoor
