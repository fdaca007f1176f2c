/- The runs of SyntaxDepths: its first two statements at each of the 256 inputs, and awake once. -/
import Derived.Test.YtfohbedfjjlbdaaGreatDoorEvG
import Derived.Test.YtfohbedfjjlbdaaGreatDoorProg
import Derived.KernelRfl
namespace Go.Proofs.YtfohbedfjjlbdaaGreatDoor
open Go Go.Ev
noncomputable def ext : Nat → Option Ext := withT 6 (ext2 119 140)
/-- behind the first two statements k is n mod 50 -/
noncomputable def pre (n : Nat) : Bool := preOk Tryz.prog 2 3 [.int 4 n] [(3, .int 3 (n % 50))]
/-- what stands behind them returns true at k -/
noncomputable def suf (k : Nat) : Bool := sufOk Tryz.prog ext 100000 2 3 [(3, .int 3 k)]
def below : Nat → (Nat → Bool) → Bool
  | 0, _ => true
  | n + 1, f => f n && below n f
theorem below_spec {f : Nat → Bool} : ∀ {n : Nat}, below n f = true → ∀ k, k < n → f k = true
  | 0, _, k, hk => by omega
  | n + 1, h, k, hk => by
    unfold below at h
    rw [Bool.and_eq_true] at h
    by_cases e : k = n
    · rw [e]; exact h.1
    · exact below_spec h.2 k (by omega)
theorem mixed : Tryz.prog.follows .mixedOrders = true := by kernel_rfl
theorem named : Named Tryz.prog := named_of (by kernel_rfl)
theorem awake_run : callF Tryz.prog (ext2 119 140) 100000 6 [] emptyHeap (fun r _ => isT r) = true := by kernel_rfl
theorem pre_run : below 256 pre = true := by kernel_rfl
end Go.Proofs.YtfohbedfjjlbdaaGreatDoor
