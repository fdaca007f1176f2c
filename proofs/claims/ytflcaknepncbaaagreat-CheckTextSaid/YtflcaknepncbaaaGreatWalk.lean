/- Mod of libevolutionmade returns the residue that is not negative, at every number and every positive modulus below 2147483648. -/
import Derived.Test.YtflcaknepncbaaaGreatEvG
import Derived.Test.YtflcaknepncbaaaGreatProg
import Derived.WalkKit
import Derived.ProofKit
namespace Go.Proofs.YtflcaknepncbaaaGreat
open Go Go.Ev Go.ChangeShapes Go.WideShapes Go.ChangeAt Go.RowKit
theorem mod_walk (x m : Int) (w : World) (hm : 0 < m) (hm2 : m < 2147483648) :
    Calls Tryz.prog 4 #[.int .i64 x, .int .i64 m] w fun e w' => e = .returned (.int .i64 (x % m)) ∧ w' = w := by
  go_enter Tryz.func4, Tryz.ntmps4
  go_wp2
  · have h : Int.tmod x m < 0 := by assumption
    have e := tmod_neg h hm
    have h0 := Int.emod_nonneg x (by omega : m ≠ 0)
    have h1 := Int.emod_lt_of_pos x hm
    have ew : wrap64 (Int.tmod x m + m) = x % m := by rw [e]; unfold wrap64; omega
    rw [ew]
    go_ret
    exact ⟨rfl, rfl⟩
  · have h : 0 ≤ Int.tmod x m := by assumption
    rw [tmod_pos (by omega) hm]
    go_ret
    exact ⟨rfl, rfl⟩
end Go.Proofs.YtflcaknepncbaaaGreat
