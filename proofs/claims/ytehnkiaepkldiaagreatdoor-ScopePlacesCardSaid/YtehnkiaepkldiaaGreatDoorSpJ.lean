/- The walks of Light, Left, Mod and Next. -/
import Derived.Test.YtehnkiaepkldiaaGreatDoorProg
import Derived.WalkKit
import Derived.ProofKit
import Derived.WalkMore
import Derived.ScopeJumps
import Derived.RegionTactic
import Derived.ChangeAlike
import Derived.Deep.RegionWith
import Derived.Deep.TreeCalls
import Derived.Deep.QuietTactic
import Derived.BigQuiet
import Derived.Test.YtehnkiaepkldiaaGreatDoorEvG
import Derived.Test.YtehnkiaepkldiaaGreatDoorSpA
import Derived.Below
import Derived.OneCell
namespace Go.Sp
open Go Go.ChangeShapes Go.WideShapes Go.ChangeAt Go.RowKit Go.Deep Go.Proofs
set_option linter.unusedVariables false
theorem light_walk (ao : Option Addr) (len cap : Nat) (w : World) :
    Calls Tryz.prog 4 #[.slice ao len cap] w fun e w' => e = .returned (.bool (decide ((len : Int) ≤ 700))) ∧ w' = w := by
  go_enter Tryz.func4, Tryz.ntmps4
  go_wp2
  go_ret
  exact ⟨rfl, rfl⟩
set_option maxHeartbeats 1600000 in
set_option maxRecDepth 1000000 in
theorem left_walk (b : Nat) (ao : Option Addr) (len cap : Nat) (i : Int) (w : World) (h0 : w.cell? ⟨b, 0, none⟩ = some (.slice ao len cap)) (h1 : w.cell? ⟨b, 1, none⟩ = some (.int .i64 i)) :
    Calls Tryz.prog 41 #[.pointer (some ⟨b, 0, none⟩)] w fun e w' => e = .returned (.bool (decide (i < (len : Int)))) ∧ ∃ n, w' = w.drewN n := by
  go_enter Tryz.func41, Tryz.ntmps41
  go_wp2_with fail
  go_quiet (fail)
  go_wp2_with fail
  go_ret
  exact ⟨rfl, nq, rfl⟩
end Go.Sp

namespace Go.Sp
open Go Go.Ev Go.ChangeShapes Go.WideShapes Go.ChangeAt Go.RowKit Go.Deep Go.Proofs
set_option linter.unusedVariables false
theorem mod_walk (x m : Int) (w : World) (hm : 0 < m) (hm2 : m < 2147483648) :
    Calls Tryz.prog 42 #[.int .i64 x, .int .i64 m] w fun e w' => e = .returned (.int .i64 (x % m)) ∧ w' = w := by
  go_enter Tryz.func42, Tryz.ntmps42
  go_wp2
  · have h : Int.tmod x m < 0 := by assumption
    have e := tmod_neg h hm
    have h0 := Int.emod_nonneg x (by omega : m ≠ 0)
    have h1 := Int.emod_lt_of_pos x hm
    have ew : wrap64 (Int.tmod x m + m) = x % m := by rw [e]; unfold wrap64; omega
    rw [ew]
    go_ret
    exact ⟨rfl, rfl⟩
  · have h : 0 ≤ Int.tmod x m := by assumption
    rw [tmod_pos (by omega) hm]
    go_ret
    exact ⟨rfl, rfl⟩
set_option maxHeartbeats 1600000 in
set_option maxRecDepth 1000000 in
theorem next_end (b : Nat) (ao : Option Addr) (len cap : Nat) (i n : Int) (w : World) (h0 : w.cell? ⟨b, 0, none⟩ = some (.slice ao len cap)) (h1 : w.cell? ⟨b, 1, none⟩ = some (.int .i64 i)) (hi : (len : Int) ≤ i) :
    Calls Tryz.prog 12 #[.pointer (some ⟨b, 0, none⟩), .int .i64 n] w fun e w' => e = .returned (.int .i64 0) ∧ ∃ n, w' = w.drewN n := by
  have hl := left_walk b ao len cap i w h0 h1
  rw [decide_eq_false (by omega)] at hl
  go_enter Tryz.func12, Tryz.ntmps12
  go_wp2_with (go_at_call 41; refine hl.mono ?_; rintro e w1 ⟨rfl, nq, rfl⟩)
  go_ret
  exact ⟨rfl, nq, rfl⟩
end Go.Sp

namespace Go.Sp
open Go Go.Ev Go.ChangeShapes Go.WideShapes Go.ChangeAt Go.RowKit Go.Deep Go.Proofs
set_option linter.unusedVariables false
set_option maxHeartbeats 1600000 in
set_option maxRecDepth 1000000 in
theorem next_mid (b : Nat) (a : Addr) (len cap : Nat) (i n x : Int) (w : World) (h0 : w.cell? ⟨b, 0, none⟩ = some (.slice (some a) len cap)) (h1 : w.cell? ⟨b, 1, none⟩ = some (.int .i64 i)) (hfr : w.frozen? ⟨b, 1, none⟩ = false) (hab : a.block ≠ b) (hx : w.cell? (a.add i.toNat) = some (.int .i64 x)) (hi0 : 0 ≤ i) (hi : i < (len : Int)) (hl : (len : Int) ≤ 100000) (hn : 0 < n) (hn2 : n < 2147483648) :
    Calls Tryz.prog 12 #[.pointer (some ⟨b, 0, none⟩), .int .i64 n] w fun e w' => e = .returned (.int .i64 (x % n)) ∧ ∃ k k', w' = ((w.drewN k).setCell ⟨b, 1, none⟩ (.int .i64 (i + 1))).drewN k' := by
  have hleft := left_walk b (some a) len cap i w h0 h1
  rw [decide_eq_true hi] at hleft
  go_enter Tryz.func12, Tryz.ntmps12
  go_wp2_with (first | (go_at_call 41; refine hleft.mono ?_; rintro e w1 ⟨rfl, nq, rfl⟩) | fail)
  have hP : ∀ w' : World, w' = ((w.drewN nq).setCell ⟨b, 1, none⟩ (.int .i64 (i + 1))) → w'.cell? ⟨b, 0, none⟩ = some (.slice (some a) len cap) ∧ w'.cell? ⟨b, 1, none⟩ = some (.int .i64 (i + 1)) ∧ w'.cell? (a.add i.toNat) = some (.int .i64 x) := by
    rintro w' rfl
    refine ⟨?_, ?_, ?_⟩
    · exact (World.cell?_setCell_other _ _ _ _ (by intro e; cases e)).trans h0
    · exact World.cell?_setCell_same _ _ _ (show (w.drewN nq).cell? ⟨b, 1, none⟩ = some (.int .i64 i) from h1)
    · have e3 : (a.add i.toNat).block = a.block := by unfold Addr.add; split <;> rfl
      have e4 : (⟨b, 1, none⟩ : Addr) ≠ a.add i.toNat := fun e => hab (by rw [← e3, ← e])
      exact (World.cell?_setCell_other _ _ _ _ e4).trans hx
  generalize hW : (w.drewN nq).setCell ⟨b, 1, none⟩ (.int .i64 (i + 1)) = W1 at *
  obtain ⟨c0, c1, c2⟩ := hP W1 rfl
  obtain ⟨k0, hk0⟩ : ∃ k0, (w.drewN k0).setCell ⟨b, 1, none⟩ (.int .i64 (i + 1)) = W1 := ⟨_, hW⟩
  have hi2 : (0 : Int) ≤ i + 1 - 1 := by omega
  have hi3 : i + 1 - 1 < (len : Int) := by omega
  go_quiet ((go_at_call 42; refine Calls.quiet_of_same (mod_walk _ n _ hn hn2)))
  go_wp2
  go_ret
  exact ⟨rfl, k0, nq, by rw [hk0]⟩
/-- what Next needs of the list: its cells are numbers, and none of the caller's memory turns -/
theorem next_walk {w0 : World} {ao : Option Addr} {len cap : Nat} (hl : len ≤ 100000) (hao : ∀ a, ao = some a → 0 < len → a.block < w0.heap.size) (hsome : 0 < len → ∃ a, ao = some a)
    (hc : ∀ a, ao = some a → ∀ j, j < len → ∃ x, w0.cell? (a.add j) = some (.int .i64 x)) : NextWalk Tryz.prog w0 (.slice ao len cap) len 64 12 := by
  intro b i n w hb hi hsame hbw hn hn2
  have h0 : w.cell? ⟨b, 0, none⟩ = some (.slice ao len cap) := by
    unfold World.cell?
    rw [hb]; rfl
  have h1 : w.cell? ⟨b, 1, none⟩ = some (.int .i64 (i : Int)) := by
    unfold World.cell?
    rw [hb]; rfl
  have hfr : w.frozen? ⟨b, 1, none⟩ = false := by
    unfold World.frozen?
    rw [hb]; rfl
  rcases Nat.lt_or_ge i len with hlt | hge
  · obtain ⟨a, rfl⟩ := hsome (by omega)
    obtain ⟨x, hx⟩ := hc a rfl i hlt
    have hblk := hao a rfl (by omega)
    have e3 : (a.add i).block = a.block := by unfold Addr.add; split <;> rfl
    have hx' : w.cell? (a.add (i : Int).toNat) = some (.int .i64 x) := by
      rw [Int.toNat_natCast, ← hx]
      unfold World.cell?
      rw [e3, hsame _ hblk]
    refine (next_mid b a len cap i n x w h0 h1 hfr (by omega) hx' (by omega) (by omega) (by omega) (by omega) (by omega)).mono fun e w' hh => ?_
    obtain ⟨rfl, k, k', rfl⟩ := hh
    have hr0 := Int.emod_nonneg x (show (n : Int) ≠ 0 by omega)
    have hr1 := Int.emod_lt_of_pos x (show (0 : Int) < n by omega)
    refine ⟨(x % (n : Int)).toNat, i + 1, by omega, by omega, ?_, ?_, fun j hj => ?_, ?_, rfl, rfl, rfl⟩
    · rw [Int.toNat_of_nonneg hr0]
    · show (w.heap.modify b _).size = _
      rw [Array.size_modify]
    · exact Below.heap_setCell _ _ _ _ hj
    · have hlt := lt_of_block hb
      have h' : w.heap[b] = .cells #[.slice (some a) len cap, .int .i64 (i : Int)] 64 (0, 0) := by simpa [Array.getElem?_eq_getElem hlt] using hb
      show (w.heap.modify b _)[b]? = _
      rw [Array.getElem?_eq_getElem (by simpa using hlt), Array.getElem_modify_self, h']
      rfl
  · refine (next_end b ao len cap i n w h0 h1 (by omega)).mono fun e w' hh => ?_
    obtain ⟨rfl, k, rfl⟩ := hh
    exact ⟨0, i, hn, hi, rfl, rfl, fun j hj => rfl, hb, rfl, rfl, rfl⟩
end Go.Sp
