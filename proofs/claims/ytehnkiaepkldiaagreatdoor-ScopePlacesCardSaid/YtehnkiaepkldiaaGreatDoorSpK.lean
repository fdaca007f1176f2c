/- The law at any list, over the world. -/
import Derived.Test.YtehnkiaepkldiaaGreatDoorSpI
import Derived.Test.YtehnkiaepkldiaaGreatDoorSpJ
import Derived.Test.YtehnkiaepkldiaaGreatDoorRunA
import Derived.Test.YtehnkiaepkldiaaGreatDoorEvG
import Derived.Test.YtehnkiaepkldiaaGreatDoorShelf
namespace Go.Sp
open Go Go.Ev Go.Proofs
set_option linter.unusedVariables false
/-! ### the contracts over the world -/
theorem ext2_ok' : ∀ w, HoldsInt w 0 → ExtOk Tryz.prog w (ext2 259 280) := fun w hw =>
  ext2_ok (g := 0) ⟨_, Tryz.func259, rfl⟩ ⟨_, Tryz.func280, rfl⟩ Tryz.stringslite_IndexByte Tryz.stringslite_Index hw
theorem extT_ok : ∀ w, HoldsInt w 0 → ExtOk Tryz.prog w (withT 5 (ext2 259 280)) := fun w hw => withT_ok mixed named (g := 0) ext2_ok' awake_run w hw
theorem extS_ok : ∀ w, HoldsInt w 0 → ExtOk Tryz.prog w extS := by
  intro w0 hw0 f e he args k h
  unfold extS withL at he
  split at he
  · rename_i hf
    have hf := beq_iff'.1 hf
    subst hf
    cases he
    obtain ⟨x, l, rfl, h1⟩ := uncons_inv h
    obtain ⟨rfl, h2⟩ := uncons_nil_inv h1
    cases x with
    | opq V =>
      change bIf (isSl V) (k (.bool (lightV V))) false = true at h2
      obtain ⟨h3, h4⟩ := bIf_yes h2
      cases V with
      | slice ao len cap =>
        refine ⟨_, _, Tryz.func4, rfl, h4, fun ρ H w Args hA R => ?_⟩
        obtain ⟨V, L, rfl, hV, hA⟩ := hA.cons_inv
        simp only [VRs] at hA
        subst hA
        simp only [VR] at hV
        obtain ⟨rfl, _⟩ := hV
        refine (light_walk ao len cap w).mono fun e w' hh => ?_
        obtain ⟨rfl, rfl⟩ := hh
        refine ⟨_, rfl, ?_, R.rel, Step.refl _ _ _⟩
        simp only [VR, lightV]
        congr 1
        exact decide_eq_decide.2 (by omega)
      | _ => cases h3
    | _ => cases h2
  · exact extT_ok w0 hw0 f e he args k h
/-- a law by the evaluator with calls told by contracts: what was there is as it was -/
theorem law_callsY {P : Program} {E : Nat → List Nat} (hm : P.follows .mixedOrders = true) (hn : Named P) {ext : Nat → Option Ext} {X : Nat → Option XExt} {w : World} (hext : ExtOk P w ext) (hX : XOk P w X) {n f : Nat} {args : List AV} {Args : List Value}
    (h : callX (pgF P) E ext X n f args emptyHeap (fun r _ => isT r) = true) (hA : VRs (fun _ => none) args Args) :
    Calls P f (List.toArray Args) w fun e w' => e = .returned (.bool true) ∧ w'.os = w.os ∧ w'.output = w.output ∧ w'.tape = w.tape ∧ w.heap.size ≤ w'.heap.size ∧ ∀ i, i < w.heap.size → w'.heap[i]? = w.heap[i]? := by
  rw [pgF_eq] at h
  obtain ⟨fn, _, _, h3⟩ := callX_sound hm hn hext hX n f args emptyHeap _ h
  refine (h3 _ w Args hA (start_rl w)).mono fun e w' hR => ?_
  obtain ⟨ρ', H', r1, r2, r3⟩ := hR
  cases e with
  | returned V =>
    obtain ⟨v, r4, r5⟩ := r3
    obtain ⟨b, rfl, hb⟩ := vBool_inv (show vBool v (fun b => b) = true from r5)
    subst hb
    simp only [VR] at r4
    subst r4
    exact ⟨rfl, r1.above.os, r1.above.output, r1.above.tape, r1.above.size, r1.above.same⟩
  | panicked chain =>
    obtain ⟨v, V, _, _, r5⟩ := r3
    exact absurd r5 Bool.false_ne_true
  | outgrown => exact r3.elim
theorem isT_true : isT (.val (.bool true)) = true := rfl
/-- the call at any list -/
theorem walk3 (ao : Option Addr) (len cap : Nat) (w : World) (hw : HoldsInt w 0) (hao : ∀ a, ao = some a → 0 < len → a.block < w.heap.size) (hsome : 0 < len → ∃ a, ao = some a) (hc : ∀ a, ao = some a → ∀ j, j < len → ∃ x, w.cell? (a.add j) = some (.int .i64 x)) :
    Calls Tryz.prog 3 #[.slice ao len cap] w fun e w' => e = .returned (.bool true) ∧ w'.os = w.os ∧ w'.output = w.output ∧ w'.tape = w.tape ∧ w.heap.size ≤ w'.heap.size ∧ ∀ i, i < w.heap.size → w'.heap[i]? = w.heap[i]? := by
  have hA : VRs (fun _ => none) [.opq (.slice ao len cap)] [.slice ao len cap] := VRs.cons (by simp only [VR]; exact ⟨trivial, rfl, rfl⟩) VRs.nil
  by_cases hl : len ≤ 700
  · have hN : NextWalk Tryz.prog w (.slice ao len cap) len 64 12 := next_walk (by omega) hao hsome hc
    refine law_callsY mixed named (extS_ok w hw) (next_ok (by omega) ⟨_, Tryz.func12, rfl⟩ ⟨rfl, rfl⟩ hN) (n := 1000) (E := E0) ?_ hA
    refine law3 (V := .slice ao len cap) (N := len) rfl (fun f hf => ?_) rfl (decide_eq_true hl) (by omega) (show (0 : Nat) < 1000 by omega) (fun H' => isT_true)
    unfold nextXs
    rw [beq_no hf]
  · refine law_callsY (X := fun _ => none) mixed named (extS_ok w hw) (fun f e he => by cases he) (n := 1000) (E := E0) ?_ hA
    exact law3_heavy (V := .slice ao len cap) rfl rfl rfl rfl (decide_eq_false hl) (by omega) (fun H' => isT_true)
end Go.Sp
