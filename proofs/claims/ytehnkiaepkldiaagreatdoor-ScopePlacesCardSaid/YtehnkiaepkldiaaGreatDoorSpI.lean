/- What the law finds. -/
import Derived.Test.YtehnkiaepkldiaaGreatDoorSpH
import Derived.Test.YtehnkiaepkldiaaGreatDoorSpC
import Derived.Test.YtehnkiaepkldiaaGreatDoorSpF
import Derived.Test.YtehnkiaepkldiaaGreatDoorEvG
namespace Go.Sp
open Go Go.Ev Go.Proofs
set_option linter.unusedVariables false
def p3 (i : Nat) : Bool := !Nat.beq i 7 && !Nat.beq i 8 && !Nat.beq i 9 && !Nat.beq i 24 && !Nat.beq i 25 && !Nat.beq i 26
theorem p3_spec {i : Nat} (h : p3 i = true) : i ≠ 7 ∧ i ≠ 8 ∧ i ≠ 9 ∧ i ≠ 24 ∧ i ≠ 25 ∧ i ≠ 26 := by
  refine ⟨?_, ?_, ?_, ?_, ?_, ?_⟩ <;> (intro e; subst e; exact absurd h (by decide))
/-- an import is among the modules before, and new enough -/
def FitI (sorted : List Mod) (x : Nat × Nat) : Prop := ∃ k s, modOf sorted x.1 = some k ∧ sorted[k]? = some s ∧ ¬ s.rel < x.2
theorem imp3 {X : Nat → Option XExt} (h9 : X 9 = none) (h15 : X 15 = none) (h19 : X 19 = none) {n : Nat} (hn : 300 ≤ n) {H : Heap} {sv iv : AV} {sorted : List Mod} {imps : List (Nat × Nat)} {D : Nat} {kn : TT → Heap → Bool} {kx : Ev.X → TT → Heap → Bool}
    (hE : EnvV H sv sorted) (hf : ∀ m ∈ sorted, m.fine) (hlen : sorted.length ≤ 100) (hI : ImpV H iv imps) (hil : imps.length ≤ 2) (hif : ∀ x ∈ imps, x.1 < 256 ∧ x.2 < 10) (hfit : ∀ x ∈ imps, FitI sorted x) (hD : D = sorted.length + 3) (hb : H.next + imps.length * D ≤ 32768) :
    ∀ (l : List (Nat × Nat)) (j fuel : Nat) (T : TT) (H1 : Heap), imps.drop j = l → T.slot 5 = sv → T.slot 22 = iv → T.slot 23 = .int 3 imps.length → T.slot 24 = .int 3 j → j ≤ imps.length → Ex H H1 (j * D) → l.length < fuel →
      (∀ T' H', Keep p3 T T' → Ex H H' (imps.length * D) → kn T' H' = true) →
      loopN (fun again T H => CC.f (K3 c3x18) n (CS X n) T H again fun x T H => xCase x (fun i => bIf (Nat.beq i 2) (kn T H) (kx (Ev.X.exit i) T H)) (kx Ev.X.ret T H) fun v => kx (Ev.X.panic v) T H) fuel T H1 = true := by
  intro l
  induction l with
  | nil =>
    intro j fuel T H1 h1 t5 t22 t23 t24 hj he hfu hkn
    obtain ⟨fuel, rfl⟩ : ∃ q, fuel = q + 1 := ⟨fuel - 1, by simp at hfu; omega⟩
    have hi : imps.length ≤ j := List.drop_eq_nil_iff.1 h1
    have hi2 : j = imps.length := by omega
    rw [loopN_succ, c3x18_eq, t24, t23, vInt_int, vInt_int, bIf_pos (rfl : Nat.beq 3 3 = true), bIf_pos (rfl : Nat.beq 3 3 = true), forceB_eq, lss_no (by omega) (by omega), c3x19_eq, slot_same _ _ _ (by decide), vBool_bool, bIf_false, xCase_e, bIf_pos (rfl : Nat.beq 2 2 = true)]
    exact hkn _ H1 ((Keep.refl p3 T).set _ (by decide) rfl) (he.mono (by rw [hi2]; exact Nat.le_refl _))
  | cons x l ih =>
    intro j fuel T H1 h1 t5 t22 t23 t24 hj he hfu hkn
    obtain ⟨fuel, rfl⟩ : ∃ q, fuel = q + 1 := ⟨fuel - 1, by simp at hfu; omega⟩
    obtain ⟨hx, h1', hi⟩ := drop_cons h1
    have hjD : j * D + D ≤ imps.length * D := by
      have := Nat.mul_le_mul_right D (show j + 1 ≤ imps.length by omega)
      rw [Nat.add_mul] at this; omega
    have hH1 := he.le
    have hmem := List.mem_of_getElem? hx
    obtain ⟨hx1, hx2⟩ := hif x hmem
    obtain ⟨ks, s, hks, hs, hrel⟩ := hfit x hmem
    rcases hI with ⟨_, h0⟩ | ⟨a, rs, N, rfl, ha, hg, hN, hc, hr⟩
    · rw [h0] at hi; simp at hi
    have hrow := hr j x hx
    have hg1 : H1.get a = .cells rs N 2 41 true false := (he.same a ha).trans hg
    have hb1 : H1.next < 32768 := by omega
    rw [loopN_succ, c3x18_eq, t24, t23, vInt_int, vInt_int, bIf_pos (rfl : Nat.beq 3 3 = true), bIf_pos (rfl : Nat.beq 3 3 = true), forceB_eq, lss_yes hi (by omega), c3x19_eq, slot_same _ _ _ (by decide), vBool_bool, bIf_true, c3x20_eq]
    have k1 := (Keep.refl p3 T).set (.bool true) (show 25 < 64 by decide) rfl
    have s24 : (T.setSlot 25 (.bool true)).slot 24 = .int 3 j := by rw [slot_ne _ _ _ _ (by decide) (by decide) (by decide), t24]
    generalize T.setSlot 25 (.bool true) = T1 at *
    have s22 : T1.slot 22 = .slice a 0 imps.length 0 true 2 := by rw [k1.2 22 (by decide) rfl, t22]
    have s5 : T1.slot 5 = sv := by rw [k1.2 5 (by decide) rfl, t5]
    rw [s22, s24, vSlice_slice, asIdx_int, bIf_pos (blt_yes hi), bIf_pos (rfl : Nat.beq 2 2 = true), forceNat_eq, getO_eq, hg1, oCells_cells, bIf_pos (ble_yes (show Nat.succ (Nat.add 0 j) ≤ N by show 0 + j + 1 ≤ N; omega)), bIf_pos (rfl : Nat.beq 2 2 = true),
      rowAt_eq (show Nat.add 0 j < rs.cap by show 0 + j < _; omega), bIf_pos (rfl : Nat.beq 2 2 = true), bIf_true, newO_eq hb1, bIf_true, getO_eq, Heap.get_add_new hb1, varObj_eq, oCells_cells, bIf_false, bIf_pos (rfl : Nat.ble 1 1 = true), bIf_pos (rfl : Nat.beq 2 2 = true), bIf_true, bIf_true, setRow_r0, putO_eq]
    rw [show rs.row (Nat.add 0 j) = impRow x by rw [show Nat.add 0 j = j from Nat.zero_add j]; exact hrow]
    have e2 : Ex H1 ((H1.add (.cells (.r0 [.str 0 0, .int 3 0]) 1 2 41 false false)).put H1.next (.cells (.r0 (impRow x)) 1 2 41 false false)) 1 := (Ex.add _ hb1).put (Nat.le_refl _) hb1
    have g2 : ((H1.add (.cells (.r0 [.str 0 0, .int 3 0]) 1 2 41 false false)).put H1.next (.cells (.r0 (impRow x)) 1 2 41 false false)).get H1.next = .cells (.r0 (impRow x)) 1 2 41 false false := Heap.get_put_same hb1
    have n2 : ((H1.add (.cells (.r0 [.str 0 0, .int 3 0]) 1 2 41 false false)).put H1.next (.cells (.r0 (impRow x)) 1 2 41 false false)).next = H1.next + 1 := rfl
    generalize (H1.add (.cells (.r0 [.str 0 0, .int 3 0]) 1 2 41 false false)).put H1.next (.cells (.r0 (impRow x)) 1 2 41 false false) = H2 at *
    have e02 := he.trans e2
    have k2 := k1.set (.ptr H1.next 0 0 2) (show 7 < 64 by decide) rfl
    have u7 : (T1.setSlot 7 (.ptr H1.next 0 0 2)).slot 7 = .ptr H1.next 0 0 2 := slot_same _ _ _ (by decide)
    have u24 : (T1.setSlot 7 (.ptr H1.next 0 0 2)).slot 24 = .int 3 j := by rw [slot_ne _ _ _ _ (by decide) (by decide) (by decide), s24]
    generalize T1.setSlot 7 (.ptr H1.next 0 0 2) = T2 at *
    have u5 : T2.slot 5 = sv := by rw [k2.2 5 (by decide) rfl, t5]
    rw [c3x21_eq, u7, vPtr_ptr, forceNat_eq, getO_eq, g2, oCells_cells, bIf_pos (rfl : Nat.ble 1 1 = true), bIf_pos (rfl : Nat.beq 2 2 = true), rowAt_r0, nthC_eq (a := .str 1 x.1) rfl, u5]
    refine modOf_ok h9 h15 h19 (by omega) (hE.ex e02) (fun m hm => (hf m hm).2.1) hlen hx1 (by omega) fun H3 e3 => ?_
    have e03 := e02.trans e3
    rw [hks, resCase_val, vTup_tup, nthC0, vTup_tup, nthC_s, nthC0, c3x22_eq]
    have k3 := (k2.set (.int 3 ((some ks : Option Nat).getD 0)) (show 8 < 64 by decide) rfl).set (.bool (some ks : Option Nat).isSome) (show 9 < 64 by decide) rfl
    have w9 : ((T2.setSlot 8 (.int 3 ((some ks : Option Nat).getD 0))).setSlot 9 (.bool (some ks : Option Nat).isSome)).slot 9 = .bool true := slot_same _ _ _ (by decide)
    have w8 : ((T2.setSlot 8 (.int 3 ((some ks : Option Nat).getD 0))).setSlot 9 (.bool (some ks : Option Nat).isSome)).slot 8 = .int 3 ks := by rw [slot_ne _ _ _ _ (by decide) (by decide) (by decide), slot_same _ _ _ (by decide)]; rfl
    have w7 : ((T2.setSlot 8 (.int 3 ((some ks : Option Nat).getD 0))).setSlot 9 (.bool (some ks : Option Nat).isSome)).slot 7 = .ptr H1.next 0 0 2 := by rw [slot_ne _ _ _ _ (by decide) (by decide) (by decide), slot_ne _ _ _ _ (by decide) (by decide) (by decide), u7]
    have w24 : ((T2.setSlot 8 (.int 3 ((some ks : Option Nat).getD 0))).setSlot 9 (.bool (some ks : Option Nat).isSome)).slot 24 = .int 3 j := by rw [slot_ne _ _ _ _ (by decide) (by decide) (by decide), slot_ne _ _ _ _ (by decide) (by decide) (by decide), u24]
    generalize (T2.setSlot 8 (.int 3 ((some ks : Option Nat).getD 0))).setSlot 9 (.bool (some ks : Option Nat).isSome) = T3 at *
    have w5 : T3.slot 5 = sv := by rw [k3.2 5 (by decide) rfl, t5]
    have hkl : ks < sorted.length := (List.getElem?_eq_some_iff.1 hs).1
    have sf := hf s (List.mem_of_getElem? hs)
    rcases hE.ex e03 with ⟨_, h0⟩ | ⟨a4, rs4, hv4, ha4, hg4, hc4, hr4⟩
    · rw [h0] at hkl; simp at hkl
    obtain ⟨iv4, hrow4, _⟩ := hr4 ks s hs
    have hrow4' : rs4.row (Nat.add 0 ks) = modRow s iv4 := by rw [show Nat.add 0 ks = ks from Nat.zero_add ks]; exact hrow4
    have g3 : H3.get H1.next = .cells (.r0 (impRow x)) 1 2 41 false false := (e3.same _ (by omega)).trans g2
    rw [w9, vBool_bool, bIf_true, w5, hv4, vSlice_slice, w8, asIdx_int, bIf_pos (blt_yes hkl), bIf_pos (rfl : Nat.beq 9 9 = true), forceNat_eq, forceNat_eq, getO_eq, hg4, oCells_cells,
      bIf_pos (ble_yes (show Nat.succ (Nat.add 0 ks) ≤ sorted.length by show 0 + ks + 1 ≤ _; omega)), bIf_pos (rfl : Nat.beq 9 9 = true), rowAt_eq (show Nat.add 0 ks < rs4.cap by show 0 + ks < _; omega), hrow4', nthC_eq (a := .int 3 s.rel) rfl,
      w7, vPtr_ptr, forceNat_eq, getO_eq, g3, oCells_cells, bIf_pos (rfl : Nat.ble 1 1 = true), bIf_pos (rfl : Nat.beq 2 2 = true), rowAt_r0, nthC_eq (a := .int 3 x.2) rfl, vInt_int, vInt_int, bIf_pos (rfl : Nat.beq 3 3 = true), bIf_pos (rfl : Nat.beq 3 3 = true), forceB_eq,
      lss_no (show x.2 ≤ s.rel by omega) (show s.rel < 9223372036854775808 by have := sf.2.2.1; omega), bIf_false, c3x23_eq, slot_same _ _ _ (by decide), vBool_bool, bIf_false, c3x24_eq, slot_ne _ _ _ _ (by decide) (by decide) (by decide), w24, vInt_int, bIf_pos (rfl : Nat.beq 3 3 = true), bIf_true, forceNat_eq, inc_eq (by omega)]
    have k4 := (k3.set (.bool false) (show 26 < 64 by decide) rfl).set (.int 3 (j + 1)) (show 24 < 64 by decide) rfl
    refine ih (j + 1) fuel _ H3 h1' ?_ ?_ ?_ (slot_same _ _ _ (by decide)) (by omega) (e03.mono (by rw [Nat.add_mul]; omega)) (by simp at hfu; omega) ?_
    · rw [k4.2 5 (by decide) rfl, t5]
    · rw [k4.2 22 (by decide) rfl, t22]
    · rw [k4.2 23 (by decide) rfl, t23]
    · intro T' H' q1 q2
      exact hkn T' H' ⟨q1.1.trans k4.1, fun i hi hp => (q1.2 i hi hp).trans (k4.2 i hi hp)⟩ q2
def p4 (i : Nat) : Bool := p3 i && !Nat.beq i 5 && !Nat.beq i 10 && !Nat.beq i 21 && !Nat.beq i 22 && !Nat.beq i 23 && !Nat.beq i 27
theorem p4_p3 {i : Nat} (h : p4 i = true) : p3 i = true := by
  unfold p4 at h
  cases e : p3 i with
  | true => rfl
  | false => rw [e] at h; exact absurd h (by simp)
/-- one module of an order, put behind those before -/
theorem round3 {X : Nat → Option XExt} (h9 : X 9 = none) (h15 : X 15 = none) (h19 : X 19 = none) {n : Nat} (hn : 300 ≤ n) {HB H : Heap} {ev sv : AV} {ms sorted : List Mod} {m : Mod} {i c : Nat} {T : TT} {kn : TT → Heap → Bool} {kx : Ev.X → TT → Heap → Bool}
    (hE : EnvV HB ev ms) (hf : ∀ m ∈ ms, m.fine) (hlen : ms.length ≤ 5) (he : Ex HB H c) (hS : OutN HB.next H sv sorted) (hsf : ∀ m ∈ sorted, m.fine) (hsl : sorted.length ≤ 5) (hm : ms[i]? = some m) (hfit : fitsIn sorted m = true) (hb : H.next + 40 < 32768)
    (t2 : T.slot 2 = ev) (t5 : T.slot 5 = sv) (t6 : T.slot 6 = .int 3 i)
    (hkn : ∀ T' H' sv', Keep p4 T T' → T'.slot 5 = sv' → OutN HB.next H' sv' (sorted ++ [m]) → Ex HB H' (c + 40) → kn T' H' = true) :
    CC.f (K3 c3x14) n (CS X n) T H kn kx = true := by
  have hil : i < ms.length := (List.getElem?_eq_some_iff.1 hm).1
  have hmf := hf m (List.mem_of_getElem? hm)
  have hE0 := hE
  obtain ⟨f1, f2, f3, f4, f5⟩ := hmf
  have hfit1 : ∀ x ∈ m.imps, FitI sorted x := by
    intro x hx
    unfold fitsIn at hfit
    simp only [Bool.and_eq_true, List.all_eq_true] at hfit
    have := hfit.1 x hx
    cases e : modOf sorted x.1 with
    | none => rw [e] at this; cases this
    | some k =>
      rw [e] at this
      obtain ⟨s, hs, _, _⟩ := modOf_some e
      simp only [hs] at this
      exact ⟨k, s, e, hs, by simpa using this⟩
  have hfit2 : modOf sorted m.name = none := by
    unfold fitsIn at hfit
    simp only [Bool.and_eq_true, Option.isNone_iff_eq_none] at hfit
    exact hfit.2
  rcases hE.ex he with ⟨_, h0⟩ | ⟨a, rs, hv, ha, hg, hc, hr⟩
  · rw [h0] at hil; simp at hil
  subst hv
  have haB : a < HB.next := by
    rcases hE0 with ⟨q, _⟩ | ⟨a', rs', q, q2, _⟩
    · cases q
    · cases q; exact q2
  obtain ⟨iv, hrow, hiv⟩ := hr i m hm
  have hrow' : rs.row (Nat.add 0 i) = modRow m iv := by rw [show Nat.add 0 i = i from Nat.zero_add i]; exact hrow
  have hH := he.next
  rw [c3x14_eq, t6, vInt_int, bIf_pos (rfl : Nat.beq 3 3 = true), bIf_true, forceB_eq, lss_no (Nat.zero_le _) (show i < 9223372036854775808 by omega), r3g1_false, t2, vSliceN_slice, t6, vInt_int, bIf_pos (rfl : Nat.beq 3 3 = true), bIf_true, forceB_eq, leq_no hil (by omega), bIf_false, c3x15_eq, slot_same _ _ _ (by decide), vBool_bool, bIf_false]
  have k1 := (Keep.refl p4 T).set (.bool false) (show 21 < 64 by decide) rfl
  have u5 : (T.setSlot 21 (.bool false)).slot 5 = sv := by rw [slot_ne _ _ _ _ (by decide) (by decide) (by decide), t5]
  generalize T.setSlot 21 (.bool false) = T1 at *
  have u2 : T1.slot 2 = .slice a 0 ms.length 0 true 9 := by rw [k1.2 2 (by decide) rfl, t2]
  have u6 : T1.slot 6 = .int 3 i := by rw [k1.2 6 (by decide) rfl, t6]
  rw [c3x16_eq, u2, vSlice_slice, u6, asIdx_int, bIf_pos (blt_yes hil), bIf_pos (rfl : Nat.beq 9 9 = true), forceNat_eq, forceNat_eq, getO_eq, hg, oCells_cells, bIf_pos (ble_yes (show Nat.succ (Nat.add 0 i) ≤ ms.length by show 0 + i + 1 ≤ _; omega)), bIf_pos (rfl : Nat.beq 9 9 = true),
    rowAt_eq (show Nat.add 0 i < rs.cap by show 0 + i < _; omega), hrow', nthC_eq (a := iv) rfl]
  have hloop : ∀ T2 : TT, Keep p4 T T2 → T2.slot 5 = sv → T2.slot 22 = iv → T2.slot 23 = .int 3 m.imps.length → T2.slot 24 = .int 3 0 →
      CC.f (K3 c3x17) n (CS X n) T2 H (fun T H => CC.f (K3 c3x25) n (CS X n) T H kn kx) kx = true := by
    intro T2 q1 q5 q22 q23 q24
    rw [c3x17_eq]
    have hD : m.imps.length * (sorted.length + 3) ≤ 2 * (sorted.length + 3) := Nat.mul_le_mul_right _ f4
    refine imp3 h9 h15 h19 hn hS.env hsf (by omega) hiv f4 f5 hfit1 rfl (by omega) m.imps 0 n T2 H rfl q5 q22 q23 q24 (Nat.zero_le _) (Ex.refl _ _) (by omega) fun T3 H3 k3 e3 => ?_
    have hn3 := e3.next
    have hl3 := e3.le
    have w2 : T3.slot 2 = .slice a 0 ms.length 0 true 9 := by rw [k3.2 2 (by decide) rfl, q1.2 2 (by decide) rfl, t2]
    have w6 : T3.slot 6 = .int 3 i := by rw [k3.2 6 (by decide) rfl, q1.2 6 (by decide) rfl, t6]
    have w5 : T3.slot 5 = sv := by rw [k3.2 5 (by decide) rfl, q5]
    have hg3 : H3.get a = .cells rs ms.length 9 39 true false := (e3.same a ha).trans hg
    rw [c3x25_eq, w2, vSlice_slice, w6, asIdx_int, bIf_pos (blt_yes hil), bIf_pos (rfl : Nat.beq 9 9 = true), forceNat_eq, forceNat_eq, getO_eq, hg3, oCells_cells, bIf_pos (ble_yes (show Nat.succ (Nat.add 0 i) ≤ ms.length by show 0 + i + 1 ≤ _; omega)), bIf_pos (rfl : Nat.beq 9 9 = true),
      rowAt_eq (show Nat.add 0 i < rs.cap by show 0 + i < _; omega), hrow', nthC_eq (a := .str 1 m.name) rfl, w5]
    refine modOf_ok h9 h15 h19 (by omega) (hS.env.ex e3) (fun m hm => (hsf m hm).2.1) (by omega) f2 (by omega) fun H4 e4 => ?_
    have hn4 := e4.next
    have hl4 := e4.le
    rw [hfit2, resCase_val, vTup_tup, nthC0, vTup_tup, nthC_s, nthC0, show (none : Option Nat).isSome = false from rfl, c3x26_eq, slot_same _ _ _ (by decide), c3x27_eq, slot_same _ _ _ (by decide), vBool_bool, bIf_false]
    have k4 : Keep p4 T ((T3.setSlot 10 (.bool false)).setSlot 27 (.bool false)) := by
      have : Keep p4 T T3 := ⟨k3.1.trans q1.1, fun i hi hp => (k3.2 i hi (p4_p3 hp)).trans (q1.2 i hi hp)⟩
      exact (this.set _ (by decide) rfl).set _ (by decide) rfl
    have v5 : ((T3.setSlot 10 (.bool false)).setSlot 27 (.bool false)).slot 5 = sv := by rw [slot_ne _ _ _ _ (by decide) (by decide) (by decide), slot_ne _ _ _ _ (by decide) (by decide) (by decide), w5]
    generalize (T3.setSlot 10 (.bool false)).setSlot 27 (.bool false) = T4 at *
    have v2 : T4.slot 2 = .slice a 0 ms.length 0 true 9 := by rw [k4.2 2 (by decide) rfl, t2]
    have v6 : T4.slot 6 = .int 3 i := by rw [k4.2 6 (by decide) rfl, t6]
    have e34 := e3.trans e4
    have hg4 : H4.get a = .cells rs ms.length 9 39 true false := (e34.same a ha).trans hg
    have hb4 : H4.next < 32768 := by omega
    rw [c3x28_eq, v2, vSlice_slice, v6, asIdx_int, bIf_pos (blt_yes hil), bIf_pos (rfl : Nat.beq 9 9 = true), forceNat_eq, getO_eq, hg4, oCells_cells, bIf_pos (ble_yes (show Nat.succ (Nat.add 0 i) ≤ ms.length by show 0 + i + 1 ≤ _; omega)), bIf_pos (rfl : Nat.beq 9 9 = true),
      rowAt_eq (show Nat.add 0 i < rs.cap by show 0 + i < _; omega), hrow', bIf_pos (rfl : Nat.beq 9 9 = true), bIf_true, bIf_true, putRows_one, show (Rows.r0 []).setR 0 (modRow m iv) = .r0 (modRow m iv) from rfl, newO_eq hb4]
    have e45 : Ex H4 (H4.add (.cells (.r0 (modRow m iv)) 1 9 39 false false)) 1 := Ex.add _ hb4
    have g5 : (H4.add (.cells (.r0 (modRow m iv)) 1 9 39 false false)).get H4.next = .cells (.r0 (modRow m iv)) 1 9 39 false false := Heap.get_add_new hb4
    have n5 : (H4.add (.cells (.r0 (modRow m iv)) 1 9 39 false false)).next = H4.next + 1 := rfl
    generalize H4.add (.cells (.r0 (modRow m iv)) 1 9 39 false false) = H5 at *
    have e05 := e34.trans e45
    rw [src_one g5 (by omega) (Nat.le_refl _), show (Rows.r0 (modRow m iv)).row 0 = modRow m iv from rfl, v5]
    refine out_append (B := HB.next) (hS.fr (by omega) fun a rs n z el ha hg => e05.same a ha) (hiv.ex e05) hsl (by omega) (by omega) fun sv' H6 hS6 hn6 hs6 => ?_
    have k5 := k4.set sv' (show 5 < 64 by decide) rfl
    refine hkn _ H6 sv' k5 (slot_same _ _ _ (by decide)) hS6 ⟨by omega, ?_, fun x hx => ?_⟩
    · have := he.le
      omega
    · rw [hs6 x (by omega) (.inl hx), e05.same x (by omega), he.same x hx]
  rcases hiv with ⟨hiv0, h0⟩ | ⟨a2, rs2, N, hiv1, _⟩
  · subst hiv0
    rw [vSliceN_nil]
    refine hloop _ (((k1.set _ (by decide) rfl).set _ (by decide) rfl).set _ (by decide) rfl) ?_ ?_ ?_ (slot_same _ _ _ (by decide))
    · rw [slot_ne _ _ _ _ (by decide) (by decide) (by decide), slot_ne _ _ _ _ (by decide) (by decide) (by decide), slot_ne _ _ _ _ (by decide) (by decide) (by decide), u5]
    · rw [slot_ne _ _ _ _ (by decide) (by decide) (by decide), slot_ne _ _ _ _ (by decide) (by decide) (by decide), slot_same _ _ _ (by decide)]
    · rw [slot_ne _ _ _ _ (by decide) (by decide) (by decide), slot_same _ _ _ (by decide), h0]; rfl
  · subst hiv1
    rw [vSliceN_slice]
    refine hloop _ (((k1.set _ (by decide) rfl).set _ (by decide) rfl).set _ (by decide) rfl) ?_ ?_ ?_ (slot_same _ _ _ (by decide))
    · rw [slot_ne _ _ _ _ (by decide) (by decide) (by decide), slot_ne _ _ _ _ (by decide) (by decide) (by decide), slot_ne _ _ _ _ (by decide) (by decide) (by decide), u5]
    · rw [slot_ne _ _ _ _ (by decide) (by decide) (by decide), slot_ne _ _ _ _ (by decide) (by decide) (by decide), slot_same _ _ _ (by decide)]
    · rw [slot_ne _ _ _ _ (by decide) (by decide) (by decide), slot_same _ _ _ (by decide)]
end Go.Sp

namespace Go.Sp
open Go Go.Ev Go.Proofs
set_option linter.unusedVariables false
theorem e5_eq (n : Nat) (call : CallK) (H : Heap) (k : Res → Heap → Bool) : (cfn (pgF Tryz.prog) E0 extS 5).f n call [] H k = k (.val (.bool true)) H := by rfl
theorem e4_eq (n : Nat) (call : CallK) (V : Value) (hV : isSl V = true) (H : Heap) (k : Res → Heap → Bool) : (cfn (pgF Tryz.prog) E0 extS 4).f n call [.opq V] H k = k (.val (.bool (lightV V))) H := by
  show bIf (isSl V) (k (.val (.bool (lightV V))) H) false = _
  rw [hV]; rfl
theorem aw5 {X : Nat → Option XExt} (h5 : X 5 = none) {n : Nat} (hn : 1 ≤ n) (H : Heap) (k : Res → Heap → Bool) : CS X n 5 [] H k = k (.val (.bool true)) H := by
  obtain ⟨n, rfl⟩ : ∃ j, n = j + 1 := ⟨n - 1, by omega⟩
  rw [CS_succ _ _ _ _ _ _ h5, e5_eq]
theorem li4 {X : Nat → Option XExt} (h4 : X 4 = none) {n : Nat} (hn : 1 ≤ n) (V : Value) (hV : isSl V = true) (H : Heap) (k : Res → Heap → Bool) : CS X n 4 [.opq V] H k = k (.val (.bool (lightV V))) H := by
  obtain ⟨n, rfl⟩ : ∃ j, n = j + 1 := ⟨n - 1, by omega⟩
  rw [CS_succ _ _ _ _ _ _ h4, e4_eq _ _ _ hV]
theorem sortedM_cons {ms : List Mod} {i : Nat} {l : List Nat} {s f : List Mod} (h : sortedM ms (i :: l) s = some f) : ∃ m, ms[i]? = some m ∧ fitsIn s m = true ∧ sortedM ms l (s ++ [m]) = some f := by
  unfold sortedM at h
  cases e : ms[i]? with
  | none => rw [e] at h; cases h
  | some m =>
    rw [e] at h
    simp only at h
    split at h
    · rename_i hf
      exact ⟨m, rfl, hf, h⟩
    · cases h
theorem ord3 {X : Nat → Option XExt} (h9 : X 9 = none) (h15 : X 15 = none) (h19 : X 19 = none) {n : Nat} (hn : 300 ≤ n) {HB : Heap} {ev ov : AV} {ms fin : List Mod} {order : List Nat} {kn : TT → Heap → Bool} {kx : Ev.X → TT → Heap → Bool}
    (hE : EnvV HB ev ms) (hf : ∀ m ∈ ms, m.fine) (hlen : ms.length ≤ 5) (hO : IntV HB ov order) (hol : order.length = ms.length) (hb : HB.next + 300 < 32768)
    (hkn : ∀ T' H' sv', T'.ds = [] → T'.slot 2 = ev → T'.slot 5 = sv' → OutN HB.next H' sv' fin → (∀ m ∈ fin, m.fine) → Ex HB H' 200 → kn T' H' = true) :
    ∀ (l : List Nat) (idx fuel : Nat) (T : TT) (H : Heap) (sorted : List Mod) (sv : AV), order.drop idx = l → sortedM ms l sorted = some fin → T.slot 2 = ev → T.slot 5 = sv → T.slot 17 = ov → T.slot 18 = .int 3 order.length → T.slot 19 = .int 3 idx → T.ds = [] →
      OutN HB.next H sv sorted → (∀ m ∈ sorted, m.fine) → sorted.length = idx → idx ≤ order.length → Ex HB H (idx * 40) → l.length < fuel →
      loopN (fun again T H => CC.f (K3 c3x11) n (CS X n) T H again fun x T H => xCase x (fun i => bIf (Nat.beq i 0) (kn T H) (kx (Ev.X.exit i) T H)) (kx Ev.X.ret T H) fun v => kx (Ev.X.panic v) T H) fuel T H = true := by
  intro l
  induction l with
  | nil =>
    intro idx fuel T H sorted sv h1 h2 t2 t5 t17 t18 t19 tds hS hsf hsl hbig he hfu
    obtain ⟨fuel, rfl⟩ : ∃ q, fuel = q + 1 := ⟨fuel - 1, by simp at hfu; omega⟩
    have hi : order.length ≤ idx := List.drop_eq_nil_iff.1 h1
    simp only [sortedM, Option.some.injEq] at h2
    subst h2
    rw [loopN_succ, c3x11_eq, t19, t18, vInt_int, vInt_int, bIf_pos (rfl : Nat.beq 3 3 = true), bIf_pos (rfl : Nat.beq 3 3 = true), forceB_eq, lss_no (by omega) (by omega), c3x12_eq, slot_same _ _ _ (by decide), vBool_bool, bIf_false, xCase_e, bIf_pos (rfl : Nat.beq 0 0 = true)]
    refine hkn _ H sv (by rw [TT.ds_setSlot, tds]) ?_ ?_ hS hsf (he.mono (by omega))
    · rw [slot_ne _ _ _ _ (by decide) (by decide) (by decide), t2]
    · rw [slot_ne _ _ _ _ (by decide) (by decide) (by decide), t5]
  | cons i l ih =>
    intro idx fuel T H sorted sv h1 h2 t2 t5 t17 t18 t19 tds hS hsf hsl hbig he hfu
    obtain ⟨fuel, rfl⟩ : ∃ q, fuel = q + 1 := ⟨fuel - 1, by simp at hfu; omega⟩
    obtain ⟨hi, h1', hidx⟩ := drop_cons h1
    obtain ⟨m, hm, hfit, h2'⟩ := sortedM_cons h2
    have hH := he.next
    have hHl := he.le
    rw [loopN_succ, c3x11_eq, t19, t18, vInt_int, vInt_int, bIf_pos (rfl : Nat.beq 3 3 = true), bIf_pos (rfl : Nat.beq 3 3 = true), forceB_eq, lss_yes hidx (by omega), c3x12_eq, slot_same _ _ _ (by decide), vBool_bool, bIf_true, c3x13_eq]
    rcases hO with ⟨_, h0⟩ | ⟨a, rs, rfl, ha, hg, hc, hr⟩
    · rw [h0] at hidx; simp at hidx
    have hg1 : H.get a = .cells rs order.length 1 3 true false := (he.same a ha).trans hg
    have hrow := hr idx i hi
    rw [slot_ne _ _ _ _ (by decide) (by decide) (by decide), t17, vSlice_slice, slot_ne _ _ _ _ (by decide) (by decide) (by decide), t19, asIdx_int, bIf_pos (blt_yes hidx), bIf_pos (rfl : Nat.beq 1 1 = true), forceNat_eq, getO_eq, hg1, oCells_cells, bIf_pos (ble_yes (show Nat.succ (Nat.add 0 idx) ≤ order.length by show 0 + idx + 1 ≤ _; omega)), bIf_pos (rfl : Nat.beq 1 1 = true),
      rowAt_eq (show Nat.add 0 idx < rs.cap by show 0 + idx < _; omega), show rs.row (Nat.add 0 idx) = [.int 3 i] by rw [show Nat.add 0 idx = idx from Nat.zero_add idx]; exact hrow, nthC_eq (a := .int 3 i) rfl]
    have k1 := (Keep.refl (fun i => !Nat.beq i 20 && !Nat.beq i 6) T).set (.bool true) (show 20 < 64 by decide) rfl |>.set (.int 3 i) (show 6 < 64 by decide) rfl
    have u6 : ((T.setSlot 20 (.bool true)).setSlot 6 (.int 3 i)).slot 6 = .int 3 i := slot_same _ _ _ (by decide)
    generalize (T.setSlot 20 (.bool true)).setSlot 6 (.int 3 i) = T1 at *
    refine round3 h9 h15 h19 hn hE hf hlen he hS hsf (by omega) hm hfit (by omega) (by rw [k1.2 2 (by decide) rfl, t2]) (by rw [k1.2 5 (by decide) rfl, t5]) u6 fun T2 H2 sv2 k2 w5 hS2 he2 => ?_
    have w : ∀ j, j < 64 → p4 j = true → Nat.beq j 20 = false → Nat.beq j 6 = false → T2.slot j = T.slot j := fun j hj hp h20 h6 => by rw [k2.2 j hj hp, k1.2 j hj (by simp [h20, h6])]
    rw [c3x29_eq, w 19 (by decide) rfl rfl rfl, t19, vInt_int, bIf_pos (rfl : Nat.beq 3 3 = true), bIf_true, forceNat_eq, inc_eq (by omega)]
    refine ih (idx + 1) fuel _ H2 (sorted ++ [m]) sv2 h1' h2' ?_ ?_ ?_ ?_ (slot_same _ _ _ (by decide)) ?_ hS2 ?_ (by rw [List.length_append]; simp; omega) (by omega) (he2.mono (by omega)) (by simp at hfu; omega)
    · rw [slot_ne _ _ _ _ (by decide) (by decide) (by decide), w 2 (by decide) rfl rfl rfl, t2]
    · rw [slot_ne _ _ _ _ (by decide) (by decide) (by decide), w5]
    · rw [slot_ne _ _ _ _ (by decide) (by decide) (by decide), w 17 (by decide) rfl rfl rfl, t17]
    · rw [slot_ne _ _ _ _ (by decide) (by decide) (by decide), w 18 (by decide) rfl rfl rfl, t18]
    · rw [TT.ds_setSlot, k2.1, k1.1, tds]
    · intro x hx
      rcases List.mem_append.1 hx with hx | hx
      · exact hsf x hx
      · simp at hx; subst hx; exact hf _ (List.mem_of_getElem? hm)
/-- the second order's places are their own numbers -/
theorem rng3 {X : Nat → Option XExt} {n L : Nat} {H : Heap} {av : AV} {kn : TT → Heap → Bool} {kx : Ev.X → TT → Heap → Bool} (hL : L ≤ 5) (hO : IntV H av (List.range L)) :
    ∀ (k idx fuel : Nat) (T : TT), idx + k = L → T.slot 11 = av → T.slot 28 = .int 3 L → T.slot 29 = .int 3 idx → T.ds = [] → k < fuel →
      (∀ T', T'.ds = [] → T'.slot 2 = T.slot 2 → T'.slot 11 = av → T'.slot 12 = T.slot 12 → kn T' H = true) →
      loopN (fun again T H => CC.f (K3 c3x33) n (CS X n) T H again fun x T H => xCase x (fun i => bIf (Nat.beq i 4) (kn T H) (kx (Ev.X.exit i) T H)) (kx Ev.X.ret T H) fun v => kx (Ev.X.panic v) T H) fuel T H = true := by
  intro k
  induction k with
  | zero =>
    intro idx fuel T hidx t11 t28 t29 tds hfu hkn
    obtain ⟨fuel, rfl⟩ : ∃ q, fuel = q + 1 := ⟨fuel - 1, by omega⟩
    rw [loopN_succ, c3x33_eq, t29, t28, vInt_int, vInt_int, bIf_pos (rfl : Nat.beq 3 3 = true), bIf_pos (rfl : Nat.beq 3 3 = true), forceB_eq, lss_no (by omega) (by omega), c3x34_eq, slot_same _ _ _ (by decide), vBool_bool, bIf_false, xCase_e, bIf_pos (rfl : Nat.beq 4 4 = true)]
    exact hkn _ (by rw [TT.ds_setSlot, tds]) (by rw [slot_ne _ _ _ _ (by decide) (by decide) (by decide)]) (by rw [slot_ne _ _ _ _ (by decide) (by decide) (by decide), t11]) (by rw [slot_ne _ _ _ _ (by decide) (by decide) (by decide)])
  | succ k ih =>
    intro idx fuel T hidx t11 t28 t29 tds hfu hkn
    obtain ⟨fuel, rfl⟩ : ∃ q, fuel = q + 1 := ⟨fuel - 1, by omega⟩
    have hlt : idx < (List.range L).length := by rw [List.length_range]; omega
    rw [loopN_succ, c3x33_eq, t29, t28, vInt_int, vInt_int, bIf_pos (rfl : Nat.beq 3 3 = true), bIf_pos (rfl : Nat.beq 3 3 = true), forceB_eq, lss_yes (by omega) (by omega), c3x34_eq, slot_same _ _ _ (by decide), vBool_bool, bIf_true, c3x35_eq, c3x36_eq]
    rcases id hO with ⟨_, h0⟩ | ⟨a, rs, hav, ha, hg, hc, hr⟩
    · rw [h0] at hlt; simp at hlt
    have hrow := hr idx idx (by rw [List.getElem?_range (by omega)])
    have e13 : (T.setSlot 30 (.bool true)).slot 29 = .int 3 idx := by rw [slot_ne _ _ _ _ (by decide) (by decide) (by decide), t29]
    rw [e13, slot_ne _ _ _ _ (by decide) (by decide) (by decide), slot_ne _ _ _ _ (by decide) (by decide) (by decide), t11, hav, vSlice_slice, slot_same _ _ _ (by decide), asIdx_int, bIf_pos (blt_yes hlt), bIf_pos (rfl : Nat.beq 1 1 = true), forceNat_eq, getO_eq, hg, oCells_cells,
      bIf_pos (ble_yes (show Nat.succ (Nat.add 0 idx) ≤ (List.range L).length by show 0 + idx + 1 ≤ _; omega)), bIf_pos (rfl : Nat.beq 1 1 = true), rowAt_eq (show Nat.add 0 idx < rs.cap by show 0 + idx < _; omega), show rs.row (Nat.add 0 idx) = [.int 3 idx] by rw [show Nat.add 0 idx = idx from Nat.zero_add idx]; exact hrow, nthC_eq (a := .int 3 idx) rfl,
      vInt_int, vInt_int, bIf_pos (rfl : Nat.beq 3 3 = true), bIf_pos (rfl : Nat.beq 3 3 = true), bIf_pos (beq_yes rfl), c3x37_eq, slot_same _ _ _ (by decide), vBool_bool, bIf_false, c3x38_eq, slot_ne _ _ _ _ (by decide) (by decide) (by decide), slot_ne _ _ _ _ (by decide) (by decide) (by decide), e13, vInt_int, bIf_pos (rfl : Nat.beq 3 3 = true), bIf_true, forceNat_eq, inc_eq (by omega)]
    refine ih (idx + 1) fuel _ (by omega) ?_ ?_ (slot_same _ _ _ (by decide)) ?_ (by omega) fun T' q1 q2 q3 q4 => hkn T' q1 (q2.trans ?_) q3 (q4.trans ?_)
    · rw [slot_ne _ _ _ _ (by decide) (by decide) (by decide), slot_ne _ _ _ _ (by decide) (by decide) (by decide), slot_ne _ _ _ _ (by decide) (by decide) (by decide), slot_ne _ _ _ _ (by decide) (by decide) (by decide), t11]
    · rw [slot_ne _ _ _ _ (by decide) (by decide) (by decide), slot_ne _ _ _ _ (by decide) (by decide) (by decide), slot_ne _ _ _ _ (by decide) (by decide) (by decide), slot_ne _ _ _ _ (by decide) (by decide) (by decide), t28]
    · rw [TT.ds_setSlot, TT.ds_setSlot, TT.ds_setSlot, TT.ds_setSlot, tds]
    · rw [slot_ne _ _ _ _ (by decide) (by decide) (by decide), slot_ne _ _ _ _ (by decide) (by decide) (by decide), slot_ne _ _ _ _ (by decide) (by decide) (by decide), slot_ne _ _ _ _ (by decide) (by decide) (by decide)]
    · rw [slot_ne _ _ _ _ (by decide) (by decide) (by decide), slot_ne _ _ _ _ (by decide) (by decide) (by decide), slot_ne _ _ _ _ (by decide) (by decide) (by decide), slot_ne _ _ _ _ (by decide) (by decide) (by decide)]
theorem len_eq {H : Heap} {v : AV} {ms : List Mod} (hE : EnvV H v ms) (k0 : Bool) (k : Nat → Bool) (h : k0 = k 0) : (vSliceN v k0 fun x x_1 l x_2 x_3 x_4 => k l) = k ms.length := by
  rcases hE with ⟨rfl, rfl⟩ | ⟨a, rs, rfl, _⟩
  · rw [vSliceN_nil, h]; rfl
  · rw [vSliceN_slice]
theorem leni_eq {H : Heap} {v : AV} {l : List Nat} (hE : IntV H v l) (k0 : Bool) (k : Nat → Bool) (h : k0 = k 0) : (vSliceN v k0 fun x x_1 l x_2 x_3 x_4 => k l) = k l.length := by
  rcases hE with ⟨rfl, rfl⟩ | ⟨a, rs, rfl, _⟩
  · rw [vSliceN_nil, h]; rfl
  · rw [vSliceN_slice]
theorem fin3 {X : Nat → Option XExt} (h5 : X 5 = none) (h8 : X 8 = none) (h14 : X 14 = none) (h9 : X 9 = none) (h15 : X 15 = none) (h16 : X 16 = none) (h18 : X 18 = none) (h19 : X 19 = none) (h17 : X 17 = none) (h44 : X 44 = none) (h43 : X 43 = none) {n : Nat} (hn : 330 ≤ n) {H : Heap} {ev sv : AV} {ms fin : List Mod} {T : TT} {kn : TT → Heap → Bool} {kx : Ev.X → TT → Heap → Bool}
    (hE : EnvV H ev ms) (hlen : ms.length ≤ 5) (hS : EnvV H sv fin) (hsf : ∀ m ∈ fin, m.fine) (hfl : fin.length = ms.length) (hord : orderM fin = (List.range ms.length, 0)) (hb : H.next + 300 ≤ 32768) (t2 : T.slot 2 = ev) (t5 : T.slot 5 = sv) (tds : T.ds = [])
    (hret : ∀ T' H', T'.ds = [] → T'.slot 1 = .bool true → kx .ret T' H' = true) : CC.f (K3 c3x30) n (CS X n) T H kn kx = true := by
  have hdo : dOrd fin.length ≤ 239 := by
    unfold dOrd
    rw [hfl]
    have h1 : ms.length * (3 * ms.length + 12) ≤ 5 * 27 := Nat.mul_le_mul hlen (by omega)
    have h2 : (ms.length + 1) * (3 * ms.length + 2) ≤ 6 * 17 := Nat.mul_le_mul (by omega) (by omega)
    omega
  rw [c3x30_eq, t5]
  refine order8 h8 h14 h9 h15 h16 h18 h19 h17 h44 h43 (by omega) hS hsf (by omega) (by omega) fun H1 av hav e1 => ?_
  rw [hord] at hav
  have hav : IntV H1 av (List.range ms.length) := hav
  rw [hord, resCase_val, vTup_tup, nthC0, vTup_tup, nthC_s, nthC0]
  have u11 : ((T.setSlot 11 av).setSlot 12 (.int 3 0)).slot 11 = av := by rw [slot_ne _ _ _ _ (by decide) (by decide) (by decide), slot_same _ _ _ (by decide)]
  have u12 : ((T.setSlot 11 av).setSlot 12 (.int 3 0)).slot 12 = .int 3 0 := slot_same _ _ _ (by decide)
  have u2 : ((T.setSlot 11 av).setSlot 12 (.int 3 0)).slot 2 = ev := by rw [slot_ne _ _ _ _ (by decide) (by decide) (by decide), slot_ne _ _ _ _ (by decide) (by decide) (by decide), t2]
  have uds : ((T.setSlot 11 av).setSlot 12 (.int 3 0)).ds = [] := by rw [TT.ds_setSlot, TT.ds_setSlot, tds]
  change CC.f (K3 c3x31) n (CS X n) ((T.setSlot 11 av).setSlot 12 (.int 3 0)) H1 kn kx = true
  generalize (T.setSlot 11 av).setSlot 12 (.int 3 0) = T1 at *
  have h39 : ∀ T' : TT, T'.ds = [] → T'.slot 2 = ev → T'.slot 11 = av → T'.slot 12 = .int 3 0 → CC.f (K3 c3x39) n (CS X n) T' H1 kn kx = true := by
    intro T' q1 q2 q11 q12
    have hgo : (vSliceN av
        (vSliceN ev (bIf true (bIf true (forceB true fun r => bIf true (Rg.f r3g3 (CS X n) [AV.bool r, AV.bool r, AV.bool r, AV.int 3 0, ev, AV.int 3 0, av, AV.bool true, AV.bool true, AV.int 3 0] T' H1 (fun T H => kx .ret T H) fun T v H => kx (Ev.X.panic v) T H) (bIf false ((fun T H => kx .ret T H) (T'.setSlot 1 AV.undef) H1) ((fun T H => kx .ret T H) (T'.setSlot 1 (AV.bool false)) H1))) false) false)
          fun x x_1 l x_2 x_3 x_4 => bIf true (bIf true (forceB (Nat.beq 0 l) fun r => bIf true (Rg.f r3g3 (CS X n) [AV.bool r, AV.bool r, AV.bool r, AV.int 3 l, ev, AV.int 3 0, av, AV.bool true, AV.bool true, AV.int 3 0] T' H1 (fun T H => kx .ret T H) fun T v H => kx (Ev.X.panic v) T H) (bIf false ((fun T H => kx .ret T H) (T'.setSlot 1 AV.undef) H1) ((fun T H => kx .ret T H) (T'.setSlot 1 (AV.bool false)) H1))) false) false)
        fun x x_1 l x_2 x_3 x_4 => vSliceN ev (bIf true (bIf true (forceB (Nat.beq l 0) fun r => bIf true (Rg.f r3g3 (CS X n) [AV.bool r, AV.bool r, AV.bool r, AV.int 3 0, ev, AV.int 3 l, av, AV.bool true, AV.bool true, AV.int 3 0] T' H1 (fun T H => kx .ret T H) fun T v H => kx (Ev.X.panic v) T H) (bIf false ((fun T H => kx .ret T H) (T'.setSlot 1 AV.undef) H1) ((fun T H => kx .ret T H) (T'.setSlot 1 (AV.bool false)) H1))) false) false)
          fun x x_5 l_1 x_6 x_7 x_8 => bIf true (bIf true (forceB (Nat.beq l l_1) fun r => bIf true (Rg.f r3g3 (CS X n) [AV.bool r, AV.bool r, AV.bool r, AV.int 3 l_1, ev, AV.int 3 l, av, AV.bool true, AV.bool true, AV.int 3 0] T' H1 (fun T H => kx .ret T H) fun T v H => kx (Ev.X.panic v) T H) (bIf false ((fun T H => kx .ret T H) (T'.setSlot 1 AV.undef) H1) ((fun T H => kx .ret T H) (T'.setSlot 1 (AV.bool false)) H1))) false) false) = true := by
      have hl : (List.range ms.length).length = ms.length := List.length_range
      rcases hav with ⟨rfl, h0⟩ | ⟨a, rs, rfl, _⟩ <;> rcases hE with ⟨rfl, h1⟩ | ⟨a2, rs2, rfl, _⟩
      · rw [vSliceN_nil, vSliceN_nil, bIf_true, bIf_true, forceB_eq, bIf_true, r3g3_true, aw5 h5 (by omega), resCase_val, bIf_true]
        exact hret _ _ (by rw [TT.ds_setSlot, q1]) (slot_same _ _ _ (by decide))
      · rw [h0] at hl
        rw [vSliceN_nil, vSliceN_slice, bIf_true, bIf_true, show Nat.beq 0 ms.length = true from beq_yes hl, forceB_eq, bIf_true, r3g3_true, aw5 h5 (by omega), resCase_val, bIf_true]
        exact hret _ _ (by rw [TT.ds_setSlot, q1]) (slot_same _ _ _ (by decide))
      · rw [vSliceN_slice, vSliceN_nil, bIf_true, bIf_true, show Nat.beq (List.range ms.length).length 0 = true from beq_yes (by rw [hl, h1]; rfl), forceB_eq, bIf_true, r3g3_true, aw5 h5 (by omega), resCase_val, bIf_true]
        exact hret _ _ (by rw [TT.ds_setSlot, q1]) (slot_same _ _ _ (by decide))
      · rw [vSliceN_slice, vSliceN_slice, bIf_true, bIf_true, show Nat.beq (List.range ms.length).length ms.length = true from beq_yes hl, forceB_eq, bIf_true, r3g3_true, aw5 h5 (by omega), resCase_val, bIf_true]
        exact hret _ _ (by rw [TT.ds_setSlot, q1]) (slot_same _ _ _ (by decide))
    rw [c3x39_eq, q12, vInt_int, bIf_pos (rfl : Nat.beq 3 3 = true), bIf_true, show Nat.beq 0 0 = true from rfl, forceB_eq, r3g2_true, q11, q2]
    exact hgo
  have hl : (List.range ms.length).length = ms.length := List.length_range
  have hloop : ∀ T2 : TT, T2.slot 11 = av → T2.slot 28 = .int 3 ms.length → T2.slot 29 = .int 3 0 → T2.slot 2 = ev → T2.slot 12 = .int 3 0 → T2.ds = [] → CC.f (K3 c3x32) n (CS X n) T2 H1 (fun T H => CC.f (K3 c3x39) n (CS X n) T H kn kx) kx = true := by
    intro T2 q11 q28 q29 q2 q12 qds
    rw [c3x32_eq]
    refine rng3 hlen hav ms.length 0 n T2 (by omega) q11 q28 q29 qds (by omega) fun T' r1 r2 r3 r4 => ?_
    exact h39 T' r1 (r2.trans q2) r3 (r4.trans q12)
  rw [c3x31_eq, u11]
  rcases id hav with ⟨hv, h0⟩ | ⟨a, rs, hv, _⟩
  · rw [h0] at hl
    rw [hv, vSliceN_nil]
    refine hloop _ ?_ ?_ (slot_same _ _ _ (by decide)) ?_ ?_ ?_
    · rw [slot_ne _ _ _ _ (by decide) (by decide) (by decide), slot_ne _ _ _ _ (by decide) (by decide) (by decide), u11]
    · rw [slot_ne _ _ _ _ (by decide) (by decide) (by decide), slot_same _ _ _ (by decide), ← hl]; rfl
    · rw [slot_ne _ _ _ _ (by decide) (by decide) (by decide), slot_ne _ _ _ _ (by decide) (by decide) (by decide), u2]
    · rw [slot_ne _ _ _ _ (by decide) (by decide) (by decide), slot_ne _ _ _ _ (by decide) (by decide) (by decide), u12]
    · rw [TT.ds_setSlot, TT.ds_setSlot, uds]
  · rw [hv, vSliceN_slice]
    refine hloop _ ?_ ?_ (slot_same _ _ _ (by decide)) ?_ ?_ ?_
    · rw [slot_ne _ _ _ _ (by decide) (by decide) (by decide), slot_ne _ _ _ _ (by decide) (by decide) (by decide), u11]
    · rw [slot_ne _ _ _ _ (by decide) (by decide) (by decide), slot_same _ _ _ (by decide), hl]
    · rw [slot_ne _ _ _ _ (by decide) (by decide) (by decide), slot_ne _ _ _ _ (by decide) (by decide) (by decide), u2]
    · rw [slot_ne _ _ _ _ (by decide) (by decide) (by decide), slot_ne _ _ _ _ (by decide) (by decide) (by decide), u12]
    · rw [TT.ds_setSlot, TT.ds_setSlot, uds]
end Go.Sp

namespace Go.Sp
open Go Go.Ev Go.Proofs
set_option linter.unusedVariables false
/-- a list that is too long: the check of the start alone -/
theorem law3_heavy {X : Nat → Option XExt} (h3 : X 3 = none) (h4 : X 4 = none) (h5 : X 5 = none) {V : Value} (hV : isSl V = true) (hl : lightV V = false) {n : Nat} (hn : 10 ≤ n) {H : Heap} {k : Res → Heap → Bool} (hk : ∀ H', k (.val (.bool true)) H' = true) : CS X n 3 [.opq V] H k = true := by
  obtain ⟨n, rfl⟩ : ∃ j, n = j + 1 := ⟨n - 1, by omega⟩
  rw [CS_succ _ _ _ _ _ _ h3, e3_eq, lenC1, initT1, f3_eq, c3x0_eq, slot_ne _ _ _ _ (by decide) (by decide) (by decide), slot_same _ _ _ (by decide), li4 h4 (by omega) _ hV, hl, resCase_val, vBool_bool, bIf_false, c3x1_eq, slot_same _ _ _ (by decide), vBool_bool, bIf_true, aw5 h5 (by omega), resCase_val, xCase_r, noDs_set, noDs_set, noDs_set, noDs_set, noDs0, slot_same _ _ _ (by decide)]
  exact hk _
theorem law3 {X : Nat → Option XExt} {V : Value} {N : Nat} (h12 : X 12 = some (nextX V N 64)) (h : ∀ f, f ≠ 12 → X f = none) (hV : isSl V = true) (hl : lightV V = true) {n : Nat} (hn : 400 ≤ n) {H : Heap} (hb : H.next < 1000) {k : Res → Heap → Bool} (hk : ∀ H', k (.val (.bool true)) H' = true) : CS X n 3 [.opq V] H k = true := by
  obtain ⟨n, rfl⟩ : ∃ j, n = j + 1 := ⟨n - 1, by omega⟩
  have X3 := h 3 (by decide)
  have X4 := h 4 (by decide)
  have X5 := h 5 (by decide)
  have X6 := h 6 (by decide)
  have X7 := h 7 (by decide)
  have X8 := h 8 (by decide)
  have X9 := h 9 (by decide)
  have X13 := h 13 (by decide)
  have X14 := h 14 (by decide)
  have X15 := h 15 (by decide)
  have X16 := h 16 (by decide)
  have X17 := h 17 (by decide)
  have X18 := h 18 (by decide)
  have X19 := h 19 (by decide)
  have X43 := h 43 (by decide)
  have X44 := h 44 (by decide)
  have hb1 : H.next < 32768 := by omega
  rw [CS_succ _ _ _ _ _ _ X3, e3_eq, lenC1, initT1, f3_eq]
  have hret : ∀ (T' : TT) (H' : Heap), T'.ds = [] → T'.slot 1 = .bool true → (fun x T H => xCase x (fun x => false) (noDs T (k (Res.val (TT.slot T 1)) H)) fun v => noDs T (k (Res.pan v) H)) Ev.X.ret T' H' = true := by
    intro T' H' q1 q2
    show xCase Ev.X.ret _ _ _ = true
    rw [xCase_r, noDs_nil q1, q2]
    exact hk H'
  revert hret
  generalize (fun x T H => xCase x (fun x => false) (noDs T (k (Res.val (TT.slot T 1)) H)) fun v => noDs T (k (Res.pan v) H)) = kx
  generalize (fun T H => noDs T (k (Res.val (TT.slot T 1)) H)) = kn
  intro hret
  have s0 : ((TT0.setSlot 0 (.opq V)).setSlot 1 (.bool false)).slot 0 = .opq V := by rw [slot_ne _ _ _ _ (by decide) (by decide) (by decide), slot_same _ _ _ (by decide)]
  have sds : ((TT0.setSlot 0 (.opq V)).setSlot 1 (.bool false)).ds = [] := by rw [TT.ds_setSlot, TT.ds_setSlot]; rfl
  generalize (TT0.setSlot 0 (.opq V)).setSlot 1 (.bool false) = T0 at *
  rw [c3x0_eq, s0, li4 X4 (by omega) _ hV, hl, resCase_val, vBool_bool, bIf_true, c3x1_eq, slot_same _ _ _ (by decide), vBool_bool, bIf_false, c3x2_eq, slot_ne _ _ _ _ (by decide) (by decide) (by decide), s0]
  -- Roll
  obtain ⟨n', hn'⟩ : ∃ j, n = j + 1 := ⟨n - 1, by omega⟩
  have hroll : ∀ K : Res → Heap → Bool, CS X n 7 [.opq V] H K = K (.val (.ptr H.next 0 0 2)) (H.add (diceO V 64 0)) := by
    intro K
    rw [hn', CS_succ _ _ _ _ _ _ X7, e7_eq, lenC1, initT1, f7_eq, c7x0_eq, slot_ne _ _ _ _ (by decide) (by decide) (by decide), slot_same _ _ _ (by decide), show (cellsN (.opq V) 1 : (List AV → Bool) → Bool) = fun k => k [.opq V] from rfl]
    simp only []
    rw [appC_eq, bIf_true, newO_eq hb1, xCase_r, noDs_set, noDs_set, noDs_set, noDs0, slot_same _ _ _ (by decide)]
    rfl
  rw [hroll, resCase_val]
  have e1 : Ex H (H.add (diceO V 64 0)) 1 := Ex.add _ hb1
  have g1 : (H.add (diceO V 64 0)).get H.next = diceO V 64 0 := Heap.get_add_new hb1
  have n1 : (H.add (diceO V 64 0)).next = H.next + 1 := rfl
  generalize H.add (diceO V 64 0) = H1 at *
  refine env6 (V := V) (N := N) X6 h12 X13 (by omega) ⟨by omega, 0, Nat.zero_le _, g1⟩ (by omega) (by omega) fun H2 ov ms hE hf hlen hn2 hl2 _ => ?_
  have hdo : dOrd ms.length ≤ 239 := by
    unfold dOrd
    have h1 : ms.length * (3 * ms.length + 12) ≤ 5 * 27 := Nat.mul_le_mul hlen (by omega)
    have h2 : (ms.length + 1) * (3 * ms.length + 2) ≤ 6 * 17 := Nat.mul_le_mul (by omega) (by omega)
    omega
  have k1 := (Keep.refl (fun i => !Nat.beq i 14 && !Nat.beq i 2) T0).set (.bool false) (show 14 < 64 by decide) rfl |>.set ov (show 2 < 64 by decide) rfl
  have u2 : ((T0.setSlot 14 (.bool false)).setSlot 2 ov).slot 2 = ov := slot_same _ _ _ (by decide)
  rw [resCase_val]
  generalize (T0.setSlot 14 (.bool false)).setSlot 2 ov = T1 at *
  have uds : T1.ds = [] := by rw [k1.1, sds]
  rw [c3x3_eq, u2]
  refine order8 X8 X14 X9 X15 X16 X18 X19 X17 X44 X43 (by omega) hE hf (by omega) (by omega) fun H3 ow how e3 => ?_
  have hn3 := e3.next
  have hl3 := e3.le
  rw [resCase_val, vTup_tup, nthC0, vTup_tup, nthC_s, nthC0, c3x4_eq, slot_same _ _ _ (by decide), vInt_int, bIf_pos (rfl : Nat.beq 3 3 = true), bIf_true]
  cases hord : orderM ms with
  | mk out e =>
  rw [hord] at how
  have how : IntV H3 ow out := how
  show bIf (Nat.beq e 0) _ _ = true
  by_cases he : e = 0
  · subst he
    obtain ⟨hol, fin, hfin, hfl, hord2⟩ := orderM_sorted hord
    rw [bIf_pos (rfl : Nat.beq 0 0 = true), c3x5_eq, slot_same _ _ _ (by decide), vBool_bool, bIf_false]
    have w2 : (((T1.setSlot 3 ow).setSlot 4 (.int 3 0)).setSlot 15 (.bool false)).slot 2 = ov := by rw [slot_ne _ _ _ _ (by decide) (by decide) (by decide), slot_ne _ _ _ _ (by decide) (by decide) (by decide), slot_ne _ _ _ _ (by decide) (by decide) (by decide), u2]
    have w3 : (((T1.setSlot 3 ow).setSlot 4 (.int 3 0)).setSlot 15 (.bool false)).slot 3 = ow := by rw [slot_ne _ _ _ _ (by decide) (by decide) (by decide), slot_ne _ _ _ _ (by decide) (by decide) (by decide), slot_same _ _ _ (by decide)]
    have wds : (((T1.setSlot 3 ow).setSlot 4 (.int 3 0)).setSlot 15 (.bool false)).ds = [] := by rw [TT.ds_setSlot, TT.ds_setSlot, TT.ds_setSlot, uds]
    generalize ((T1.setSlot 3 ow).setSlot 4 (.int 3 0)).setSlot 15 (.bool false) = T2 at *
    have hE3 := hE.ex e3
    have h9 : ∀ T3 : TT, T3.slot 2 = ov → T3.slot 3 = ow → T3.ds = [] → CC.f (K3 c3x7) n (CS X n) (T3.setSlot 16 (.bool false)) H3 (fun T H => CC.f (K3 c3x8) n (CS X n) T H kn kx) kx = true := by
      intro T3 q2 q3 qds
      rw [c3x7_eq, slot_same _ _ _ (by decide), vBool_bool, bIf_false, c3x8_eq]
      have v2 : ((T3.setSlot 16 (.bool false)).setSlot 5 (.nil .s)).slot 2 = ov := by rw [slot_ne _ _ _ _ (by decide) (by decide) (by decide), slot_ne _ _ _ _ (by decide) (by decide) (by decide), q2]
      have v3 : ((T3.setSlot 16 (.bool false)).setSlot 5 (.nil .s)).slot 3 = ow := by rw [slot_ne _ _ _ _ (by decide) (by decide) (by decide), slot_ne _ _ _ _ (by decide) (by decide) (by decide), q3]
      have v5 : ((T3.setSlot 16 (.bool false)).setSlot 5 (.nil .s)).slot 5 = .nil .s := slot_same _ _ _ (by decide)
      have vds : ((T3.setSlot 16 (.bool false)).setSlot 5 (.nil .s)).ds = [] := by rw [TT.ds_setSlot, TT.ds_setSlot, qds]
      generalize (T3.setSlot 16 (.bool false)).setSlot 5 (.nil .s) = T4 at *
      have hloop : ∀ T5 : TT, T5.slot 2 = ov → T5.slot 5 = .nil .s → T5.slot 17 = ow → T5.slot 18 = .int 3 out.length → T5.slot 19 = .int 3 0 → T5.ds = [] → CC.f (K3 c3x10) n (CS X n) T5 H3 (fun T H => CC.f (K3 c3x30) n (CS X n) T H kn kx) kx = true := by
        intro T5 r2 r5 r17 r18 r19 rds
        rw [c3x10_eq]
        refine ord3 X9 X15 X19 (by omega) hE3 hf hlen how hol (by omega) ?_ out 0 n T5 H3 [] (.nil .s) rfl hfin r2 r5 r17 r18 r19 rds (.inl ⟨rfl, rfl⟩) (fun m hm => by cases hm) rfl (Nat.zero_le _) (Ex.refl _ _) (by omega)
        intro T6 H6 sv6 p1 p2 p5 p6 p7 p8
        have hl6 := p8.le
        exact fin3 X5 X8 X14 X9 X15 X16 X18 X19 X17 X44 X43 (by omega) (hE3.ex p8) hlen p6.env p7 hfl hord2 (by omega) p2 p5 p1 hret
      rw [c3x9_eq, v3]
      rcases id how with ⟨hv, h0⟩ | ⟨a, rs, hv, _⟩
      · rw [hv, vSliceN_nil, ← hv]
        refine hloop _ ?_ ?_ ?_ ?_ (slot_same _ _ _ (by decide)) ?_
        · rw [slot_ne _ _ _ _ (by decide) (by decide) (by decide), slot_ne _ _ _ _ (by decide) (by decide) (by decide), slot_ne _ _ _ _ (by decide) (by decide) (by decide), v2]
        · rw [slot_ne _ _ _ _ (by decide) (by decide) (by decide), slot_ne _ _ _ _ (by decide) (by decide) (by decide), slot_ne _ _ _ _ (by decide) (by decide) (by decide), v5]
        · rw [slot_ne _ _ _ _ (by decide) (by decide) (by decide), slot_ne _ _ _ _ (by decide) (by decide) (by decide), slot_same _ _ _ (by decide)]
        · rw [slot_ne _ _ _ _ (by decide) (by decide) (by decide), slot_same _ _ _ (by decide), show out = [] from h0]; rfl
        · rw [TT.ds_setSlot, TT.ds_setSlot, TT.ds_setSlot, vds]
      · rw [hv, vSliceN_slice, ← hv]
        refine hloop _ ?_ ?_ ?_ ?_ (slot_same _ _ _ (by decide)) ?_
        · rw [slot_ne _ _ _ _ (by decide) (by decide) (by decide), slot_ne _ _ _ _ (by decide) (by decide) (by decide), slot_ne _ _ _ _ (by decide) (by decide) (by decide), v2]
        · rw [slot_ne _ _ _ _ (by decide) (by decide) (by decide), slot_ne _ _ _ _ (by decide) (by decide) (by decide), slot_ne _ _ _ _ (by decide) (by decide) (by decide), v5]
        · rw [slot_ne _ _ _ _ (by decide) (by decide) (by decide), slot_ne _ _ _ _ (by decide) (by decide) (by decide), slot_same _ _ _ (by decide)]
        · rw [slot_ne _ _ _ _ (by decide) (by decide) (by decide), slot_same _ _ _ (by decide)]
        · rw [TT.ds_setSlot, TT.ds_setSlot, TT.ds_setSlot, vds]
    rw [c3x6_eq, w3, w2]
    have hol' := hol
    rcases id how with ⟨hv, h0⟩ | ⟨a, rs, hv, _⟩ <;> rcases id hE3 with ⟨hv2, h1⟩ | ⟨a2, rs2, hv2, _⟩
    · rw [hv, hv2, vSliceN_nil, vSliceN_nil, bIf_true, bIf_true, bIf_true]
      exact h9 T2 w2 w3 wds
    · rw [show out = [] from h0] at hol'
      rw [hv, hv2, vSliceN_nil, vSliceN_slice, bIf_true, bIf_true, bIf_pos (beq_yes (show 0 = ms.length from hol'))]
      exact h9 T2 w2 w3 wds
    · rw [h1] at hol'
      rw [hv, hv2, vSliceN_slice, vSliceN_nil, bIf_true, bIf_true, bIf_pos (beq_yes (show out.length = 0 from hol'))]
      exact h9 T2 w2 w3 wds
    · rw [hv, hv2, vSliceN_slice, vSliceN_slice, bIf_true, bIf_true, bIf_pos (beq_yes hol)]
      exact h9 T2 w2 w3 wds
  · have hout := orderM_bad hord he
    subst hout
    rw [bIf_neg (beq_no he), c3x5_eq, slot_same _ _ _ (by decide), vBool_bool, bIf_true, slot_ne _ _ _ _ (by decide) (by decide) (by decide), slot_ne _ _ _ _ (by decide) (by decide) (by decide), slot_same _ _ _ (by decide)]
    rcases how with ⟨rfl, _⟩ | ⟨a, rs, rfl, _⟩
    · rw [vSliceN_nil, bIf_true, bIf_true, forceB_eq, r3g0_true, aw5 X5 (by omega), resCase_val, bIf_true]
      exact hret _ _ (by rw [TT.ds_setSlot, TT.ds_setSlot, TT.ds_setSlot, TT.ds_setSlot, uds]) (slot_same _ _ _ (by decide))
    · rw [vSliceN_slice, bIf_true, bIf_true, show Nat.beq ([] : List Nat).length 0 = true from rfl, forceB_eq, r3g0_true, aw5 X5 (by omega), resCase_val, bIf_true]
      exact hret _ _ (by rw [TT.ds_setSlot, TT.ds_setSlot, TT.ds_setSlot, TT.ds_setSlot, uds]) (slot_same _ _ _ (by decide))
end Go.Sp
