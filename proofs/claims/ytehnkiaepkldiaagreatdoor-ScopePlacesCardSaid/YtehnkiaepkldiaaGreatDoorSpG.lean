/- What ModuleOf, IndexFunc, ContainsFunc and the closures of Order find. -/
import Derived.Test.YtehnkiaepkldiaaGreatDoorSpC
import Derived.Test.YtehnkiaepkldiaaGreatDoorSpA
namespace Go.Sp
open Go Go.Ev Go.Proofs
noncomputable def CS (X : Nat → Option XExt) : Nat → CallK := callX (pgF Tryz.prog) E0 extS X
theorem CS_succ (X : Nat → Option XExt) (n f : Nat) (args : List AV) (H : Heap) (k : Res → Heap → Bool) (h : X f = none) : CS X (n + 1) f args H k = (cfn (pgF Tryz.prog) E0 extS f).f n (CS X n) args H k := callX_succ n f args H k h
theorem strEq1 {a b : Nat} (ha : a < 256) (hb : b < 256) : strEq 1 a 1 b = (a == b) := by
  have e1 : Nat.mod a (p8 1) = a := Nat.mod_eq_of_lt ha
  have e2 : Nat.mod b (p8 1) = b := Nat.mod_eq_of_lt hb
  unfold strEq
  rw [e1, e2, bIf_pos (rfl : Nat.beq 1 1 = true)]
  rw [Bool.eq_iff_iff, beq_iff', beq_iff_eq]
theorem nthC_eq {l : List AV} {i : Nat} {a : AV} {k : AV → Bool} (h : l[i]? = some a) : nthC l i k = k a := by
  unfold nthC
  have hi : i < l.length := (List.getElem?_eq_some_iff.1 h).1
  rw [dropC_eq (by omega), List.drop_eq_getElem_cons hi]
  have : l[i] = a := (List.getElem?_eq_some_iff.1 h).2
  rw [this]; rfl
theorem rowOf_eq {a r s z n el : Nat} {u ro : Bool} {rs : Ev.Rows} {H : Heap} {k : Nat → Nat → List AV → Bool} (hg : H.get a = .cells rs n z el u ro) (hr : r < n) (hc : r < rs.cap) : rowOf (.ptr a r s z) H k = k s z (rs.row r) := by
  unfold rowOf
  rw [vPtr_ptr, getO_eq, hg, oCells_cells, bIf_pos (blt_yes hr), bIf_pos (beq_yes rfl), rowAt_eq hc]
theorem cl19 {X : Nat → Option XExt} (hX : X 19 = none) {n : Nat} (hn : 1 ≤ n) {H : Heap} (hb : H.next < 32768) {m : Mod} {iv : AV} {nm p : Nat} (hp : p < H.next) (hg : H.get p = varObj 9 1 [.str 1 nm]) (h1 : m.name < 256) (h2 : nm < 256)
    {k : Res → Heap → Bool} (hk : ∀ H', Ex H H' 1 → k (.val (.bool (m.name == nm))) H' = true) : CS X n 19 [.agg 9 (modRow m iv), .ptr p 0 0 1] H k = true := by
  obtain ⟨n, rfl⟩ : ∃ j, n = j + 1 := ⟨n - 1, by omega⟩
  rw [CS_succ _ _ _ _ _ _ hX, e19_eq, lenC2, initT2, f19_eq]
  simp +decide only [slot_same, slot_ne, cellsN_agg]
  rw [newO_eq hb, c19x0_eq]
  simp +decide only [slot_same, slot_ne, vPtr_ptr, forceNat_eq, getO_eq, Heap.get_add_new hb, varObj_eq, oCells_cells, rowAt_r0]
  have hg' : (H.add (AObj.cells (Rows.r0 (modRow m iv)) 1 9 39 false false)).get p = .cells (.r0 [.str 1 nm]) 1 1 9 false false := by
    rw [Heap.get_add_old hb hp, hg]; rfl
  rw [bIf_pos (ble_yes (by omega)), bIf_pos (beq_yes rfl)]
  rw [nthC_eq (a := .str 1 m.name) rfl, rowOf_eq hg' (by omega) Nat.one_pos, nthC_eq (a := .str 1 nm) rfl]
  rw [vStr_str, vStr_str, forceB_eq, strEq1 h1 h2, xCase_r]
  simp only [noDs_set, noDs0]
  exact hk _ (Ex.add _ hb)
end Go.Sp

namespace Go.Sp
open Go Go.Ev Go.Proofs
set_option linter.unusedVariables false
theorem drop_cons {α : Type} {l r : List α} {i : Nat} {a : α} (h : l.drop i = a :: r) : l[i]? = some a ∧ l.drop (i + 1) = r ∧ i < l.length := by
  have hi : i < l.length := by
    rcases Nat.lt_or_ge i l.length with h1 | h1
    · exact h1
    · rw [List.drop_eq_nil_of_le h1] at h; cases h
  rw [List.drop_eq_getElem_cons hi] at h
  injection h with h1 h2
  exact ⟨by rw [List.getElem?_eq_getElem hi, h1], h2, hi⟩
theorem idxFrom_cons {α : Type} (p : α → Bool) (i : Nat) (a : α) (l : List α) : idxFrom p i (a :: l) = if p a = true then some i else idxFrom p (i + 1) l := rfl
theorem idxFrom_nil {α : Type} (p : α → Bool) (i : Nat) : idxFrom p i ([] : List α) = none := rfl
/-- the round of IndexFunc over modules, from place i on -/
theorem idx15_loop {X : Nat → Option XExt} {n : Nat} {H : Heap} {a : Nat} {rs : Ev.Rows} {ms : List Mod} {g d : Nat} {ys : List AV} {p : Mod → Bool} {k : Res → Heap → Bool}
    (ha : a < H.next) (hg : H.get a = .cells rs ms.length 9 39 true false) (hc : ms.length ≤ rs.cap) (hr : ∀ j m, ms[j]? = some m → ∃ iv, rs.row j = modRow m iv) (hlen : ms.length ≤ 100) (hd : d ≤ 100) (hb : H.next + ms.length * d ≤ 32768)
    (hcl : ∀ m iv (H1 : Heap) k', m ∈ ms → (∃ j, rs.row j = modRow m iv ∧ ms[j]? = some m) → Ex H H1 (ms.length * d) → H1.next + d ≤ 32768 → (∀ H2, Ex H1 H2 d → k' (.val (.bool (p m))) H2 = true) → CS X n g (.agg 9 (modRow m iv) :: ys) H1 k' = true)
    (hk : ∀ H', Ex H H' (ms.length * d) → k (.val (.int 3 (code (idxFrom p 0 ms)))) H' = true) :
    ∀ (l : List Mod) (i fuel : Nat) (T : TT) (H1 : Heap), ms.drop i = l → idxFrom p i l = idxFrom p 0 ms → T.slot 0 = .slice a 0 ms.length 0 true 9 → T.slot 1 = .fn g [] ys → T.slot 4 = .int 3 ms.length → T.slot 5 = .int 3 i → T.ds = [] → i ≤ ms.length →
      Ex H H1 (i * d) → l.length < fuel →
      loopN (fun again T H => CC.f (K15 c15x2) n (CS X n) T H again fun x T H => xCase x (fun i => bIf (Nat.beq i 0) (CC.f (K15 c15x8) n (CS X n) T H (fun T H => noDs T (k (Res.val (TT.slot T 2)) H)) fun x T H => xCase x (fun x => false) (noDs T (k (Res.val (TT.slot T 2)) H)) fun v => noDs T (k (Res.pan v) H)) (xCase (Ev.X.exit i) (fun x => false) (noDs T (k (Res.val (TT.slot T 2)) H)) fun v => noDs T (k (Res.pan v) H)))
        (xCase Ev.X.ret (fun x => false) (noDs T (k (Res.val (TT.slot T 2)) H)) fun v => noDs T (k (Res.pan v) H)) fun v => xCase (Ev.X.panic v) (fun x => false) (noDs T (k (Res.val (TT.slot T 2)) H)) fun v => noDs T (k (Res.pan v) H)) fuel T H1 = true := by
  intro l
  induction l with
  | nil =>
    intro i fuel T H1 h1 h2 t0 t1 t4 t5 tds hile he hf
    obtain ⟨fuel, rfl⟩ : ∃ j, fuel = j + 1 := ⟨fuel - 1, by simp at hf; omega⟩
    have hi : ms.length ≤ i := List.drop_eq_nil_iff.1 h1
    have hi2 : i = ms.length := by omega
    rw [loopN_succ, c15x2_eq, t5, t4, vInt_int, vInt_int, bIf_pos (rfl : Nat.beq 3 3 = true), bIf_pos (rfl : Nat.beq 3 3 = true), forceB_eq, lss_no (by omega) (by omega), c15x3_eq]
    simp +decide only [slot_same, vBool_bool, bIf_false]
    rw [xCase_e, bIf_pos (rfl : Nat.beq 0 0 = true), c15x8_eq, xCase_r]
    simp +decide only [noDs_set, slot_same]
    rw [noDs_nil tds]
    have := hk H1 (he.mono (by rw [hi2]; omega))
    rw [← h2, idxFrom_nil] at this
    exact this
  | cons m l ih =>
    intro i fuel T H1 h1 h2 t0 t1 t4 t5 tds hile he hf
    obtain ⟨fuel, rfl⟩ : ∃ j, fuel = j + 1 := ⟨fuel - 1, by simp at hf; omega⟩
    obtain ⟨hm, h1', hi⟩ := drop_cons h1
    obtain ⟨iv, hrow⟩ := hr i m hm
    have hid : i * d + d ≤ ms.length * d := by
      have := Nat.mul_le_mul_right d (show i + 1 ≤ ms.length by omega)
      rw [Nat.add_mul] at this; omega
    have hg1 : H1.get a = .cells rs ms.length 9 39 true false := (he.same a ha).trans hg
    rw [loopN_succ, c15x2_eq, t5, t4, vInt_int, vInt_int, bIf_pos (rfl : Nat.beq 3 3 = true), bIf_pos (rfl : Nat.beq 3 3 = true), forceB_eq, lss_yes hi (by omega), c15x3_eq]
    simp +decide only [slot_same, vBool_bool, bIf_true]
    rw [c15x4_eq]
    simp +decide only [slot_ne, t5]
    rw [c15x5_eq]
    simp +decide only [slot_ne, slot_same, t0, t1, vSlice_slice, asIdx_int, getO_eq, hg1, oCells_cells]
    rw [bIf_pos (blt_yes hi), bIf_pos (rfl : Nat.beq 9 9 = true), forceNat_eq, bIf_pos (ble_yes (show Nat.succ (Nat.add 0 i) ≤ ms.length by show 0 + i + 1 ≤ _; omega)), bIf_pos (rfl : Nat.beq 9 9 = true),
      rowAt_eq (show Nat.add 0 i < rs.cap by show 0 + i < _; omega), bIf_pos (rfl : Nat.beq 9 9 = true), bIf_true, vFn_fn, appC_eq, appC_eq]
    rw [show rs.row (Nat.add 0 i) = modRow m iv by rw [show Nat.add 0 i = i from Nat.zero_add i]; exact hrow]
    refine hcl m iv H1 _ (List.mem_of_getElem? hm) ⟨i, hrow, hm⟩ (he.mono (by omega)) (by have := he.le; omega) fun H2 h2x => ?_
    rw [resCase_val, c15x6_eq]
    simp +decide only [slot_ne, slot_same, vBool_bool]
    rw [idxFrom_cons] at h2
    by_cases hp : p m = true
    · rw [if_pos hp] at h2
      rw [bIf_pos hp, xCase_r, xCase_r, xCase_r]
      simp +decide only [noDs_set]
      rw [noDs_nil tds]
      have := hk H2 ((he.trans h2x).mono (by omega))
      rw [← h2] at this
      exact this
    · rw [if_neg hp] at h2
      rw [bIf_neg (by simpa using hp), c15x7_eq]
      simp +decide only [slot_ne, t5, vInt_int, bIf_true, forceNat_eq]
      rw [bIf_pos (rfl : Nat.beq 3 3 = true), inc_eq (by omega)]
      refine ih (i + 1) fuel _ H2 h1' h2 ?_ ?_ ?_ ?_ ?_ (by omega) ((he.trans h2x).mono (by rw [Nat.add_mul]; omega)) (by simp at hf; omega)
      all_goals first | (simp +decide only [slot_ne, slot_same, t0, t1, t4]; done) | (simp only [TT.ds_setSlot, tds]; done)
/-- IndexFunc over modules: the first place at which the closure answers true -/
theorem idx15 {X : Nat → Option XExt} (hX : X 15 = none) {n : Nat} (hn : 200 ≤ n) {H : Heap} {v : AV} {ms : List Mod} {g d : Nat} {ys : List AV} {p : Mod → Bool} {k : Res → Heap → Bool}
    (hE : EnvV H v ms) (hlen : ms.length ≤ 100) (hd : d ≤ 100) (hb : H.next + ms.length * d ≤ 32768)
    (hcl : ∀ m iv (H1 : Heap) k', m ∈ ms → ImpV H1 iv m.imps → Ex H H1 (ms.length * d) → H1.next + d ≤ 32768 → (∀ H2, Ex H1 H2 d → k' (.val (.bool (p m))) H2 = true) → CS X (n - 1) g (.agg 9 (modRow m iv) :: ys) H1 k' = true)
    (hk : ∀ H', Ex H H' (ms.length * d) → k (.val (.int 3 (code (idxFrom p 0 ms)))) H' = true) : CS X n 15 [v, .fn g [] ys] H k = true := by
  obtain ⟨n, rfl⟩ : ∃ j, n = j + 1 := ⟨n - 1, by omega⟩
  rw [CS_succ _ _ _ _ _ _ hX, e15_eq, lenC2, initT2, f15_eq, c15x0_eq]
  rcases hE with ⟨rfl, rfl⟩ | ⟨a, rs, rfl, ha, hg, hc, hr⟩
  · simp +decide only [slot_same, slot_ne, vSliceN_nil]
    rw [c15x1_eq]
    obtain ⟨j, rfl⟩ : ∃ j, n = j + 1 := ⟨n - 1, by omega⟩
    rw [loopN_succ, c15x2_eq]
    simp +decide only [slot_same, slot_ne, vInt_int]
    rw [bIf_pos (rfl : Nat.beq 3 3 = true), bIf_pos (rfl : Nat.beq 3 3 = true), forceB_eq, lss_no (by omega) (by omega), c15x3_eq]
    simp +decide only [slot_same, vBool_bool, bIf_false]
    rw [xCase_e, bIf_pos (rfl : Nat.beq 0 0 = true), c15x8_eq, xCase_r]
    simp +decide only [noDs_set, slot_same]
    rw [noDs0]
    exact hk H (Ex.refl _ _)
  · simp +decide only [slot_same, slot_ne, vSliceN_slice]
    rw [c15x1_eq]
    have hcl' : ∀ m iv (H1 : Heap) k', m ∈ ms → (∃ j, rs.row j = modRow m iv ∧ ms[j]? = some m) → Ex H H1 (ms.length * d) → H1.next + d ≤ 32768 → (∀ H2, Ex H1 H2 d → k' (.val (.bool (p m))) H2 = true) → CS X n g (.agg 9 (modRow m iv) :: ys) H1 k' = true := by
      intro m iv H1 k' hm hj he hb1 hk1
      obtain ⟨j, hj1, hj2⟩ := hj
      obtain ⟨iv2, q1, q2⟩ := hr j m hj2
      have : iv2 = iv := by
        rw [hj1] at q1
        simp only [modRow, List.cons.injEq] at q1
        exact q1.2.2.2.1.symm
      subst this
      exact hcl m iv2 H1 k' hm (q2.ex he) he hb1 hk1
    refine idx15_loop (p := p) (d := d) ha hg hc (fun j m hm => ?_) hlen hd hb hcl' hk ms 0 n _ H rfl rfl ?_ ?_ ?_ ?_ ?_ (Nat.zero_le _) (Ex.refl _ _) (by omega)
    · obtain ⟨iv, h1, _⟩ := hr j m hm
      exact ⟨iv, h1⟩
    all_goals first | (simp +decide only [slot_ne, slot_same]; done) | (simp only [TT.ds_setSlot]; rfl)
end Go.Sp

namespace Go.Sp
open Go Go.Ev Go.Proofs
set_option linter.unusedVariables false
theorem idxFrom_lt {α : Type} {p : α → Bool} : ∀ {l : List α} {i k : Nat}, idxFrom p i l = some k → k < i + l.length
  | [], _, _, h => by cases h
  | a :: l, i, k, h => by
    rw [idxFrom_cons] at h
    split at h
    · cases h; simp
    · have := idxFrom_lt h; simp; omega
theorem cellsN_str (l n : Nat) (k : List AV → Bool) : cellsN (.str l n) 1 k = k [.str l n] := rfl
theorem cellsN_int (c n : Nat) (k : List AV → Bool) : cellsN (.int c n) 1 k = k [.int c n] := rfl
theorem modOf_ok {X : Nat → Option XExt} (h9 : X 9 = none) (h15 : X 15 = none) (h19 : X 19 = none) {n : Nat} (hn : 210 ≤ n) {H : Heap} {v : AV} {ms : List Mod} {nm : Nat} {k : Res → Heap → Bool}
    (hE : EnvV H v ms) (hf : ∀ m ∈ ms, m.name < 256) (hlen : ms.length ≤ 100) (hnm : nm < 256) (hb : H.next + ms.length + 1 ≤ 32768)
    (hk : ∀ H', Ex H H' (ms.length + 1) → k (.val (.tup [.int 3 ((modOf ms nm).getD 0), .bool (modOf ms nm).isSome])) H' = true) : CS X n 9 [v, .str 1 nm] H k = true := by
  obtain ⟨n, rfl⟩ : ∃ j, n = j + 1 := ⟨n - 1, by omega⟩
  have hb1 : H.next < 32768 := by omega
  rw [CS_succ _ _ _ _ _ _ h9, e9_eq, lenC2, initT2, f9_eq]
  simp (disch := decide) only [slot_same]
  rw [cellsN_str, newO_eq hb1, c9x0_eq]
  simp (disch := decide) only [slot_same, slot_ne]
  have e0 : Ex H (H.add (varObj 9 1 [.str 1 nm])) 1 := Ex.add _ hb1
  have g0 : (H.add (varObj 9 1 [.str 1 nm])).get H.next = varObj 9 1 [.str 1 nm] := Heap.get_add_new hb1
  have n0 : (H.add (varObj 9 1 [.str 1 nm])).next = H.next + 1 := rfl
  generalize H.add (varObj 9 1 [.str 1 nm]) = H0 at *
  refine idx15 h15 (by omega) (hE.ex e0) hlen (d := 1) (by omega) (p := fun m => m.name == nm) (by omega) ?_ ?_
  · intro m iv H1 k' hm _ he hb2 hk1
    exact cl19 h19 (by omega) (by omega) (Nat.lt_of_lt_of_le (by omega) he.next) ((he.same _ (by omega)).trans g0) (hf m hm) hnm hk1
  · intro H' he
    have hh := hk H' ((e0.trans he).mono (by omega))
    change k (.val (.tup [.int 3 ((idxFrom (fun m => m.name == nm) 0 ms).getD 0), .bool (idxFrom (fun m => m.name == nm) 0 ms).isSome])) H' = true at hh
    have hlt : ∀ i, idxFrom (fun m => m.name == nm) 0 ms = some i → i < ms.length := fun i h => by have := idxFrom_lt h; omega
    revert hh hlt
    generalize idxFrom (fun m => m.name == nm) 0 ms = r
    intro hh hlt
    rw [resCase_val, c9x1_eq]
    rw [slot_same _ _ _ (by decide), vInt_int, bIf_pos (rfl : Nat.beq 3 3 = true)]
    cases r with
    | none =>
      have q1 : Nat.ble (Nat.succ (code none)) 2147483648 = false := ble_no (show 2147483648 < 18446744073709551615 + 1 by omega)
      have q2 : Nat.ble 9223372036854775808 (code none) = true := ble_yes (show 9223372036854775808 ≤ 18446744073709551615 by omega)
      rw [bIf_neg q1, bIf_pos q2, bIf_true, bIf_true, vInt_int, bIf_pos (rfl : Nat.beq 3 3 = true), bIf_true, forceB_eq, show leqN 9223372036854775808 18446744073709551616 0 (code none) = false from leq_m1 (by omega), xCase_r]
      rw [noDs_set, noDs_set, noDs_set, noDs_set, noDs_set, noDs_set, noDs_set, noDs_set, noDs0]
      rw [slot_ne _ _ _ _ (by decide) (by decide) (by decide), slot_same _ _ _ (by decide), slot_same _ _ _ (by decide)]
      exact hh
    | some i =>
      have hi := hlt i rfl
      have q1 : Nat.ble (Nat.succ (code (some i))) 2147483648 = true := ble_yes (show i + 1 ≤ 2147483648 by omega)
      have q2 : Nat.ble (Nat.succ (code (some i))) 0 = false := ble_no (show 0 < i + 1 by omega)
      have q3 : leqN 9223372036854775808 18446744073709551616 0 (code (some i)) = true := leq_yes (Nat.zero_le _) (show i < 9223372036854775808 by omega)
      rw [bIf_pos q1, bIf_true, bIf_true, bIf_neg q2, vInt_int, bIf_pos (rfl : Nat.beq 3 3 = true), bIf_true, forceB_eq, q3, xCase_r]
      rw [noDs_set, noDs_set, noDs_set, noDs_set, noDs_set, noDs_set, noDs_set, noDs_set, noDs0]
      rw [slot_ne _ _ _ _ (by decide) (by decide) (by decide), slot_same _ _ _ (by decide), slot_same _ _ _ (by decide)]
      exact hh
end Go.Sp

namespace Go.Sp
open Go Go.Ev Go.Proofs
set_option linter.unusedVariables false
/-- the round of IndexFunc over modules, from place i on -/
theorem idx44_loop {X : Nat → Option XExt} {n : Nat} {H : Heap} {a : Nat} {rs : Ev.Rows} {ms : List (Nat × Nat)} {g d : Nat} {ys : List AV} {p : Nat × Nat → Bool} {k : Res → Heap → Bool}
    (ha : a < H.next) {N : Nat} (hN : ms.length ≤ N) (hg : H.get a = .cells rs N 2 41 true false) (hc : N ≤ rs.cap) (hr : ∀ (j : Nat) x, ms[j]? = some x → rs.row j = impRow x) (hlen : ms.length ≤ 100) (hd : d ≤ 100) (hb : H.next + ms.length * d ≤ 32768)
    (hcl : ∀ m (H1 : Heap) k', m ∈ ms → Ex H H1 (ms.length * d) → H1.next + d ≤ 32768 → (∀ H2, Ex H1 H2 d → k' (.val (.bool (p m))) H2 = true) → CS X n g (.agg 2 (impRow m) :: ys) H1 k' = true)
    (hk : ∀ H', Ex H H' (ms.length * d) → k (.val (.int 3 (code (idxFrom p 0 ms)))) H' = true) :
    ∀ (l : List (Nat × Nat)) (i fuel : Nat) (T : TT) (H1 : Heap), ms.drop i = l → idxFrom p i l = idxFrom p 0 ms → T.slot 0 = .slice a 0 ms.length 0 true 2 → T.slot 1 = .fn g [] ys → T.slot 4 = .int 3 ms.length → T.slot 5 = .int 3 i → T.ds = [] → i ≤ ms.length →
      Ex H H1 (i * d) → l.length < fuel →
      loopN (fun again T H => CC.f (K44 c44x2) n (CS X n) T H again fun x T H => xCase x (fun i => bIf (Nat.beq i 0) (CC.f (K44 c44x8) n (CS X n) T H (fun T H => noDs T (k (Res.val (TT.slot T 2)) H)) fun x T H => xCase x (fun x => false) (noDs T (k (Res.val (TT.slot T 2)) H)) fun v => noDs T (k (Res.pan v) H)) (xCase (Ev.X.exit i) (fun x => false) (noDs T (k (Res.val (TT.slot T 2)) H)) fun v => noDs T (k (Res.pan v) H)))
        (xCase Ev.X.ret (fun x => false) (noDs T (k (Res.val (TT.slot T 2)) H)) fun v => noDs T (k (Res.pan v) H)) fun v => xCase (Ev.X.panic v) (fun x => false) (noDs T (k (Res.val (TT.slot T 2)) H)) fun v => noDs T (k (Res.pan v) H)) fuel T H1 = true := by
  intro l
  induction l with
  | nil =>
    intro i fuel T H1 h1 h2 t0 t1 t4 t5 tds hile he hf
    obtain ⟨fuel, rfl⟩ : ∃ j, fuel = j + 1 := ⟨fuel - 1, by simp at hf; omega⟩
    have hi : ms.length ≤ i := List.drop_eq_nil_iff.1 h1
    have hi2 : i = ms.length := by omega
    rw [loopN_succ, c44x2_eq, t5, t4, vInt_int, vInt_int, bIf_pos (rfl : Nat.beq 3 3 = true), bIf_pos (rfl : Nat.beq 3 3 = true), forceB_eq, lss_no (by omega) (by omega), c44x3_eq]
    simp +decide only [slot_same, vBool_bool, bIf_false]
    rw [xCase_e, bIf_pos (rfl : Nat.beq 0 0 = true), c44x8_eq, xCase_r]
    simp +decide only [noDs_set, slot_same]
    rw [noDs_nil tds]
    have := hk H1 (he.mono (by rw [hi2]; omega))
    rw [← h2, idxFrom_nil] at this
    exact this
  | cons m l ih =>
    intro i fuel T H1 h1 h2 t0 t1 t4 t5 tds hile he hf
    obtain ⟨fuel, rfl⟩ : ∃ j, fuel = j + 1 := ⟨fuel - 1, by simp at hf; omega⟩
    obtain ⟨hm, h1', hi⟩ := drop_cons h1
    have hrow := hr i m hm
    have hid : i * d + d ≤ ms.length * d := by
      have := Nat.mul_le_mul_right d (show i + 1 ≤ ms.length by omega)
      rw [Nat.add_mul] at this; omega
    have hg1 : H1.get a = .cells rs N 2 41 true false := (he.same a ha).trans hg
    rw [loopN_succ, c44x2_eq, t5, t4, vInt_int, vInt_int, bIf_pos (rfl : Nat.beq 3 3 = true), bIf_pos (rfl : Nat.beq 3 3 = true), forceB_eq, lss_yes hi (by omega), c44x3_eq]
    simp +decide only [slot_same, vBool_bool, bIf_true]
    rw [c44x4_eq]
    simp +decide only [slot_ne, t5]
    rw [c44x5_eq]
    simp +decide only [slot_ne, slot_same, t0, t1, vSlice_slice, asIdx_int, getO_eq, hg1, oCells_cells]
    rw [bIf_pos (blt_yes hi), bIf_pos (rfl : Nat.beq 2 2 = true), forceNat_eq, bIf_pos (ble_yes (show Nat.succ (Nat.add 0 i) ≤ N by show 0 + i + 1 ≤ _; omega)), bIf_pos (rfl : Nat.beq 2 2 = true),
      rowAt_eq (show Nat.add 0 i < rs.cap by show 0 + i < _; omega), bIf_pos (rfl : Nat.beq 2 2 = true), bIf_true, vFn_fn, appC_eq, appC_eq]
    rw [show rs.row (Nat.add 0 i) = impRow m by rw [show Nat.add 0 i = i from Nat.zero_add i]; exact hrow]
    refine hcl m H1 _ (List.mem_of_getElem? hm) (he.mono (by omega)) (by have := he.le; omega) fun H2 h2x => ?_
    rw [resCase_val, c44x6_eq]
    simp +decide only [slot_ne, slot_same, vBool_bool]
    rw [idxFrom_cons] at h2
    by_cases hp : p m = true
    · rw [if_pos hp] at h2
      rw [bIf_pos hp, xCase_r, xCase_r, xCase_r]
      simp +decide only [noDs_set]
      rw [noDs_nil tds]
      have := hk H2 ((he.trans h2x).mono (by omega))
      rw [← h2] at this
      exact this
    · rw [if_neg hp] at h2
      rw [bIf_neg (by simpa using hp), c44x7_eq]
      simp +decide only [slot_ne, t5, vInt_int, bIf_true, forceNat_eq]
      rw [bIf_pos (rfl : Nat.beq 3 3 = true), inc_eq (by omega)]
      refine ih (i + 1) fuel _ H2 h1' h2 ?_ ?_ ?_ ?_ ?_ (by omega) ((he.trans h2x).mono (by rw [Nat.add_mul]; omega)) (by simp at hf; omega)
      all_goals first | (simp +decide only [slot_ne, slot_same, t0, t1, t4]; done) | (simp only [TT.ds_setSlot, tds]; done)
/-- IndexFunc over imports -/
theorem idx44 {X : Nat → Option XExt} (hX : X 44 = none) {n : Nat} (hn : 200 ≤ n) {H : Heap} {v : AV} {ms : List (Nat × Nat)} {g d : Nat} {ys : List AV} {p : Nat × Nat → Bool} {k : Res → Heap → Bool}
    (hE : ImpV H v ms) (hlen : ms.length ≤ 100) (hd : d ≤ 100) (hb : H.next + ms.length * d ≤ 32768)
    (hcl : ∀ m (H1 : Heap) k', m ∈ ms → Ex H H1 (ms.length * d) → H1.next + d ≤ 32768 → (∀ H2, Ex H1 H2 d → k' (.val (.bool (p m))) H2 = true) → CS X (n - 1) g (.agg 2 (impRow m) :: ys) H1 k' = true)
    (hk : ∀ H', Ex H H' (ms.length * d) → k (.val (.int 3 (code (idxFrom p 0 ms)))) H' = true) : CS X n 44 [v, .fn g [] ys] H k = true := by
  obtain ⟨n, rfl⟩ : ∃ j, n = j + 1 := ⟨n - 1, by omega⟩
  rw [CS_succ _ _ _ _ _ _ hX, e44_eq, lenC2, initT2, f44_eq, c44x0_eq]
  rcases hE with ⟨rfl, rfl⟩ | ⟨a, rs, N, rfl, ha, hg, hN, hc, hr⟩
  · simp +decide only [slot_same, slot_ne, vSliceN_nil]
    rw [c44x1_eq]
    obtain ⟨j, rfl⟩ : ∃ j, n = j + 1 := ⟨n - 1, by omega⟩
    rw [loopN_succ, c44x2_eq]
    simp +decide only [slot_same, slot_ne, vInt_int]
    rw [bIf_pos (rfl : Nat.beq 3 3 = true), bIf_pos (rfl : Nat.beq 3 3 = true), forceB_eq, lss_no (by omega) (by omega), c44x3_eq]
    simp +decide only [slot_same, vBool_bool, bIf_false]
    rw [xCase_e, bIf_pos (rfl : Nat.beq 0 0 = true), c44x8_eq, xCase_r]
    simp +decide only [noDs_set, slot_same]
    rw [noDs0]
    exact hk H (Ex.refl _ _)
  · simp +decide only [slot_same, slot_ne, vSliceN_slice]
    rw [c44x1_eq]
    refine idx44_loop (p := p) (d := d) ha hN hg hc hr hlen hd hb hcl hk ms 0 n _ H rfl rfl ?_ ?_ ?_ ?_ ?_ (Nat.zero_le _) (Ex.refl _ _) (by omega)
    all_goals first | (simp +decide only [slot_ne, slot_same]; done) | (simp only [TT.ds_setSlot]; rfl)
end Go.Sp

namespace Go.Sp
open Go Go.Ev Go.Proofs
set_option linter.unusedVariables false
theorem cl43 {X : Nat → Option XExt} (hX : X 43 = none) {n : Nat} (hn : 1 ≤ n) {H : Heap} (hb : H.next < 32768) {x y : Nat × Nat} {p : Nat} (hp : p < H.next) (hg : H.get p = .cells (.r0 (impRow y)) 1 2 41 false false) (h1 : x.1 < 256) (h2 : y.1 < 256)
    {k : Res → Heap → Bool} (hk : ∀ H', Ex H H' 1 → k (.val (.bool (x.1 == y.1))) H' = true) : CS X n 43 [.agg 2 (impRow x), .ptr p 0 0 2] H k = true := by
  obtain ⟨n, rfl⟩ : ∃ j, n = j + 1 := ⟨n - 1, by omega⟩
  rw [CS_succ _ _ _ _ _ _ hX, e43_eq, lenC2, initT2, f43_eq, slot_ne _ _ _ _ (by decide) (by decide) (by decide), slot_same _ _ _ (by decide), cellsN_agg, newO_eq hb, c43x0_eq]
  rw [slot_ne _ _ _ _ (by decide) (by decide) (by decide), slot_same _ _ _ (by decide), vPtr_ptr, forceNat_eq, getO_eq, Heap.get_add_new hb, varObj_eq, oCells_cells, bIf_pos (ble_yes (by omega)), bIf_pos (beq_yes rfl), rowAt_r0, nthC_eq (a := .str 1 x.1) rfl]
  have hg' : (H.add (AObj.cells (Rows.r0 (impRow x)) 1 2 41 false false)).get p = .cells (.r0 (impRow y)) 1 2 41 false false := by
    rw [Heap.get_add_old hb hp, hg]
  rw [slot_ne _ _ _ _ (by decide) (by decide) (by decide), slot_ne _ _ _ _ (by decide) (by decide) (by decide), slot_same _ _ _ (by decide), vPtr_ptr, forceNat_eq, getO_eq, hg', oCells_cells, bIf_pos (ble_yes (by omega)), bIf_pos (beq_yes rfl), rowAt_r0, nthC_eq (a := .str 1 y.1) rfl]
  rw [vStr_str, vStr_str, forceB_eq, strEq1 h1 h2, xCase_r]
  rw [noDs_set, noDs_set, noDs_set, noDs_set, noDs_set, noDs0, slot_same _ _ _ (by decide)]
  exact hk _ (Ex.add _ hb)
theorem idx_any {α : Type} (p : α → Bool) : ∀ (l : List α) (i : Nat), (idxFrom p i l).isSome = l.any p
  | [], _ => rfl
  | a :: l, i => by
    rw [idxFrom_cons, List.any_cons]
    by_cases h : p a = true
    · rw [if_pos h, h]; rfl
    · rw [if_neg h, idx_any p l]; simp only [Bool.not_eq_true] at h; rw [h]; rfl
/-- ContainsFunc over imports -/
theorem any17 {X : Nat → Option XExt} (h17 : X 17 = none) (h44 : X 44 = none) {n : Nat} (hn : 210 ≤ n) {H : Heap} {v : AV} {ms : List (Nat × Nat)} {g d : Nat} {ys : List AV} {p : Nat × Nat → Bool} {k : Res → Heap → Bool}
    (hE : ImpV H v ms) (hlen : ms.length ≤ 100) (hd : d ≤ 100) (hb : H.next + ms.length * d ≤ 32768)
    (hcl : ∀ m (H1 : Heap) k', m ∈ ms → Ex H H1 (ms.length * d) → H1.next + d ≤ 32768 → (∀ H2, Ex H1 H2 d → k' (.val (.bool (p m))) H2 = true) → CS X (n - 2) g (.agg 2 (impRow m) :: ys) H1 k' = true)
    (hk : ∀ H', Ex H H' (ms.length * d) → k (.val (.bool (ms.any p))) H' = true) : CS X n 17 [v, .fn g [] ys] H k = true := by
  obtain ⟨n, rfl⟩ : ∃ j, n = j + 1 := ⟨n - 1, by omega⟩
  rw [CS_succ _ _ _ _ _ _ h17, e17_eq, lenC2, initT2, f17_eq, c17x0_eq, slot_ne _ _ _ _ (by decide) (by decide) (by decide), slot_ne _ _ _ _ (by decide) (by decide) (by decide), slot_same _ _ _ (by decide), slot_ne _ _ _ _ (by decide) (by decide) (by decide), slot_same _ _ _ (by decide)]
  refine idx44 h44 (by omega) hE hlen hd (p := p) hb ?_ ?_
  · intro m H1 k' hm he hb1 hk1
    exact hcl m H1 k' hm he hb1 hk1
  · intro H' he
    have hh := hk H' he
    rw [← idx_any p ms 0] at hh
    have hlt : ∀ i, idxFrom p 0 ms = some i → i < ms.length := fun i h => by have := idxFrom_lt h; omega
    revert hh hlt
    generalize idxFrom p 0 ms = r
    intro hh hlt
    rw [resCase_val, vInt_int, bIf_pos (rfl : Nat.beq 3 3 = true), bIf_true, forceB_eq]
    cases r with
    | none =>
      rw [show leqN 9223372036854775808 18446744073709551616 0 (code none) = false from leq_m1 (by omega), xCase_r, noDs_set, noDs_set, noDs_set, noDs_set, noDs0, slot_same _ _ _ (by decide)]
      exact hh
    | some i =>
      have hi := hlt i rfl
      rw [show leqN 9223372036854775808 18446744073709551616 0 (code (some i)) = true from leq_yes (Nat.zero_le _) (show i < 9223372036854775808 by omega), xCase_r, noDs_set, noDs_set, noDs_set, noDs_set, noDs0, slot_same _ _ _ (by decide)]
      exact hh
end Go.Sp

namespace Go.Sp
open Go Go.Ev Go.Proofs
set_option linter.unusedVariables false
/-- the entries of a map of names that were placed -/
def PlacedE (es : List (AV × AV × Nat)) (l : List Nat) : Prop := es.map (fun e => (e.1, e.2.1)) = l.map fun x => (AV.str 1 x, AV.bool true)
theorem findK_placed {nm : Nat} (hn : nm < 256) : ∀ (es : List (AV × AV × Nat)) (l : List Nat) (i : Nat), PlacedE es l → (∀ x ∈ l, x < 256) →
    (l.contains nm = true ∧ ∃ j, findK (.str 1 nm) es i = some (some (j, .bool true))) ∨ (l.contains nm = false ∧ findK (.str 1 nm) es i = some none)
  | [], [], i, _, _ => .inr ⟨rfl, rfl⟩
  | [], _ :: _, _, h, _ => by simp [PlacedE] at h
  | _ :: _, [], _, h, _ => by simp [PlacedE] at h
  | (k, v, b) :: es, x :: l, i, h, hl => by
    simp only [PlacedE, List.map_cons, List.cons.injEq, Prod.mk.injEq] at h
    obtain ⟨⟨rfl, rfl⟩, h⟩ := h
    have hx : x < 256 := hl x (by simp)
    have ih := findK_placed hn es l (i + 1) h fun y hy => hl y (by simp [hy])
    have ek : keyEq (.str 1 nm) (.str 1 x) = some (nm == x) := by
      show some (strEq 1 nm 1 x) = _
      rw [strEq1 hn hx]
    by_cases e : nm = x
    · subst e
      exact .inl ⟨by simp, i, by unfold findK; rw [ek]; simp⟩
    · have en : (nm == x) = false := by simpa using e
      rcases ih with ⟨h1, j, h2⟩ | ⟨h1, h2⟩
      · exact .inl ⟨by rw [List.contains_cons, h1]; simp, j, by unfold findK; rw [ek, en]; exact h2⟩
      · exact .inr ⟨by rw [List.contains_cons, h1, en]; rfl, by unfold findK; rw [ek, en]; exact h2⟩
theorem lookIn_placed {nm : Nat} (hn : nm < 256) {es : List (AV × AV × Nat)} {l : List Nat} (h : PlacedE es l) (hl : ∀ x ∈ l, x < 256) (k : AV → Bool) : lookIn (.bool false) (.str 1 nm) false es k = k (.bool (l.contains nm)) := by
  unfold lookIn
  rcases findK_placed hn es l 0 h hl with ⟨h1, j, h2⟩ | ⟨h1, h2⟩
  · rw [h2, h1]
  · rw [h2, h1]
theorem keyOk9 (l n : Nat) : keyOk (pgF Tryz.prog) 9 (.str l n) = true := by
  unfold keyOk
  rw [show (pgF Tryz.prog).und 9 = some .string by kernel_rfl]
/-- the closure that asks for a name that was not placed -/
theorem cl18 {X : Nat → Option XExt} (hX : X 18 = none) {n : Nat} (hn : 1 ≤ n) {H : Heap} (hb : H.next < 32768) {x : Nat × Nat} {p q clk : Nat} {es : List (AV × AV × Nat)} {l : List Nat} (hp : p < H.next) (hg : H.get p = .cells (.r0 [.map q]) 1 1 66 false false)
    (hq : q < H.next) (hgq : H.get q = .map es clk) (hes : PlacedE es l) (hl : ∀ x ∈ l, x < 256) (h1 : x.1 < 256)
    {k : Res → Heap → Bool} (hk : ∀ H', Ex H H' 1 → k (.val (.bool (!l.contains x.1))) H' = true) : CS X n 18 [.agg 2 (impRow x), .ptr p 0 0 1] H k = true := by
  obtain ⟨n, rfl⟩ : ∃ j, n = j + 1 := ⟨n - 1, by omega⟩
  rw [CS_succ _ _ _ _ _ _ hX, e18_eq, lenC2, initT2, f18_eq, slot_ne _ _ _ _ (by decide) (by decide) (by decide), slot_same _ _ _ (by decide), cellsN_agg, newO_eq hb, c18x0_eq]
  have hg' : (H.add (varObj 41 2 (impRow x))).get p = .cells (.r0 [.map q]) 1 1 66 false false := by rw [Heap.get_add_old hb hp, hg]
  have hgq' : (H.add (varObj 41 2 (impRow x))).get q = .map es clk := by rw [Heap.get_add_old hb hq, hgq]
  rw [slot_ne _ _ _ _ (by decide) (by decide) (by decide), slot_ne _ _ _ _ (by decide) (by decide) (by decide), slot_same _ _ _ (by decide), rowOf_eq hg' (by omega) Nat.one_pos, nthC_eq (a := .map q) rfl]
  rw [slot_ne _ _ _ _ (by decide) (by decide) (by decide), slot_same _ _ _ (by decide), vPtr_ptr, forceNat_eq, getO_eq, Heap.get_add_new hb, varObj_eq, oCells_cells, bIf_pos (ble_yes (by omega)), bIf_pos (beq_yes rfl), rowAt_r0, nthC_eq (a := .str 1 x.1) rfl]
  rw [bIf_pos (keyOk9 _ _), vMap_map, getO_eq, ← varObj_eq, hgq', oMap_map, lookIn_placed h1 hes hl, vBool_bool]
  cases e : l.contains x.1 with
  | true =>
    rw [bIf_true, xCase_r, noDs_set, noDs_set, noDs_set, noDs_set, noDs_set, noDs0, slot_same _ _ _ (by decide)]
    have := hk _ (Ex.add (varObj 41 2 (impRow x)) hb)
    rw [e] at this; exact this
  | false =>
    rw [bIf_false, xCase_r, noDs_set, noDs_set, noDs_set, noDs_set, noDs_set, noDs0, slot_same _ _ _ (by decide)]
    have := hk _ (Ex.add (varObj 41 2 (impRow x)) hb)
    rw [e] at this; exact this
end Go.Sp

namespace Go.Sp
open Go Go.Ev Go.Proofs
set_option linter.unusedVariables false
theorem any_not (l : List (Nat × Nat)) (q : Nat → Bool) : (l.any fun x => !q x.1) = !(l.all fun x => q x.1) := by
  induction l with
  | nil => rfl
  | cons a l ih => rw [List.any_cons, List.all_cons, ih]; cases q a.1 <;> rfl
/-- the closure that asks for a module that may be placed -/
theorem cl16 {X : Nat → Option XExt} (h16 : X 16 = none) (h17 : X 17 = none) (h18 : X 18 = none) (h44 : X 44 = none) {n : Nat} (hn : 220 ≤ n) {H : Heap} {m : Mod} {iv : AV} {p q clk : Nat} {es : List (AV × AV × Nat)} {l : List Nat} (hb : H.next + m.imps.length + 1 ≤ 32768)
    (hp : p < H.next) (hg : H.get p = .cells (.r0 [.map q]) 1 1 66 false false) (hq : q < H.next) (hgq : H.get q = .map es clk) (hes : PlacedE es l) (hl : ∀ x ∈ l, x < 256) (hm : m.fine) (hiv : ImpV H iv m.imps)
    {k : Res → Heap → Bool} (hk : ∀ H', Ex H H' (m.imps.length + 1) → k (.val (.bool (readyM l m))) H' = true) : CS X n 16 [.agg 9 (modRow m iv), .ptr p 0 0 1] H k = true := by
  obtain ⟨n, rfl⟩ : ∃ j, n = j + 1 := ⟨n - 1, by omega⟩
  have hb1 : H.next < 32768 := by omega
  obtain ⟨_, hname, _, hlen, himps⟩ := hm
  rw [CS_succ _ _ _ _ _ _ h16, e16_eq, lenC2, initT2, f16_eq, slot_ne _ _ _ _ (by decide) (by decide) (by decide), slot_same _ _ _ (by decide), cellsN_agg, newO_eq hb1, c16x0_eq]
  have e0 : Ex H (H.add (varObj 39 9 (modRow m iv))) 1 := Ex.add _ hb1
  have gn : (H.add (varObj 39 9 (modRow m iv))).get H.next = .cells (.r0 (modRow m iv)) 1 9 39 false false := Heap.get_add_new hb1
  have hg' : (H.add (varObj 39 9 (modRow m iv))).get p = .cells (.r0 [.map q]) 1 1 66 false false := by rw [Heap.get_add_old hb1 hp, hg]
  have hgq' : (H.add (varObj 39 9 (modRow m iv))).get q = .map es clk := by rw [Heap.get_add_old hb1 hq, hgq]
  have n0 : (H.add (varObj 39 9 (modRow m iv))).next = H.next + 1 := rfl
  generalize H.add (varObj 39 9 (modRow m iv)) = H0 at *
  rw [slot_ne _ _ _ _ (by decide) (by decide) (by decide), slot_ne _ _ _ _ (by decide) (by decide) (by decide), slot_same _ _ _ (by decide), rowOf_eq hg' (by omega) Nat.one_pos, nthC_eq (a := .map q) rfl]
  rw [slot_ne _ _ _ _ (by decide) (by decide) (by decide), slot_same _ _ _ (by decide), vPtr_ptr, forceNat_eq, getO_eq, gn, oCells_cells, bIf_pos (ble_yes (by omega)), bIf_pos (beq_yes rfl), rowAt_r0, nthC_eq (a := .str 1 m.name) rfl]
  rw [bIf_pos (keyOk9 _ _), vMap_map, getO_eq, hgq', oMap_map, lookIn_placed hname hes hl, vBool_bool]
  cases e : l.contains m.name with
  | true =>
    rw [bIf_true, bIf_false, xCase_r, noDs_set, noDs_set, noDs_set, noDs_set, noDs_set, noDs0, slot_same _ _ _ (by decide)]
    have := hk _ (e0.mono (by omega))
    unfold readyM at this
    rw [e] at this; exact this
  | false =>
    rw [bIf_false, vPtr_ptr, forceNat_eq, getO_eq, gn, oCells_cells, bIf_pos (ble_yes (by omega)), bIf_pos (beq_yes rfl), rowAt_r0, nthC_eq (a := iv) rfl]
    refine any17 h17 h44 (by omega) (hiv.ex e0) (by omega) (d := 1) (by omega) (p := fun x => !l.contains x.1) (by omega) ?_ ?_
    · intro x H1 k' hx he hb2 hk1
      exact cl18 h18 (by omega) (by omega) (Nat.lt_of_lt_of_le (by omega) he.next) ((he.same _ (by omega)).trans hg') (Nat.lt_of_lt_of_le (by omega) he.next) ((he.same _ (by omega)).trans hgq') hes hl (himps x hx).1 hk1
    · intro H' he
      have hh := hk H' ((e0.trans he).mono (by omega))
      unfold readyM at hh
      rw [e] at hh
      rw [resCase_val, vBool_bool, any_not m.imps fun y => l.contains y]
      cases e2 : m.imps.all fun x => l.contains x.1 with
      | true =>
        rw [e2] at hh
        rw [Bool.not_true, bIf_false, bIf_true, xCase_r, noDs_set, noDs_set, noDs_set, noDs_set, noDs_set, noDs0, slot_same _ _ _ (by decide)]
        exact hh
      | false =>
        rw [e2] at hh
        rw [Bool.not_false, bIf_true, bIf_true, xCase_r, noDs_set, noDs_set, noDs_set, noDs_set, noDs_set, noDs0, slot_same _ _ _ (by decide)]
        exact hh
end Go.Sp
