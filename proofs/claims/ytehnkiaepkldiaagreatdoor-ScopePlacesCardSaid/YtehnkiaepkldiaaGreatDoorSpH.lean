/- What wrong and Order find; what environment makes. -/
import Derived.Test.YtehnkiaepkldiaaGreatDoorSpG
import Derived.Test.YtehnkiaepkldiaaGreatDoorSpD
import Derived.Test.YtehnkiaepkldiaaGreatDoorSpA
import Derived.Test.YtehnkiaepkldiaaGreatDoorSpC
import Derived.Test.YtehnkiaepkldiaaGreatDoorSpE
namespace Go.Sp
open Go Go.Ev Go.Proofs
set_option linter.unusedVariables false
theorem impV_take {H : Heap} {a : Nat} {rs : Ev.Rows} {N : Nat} {imps : List (Nat × Nat)} {j : Nat} (ha : a < H.next) (hg : H.get a = .cells rs N 2 41 true false) (hN : imps.length ≤ N) (hc : N ≤ rs.cap)
    (hr : ∀ (j : Nat) x, imps[j]? = some x → rs.row j = impRow x) (hj : j ≤ imps.length) : ImpV H (.slice a 0 j 0 true 2) (imps.take j) := by
  have hl : (imps.take j).length = j := by rw [List.length_take]; omega
  refine .inr ⟨a, rs, N, by rw [hl], ha, hg, by omega, hc, fun i x hx => ?_⟩
  rw [List.getElem?_take] at hx
  split at hx
  · exact hr i x hx
  · cases hx
/-- the look at the imports before -/
theorem x9_ok {X : Nat → Option XExt} (h17 : X 17 = none) (h44 : X 44 = none) (h43 : X 43 = none) {n : Nat} (hn : 300 ≤ n) {H : Heap} {a N j mp xp : Nat} {rs : Ev.Rows} {m : Mod} {x : Nat × Nat} {T : TT} {kn : TT → Heap → Bool} {kx : Ev.X → TT → Heap → Bool}
    (hm : m.fine) (hx : x.1 < 256) (ha : a < H.next) (hg : H.get a = .cells rs N 2 41 true false) (hN : m.imps.length ≤ N) (hc : N ≤ rs.cap) (hr : ∀ (j : Nat) x, m.imps[j]? = some x → rs.row j = impRow x) (hj : j < m.imps.length)
    (hmp : mp < H.next) (hgm : H.get mp = .cells (.r0 (modRow m (.slice a 0 m.imps.length 0 true 2))) 1 9 39 false false) (hxp : xp < H.next) (hgx : H.get xp = .cells (.r0 (impRow x)) 1 2 41 false false)
    (t3 : T.slot 3 = .ptr mp 0 0 9) (t5 : T.slot 5 = .int 3 j) (t6 : T.slot 6 = .ptr xp 0 0 2) (hb : H.next + 2 ≤ 32768)
    (hk : ∀ H', Ex H H' 2 → CC.f (K14 c14x10) n (CS X n) (T.setSlot 14 (.bool ((m.imps.take j).any fun y => y.1 == x.1))) H' (fun T H => CC.f (K14 c14x11) n (CS X n) T H kn kx) kx = true) :
    CC.f (K14 c14x9) n (CS X n) T H kn kx = true := by
  obtain ⟨_, _, _, hil, hif⟩ := hm
  have hlt : (m.imps.take j).length ≤ 2 := by rw [List.length_take]; omega
  have hj2 : j ≤ 1 := by omega
  have main : ∀ kk : Res → Heap → Bool, (∀ H', Ex H H' 2 → kk (.val (.bool ((m.imps.take j).any fun y => y.1 == x.1))) H' = true) → CS X n 17 [.slice a 0 j 0 true 2, .fn 43 [] [.ptr xp 0 0 2]] H kk = true := by
    intro kk hkk
    refine any17 h17 h44 (by omega) (impV_take ha hg hN hc hr (by omega)) (by omega) (d := 1) (by omega) (p := fun y => y.1 == x.1) (by omega) ?_ fun H' he => hkk H' (he.mono (by omega))
    intro y H1 k' hy he hb1 hk1
    have hy' := hif y (List.mem_of_mem_take hy)
    exact cl43 h43 (by omega) (by omega) (Nat.lt_of_lt_of_le hxp he.next) ((he.same _ hxp).trans hgx) hy'.1 hx hk1
  rw [c14x9_eq, t3, vPtr_ptr, forceNat_eq, getO_eq, hgm, oCells_cells, bIf_pos (rfl : Nat.ble 1 1 = true), bIf_pos (rfl : Nat.beq 9 9 = true), rowAt_r0, nthC_eq (a := .slice a 0 m.imps.length 0 true 2) rfl, vSliceN_slice, bIf_pos (rfl : Nat.beq 2 2 = true), t5, asIdx_int, bIf_pos (blt_yes (by omega)), bIf_pos (ble_yes (Nat.zero_le j)), bIf_true, bIf_pos (ble_yes (show j ≤ m.imps.length by omega)), t6]
  rcases Nat.eq_zero_or_pos j with hj0 | hj0
  · subst hj0
    rw [bIf_neg (rfl : Nat.ble 1 0 = false), bIf_true]
    exact main _ fun H' he => hk H' he
  · rw [bIf_pos (ble_yes hj0), forceNat_eq, forceNat_eq]
    exact main _ fun H' he => hk H' he
/-- one import -/
def impOne (ms : List Mod) (x : Nat × Nat) : Nat := match modOf ms x.1 with
  | none => 8
  | some a => match ms[a]? with
    | none => 0
    | some s => if s.kind = 2 then 8 else if s.rel < x.2 then 16 else 0
theorem impsBad_cons (ms : List Mod) (pre : List (Nat × Nat)) (x : Nat × Nat) (l : List (Nat × Nat)) :
    impsBad ms pre (x :: l) = if (pre.any fun y => y.1 == x.1) = true then 5 else if impOne ms x = 0 then impsBad ms (pre ++ [x]) l else impOne ms x := by
  conv => lhs; unfold impsBad
  unfold impOne
  split
  · rfl
  · cases e : modOf ms x.1 with
    | none => rfl
    | some a =>
      obtain ⟨s, hs, _, _⟩ := modOf_some e
      simp only [hs]
      by_cases hk : s.kind = 2
      · simp only [hk, if_true]; rfl
      · simp only [hk, if_false]
        by_cases hr : s.rel < x.2
        · simp only [hr, if_true]; rfl
        · simp only [hr, if_false, if_true]
/-- slots that stay -/
def Keep (p : Nat → Bool) (T T' : TT) : Prop := T'.ds = T.ds ∧ ∀ i, i < 64 → p i = true → T'.slot i = T.slot i
theorem Keep.refl (p : Nat → Bool) (T : TT) : Keep p T T := ⟨rfl, fun _ _ _ => rfl⟩
theorem Keep.set {p : Nat → Bool} {T T' : TT} (h : Keep p T T') {i : Nat} (v : AV) (hi : i < 64) (hp : p i = false) : Keep p T (T'.setSlot i v) :=
  ⟨by rw [TT.ds_setSlot, h.1], fun j hj hpj => by rw [slot_ne _ _ _ _ hi hj (fun e => by rw [e, hp] at hpj; cases hpj)]; exact h.2 j hj hpj⟩
def p14 (i : Nat) : Bool := Nat.blt i 14 && !(Nat.beq i 7) && !(Nat.beq i 8)
theorem x10_ok {X : Nat → Option XExt} (h9 : X 9 = none) (h15 : X 15 = none) (h19 : X 19 = none) {n : Nat} (hn : 300 ≤ n) {H : Heap} {v : AV} {ms : List Mod} {xp : Nat} {x : Nat × Nat} {T : TT} {p : Bool} {kn : TT → Heap → Bool} {kx : Ev.X → TT → Heap → Bool}
    (hE : EnvV H v ms) (hf : ∀ m ∈ ms, m.fine) (hlen : ms.length ≤ 100) (hx : x.1 < 256) (hx2 : x.2 < 10) (hxp : xp < H.next) (hgx : H.get xp = .cells (.r0 (impRow x)) 1 2 41 false false)
    (t0 : T.slot 0 = v) (t6 : T.slot 6 = .ptr xp 0 0 2) (t14 : T.slot 14 = .bool p) (tds : T.ds = []) (hb : H.next + ms.length + 1 ≤ 32768)
    (hret : ∀ T' H', T'.ds = [] → T'.slot 2 = .int 3 (if p = true then 5 else impOne ms x) → (p = true ∨ impOne ms x ≠ 0) → Ex H H' (ms.length + 1) → kx .ret T' H' = true)
    (hkn : ∀ T' H', p = false → impOne ms x = 0 → Keep p14 T T' → Ex H H' (ms.length + 1) → kn T' H' = true) :
    CC.f (K14 c14x10) n (CS X n) T H (fun T H => CC.f (K14 c14x11) n (CS X n) T H kn kx) kx = true := by
  rw [c14x10_eq, t14, vBool_bool]
  cases p with
  | true =>
    rw [bIf_true]
    exact hret _ _ (by rw [TT.ds_setSlot, tds]) (by rw [slot_same _ _ _ (by decide)]; rfl) (.inl rfl) (Ex.refl _ _)
  | false =>
    rw [bIf_false, c14x11_eq, t6, vPtr_ptr, forceNat_eq, getO_eq, hgx, oCells_cells, bIf_pos (rfl : Nat.ble 1 1 = true), bIf_pos (rfl : Nat.beq 2 2 = true), rowAt_r0, nthC_eq (a := .str 1 x.1) rfl, t0]
    refine modOf_ok h9 h15 h19 (by omega) hE (fun m hm => (hf m hm).2.1) hlen hx hb fun H' he => ?_
    rw [resCase_val, vTup_tup, nthC0, vTup_tup, nthC_s, nthC0]
    have k1 : Keep p14 T ((T.setSlot 7 (.int 3 ((modOf ms x.1).getD 0))).setSlot 8 (.bool (modOf ms x.1).isSome)) := ((Keep.refl p14 T).set _ (by decide) rfl).set _ (by decide) rfl
    have s7 : ((T.setSlot 7 (.int 3 ((modOf ms x.1).getD 0))).setSlot 8 (.bool (modOf ms x.1).isSome)).slot 7 = .int 3 ((modOf ms x.1).getD 0) := by rw [slot_ne _ _ _ _ (by decide) (by decide) (by decide), slot_same _ _ _ (by decide)]
    have s8 : ((T.setSlot 7 (.int 3 ((modOf ms x.1).getD 0))).setSlot 8 (.bool (modOf ms x.1).isSome)).slot 8 = .bool (modOf ms x.1).isSome := by rw [slot_same _ _ _ (by decide)]
    generalize (T.setSlot 7 (.int 3 ((modOf ms x.1).getD 0))).setSlot 8 (.bool (modOf ms x.1).isSome) = T1 at *
    rw [c14x12_eq, s8, vBool_bool]
    have hret' : ∀ T' : TT, T'.ds = [] → T'.slot 2 = .int 3 (impOne ms x) → impOne ms x ≠ 0 → kx .ret T' H' = true := fun T' q1 q2 q3 => hret T' H' q1 (by simpa using q2) (.inr q3) he
    have hkn' : ∀ T' : TT, impOne ms x = 0 → Keep p14 T T' → kn T' H' = true := fun T' q1 q2 => hkn T' H' rfl q1 q2 he
    unfold impOne at hret' hkn'
    cases e : modOf ms x.1 with
    | none =>
      rw [e] at hret' hkn'
      rw [show (none : Option Nat).isSome = false from rfl, bIf_false, bIf_true, c14x13_eq, slot_same _ _ _ (by decide), vBool_bool, bIf_true]
      exact hret' _ (by rw [TT.ds_setSlot, TT.ds_setSlot, k1.1, tds]) (by rw [slot_same _ _ _ (by decide)]) (show (8 : Nat) ≠ 0 by decide)
    | some i =>
      obtain ⟨s, hs, hsn, _⟩ := modOf_some e
      have hil : i < ms.length := (List.getElem?_eq_some_iff.1 hs).1
      rw [e] at hret' hkn' s7
      simp only [hs] at hret' hkn'
      have sf := hf s (List.mem_of_getElem? hs)
      have s0 : T1.slot 0 = v := by rw [k1.2 0 (by decide) rfl, t0]
      have s6 : T1.slot 6 = .ptr xp 0 0 2 := by rw [k1.2 6 (by decide) rfl, t6]
      rcases hE.ex he with ⟨_, h0⟩ | ⟨a, rs, rfl, ha, hg, hc, hr⟩
      · rw [h0] at hil; simp at hil
      obtain ⟨iv, hrow, _⟩ := hr i s hs
      have hrow' : rs.row (Nat.add 0 i) = modRow s iv := by rw [show Nat.add 0 i = i from Nat.zero_add i]; exact hrow
      rw [show (some i : Option Nat).isSome = true from rfl, bIf_true, s0, vSlice_slice, s7, asIdx_int, show (some i : Option Nat).getD 0 = i from rfl, bIf_pos (blt_yes hil), bIf_pos (rfl : Nat.beq 9 9 = true), forceNat_eq, forceNat_eq, getO_eq, hg, oCells_cells,
        bIf_pos (ble_yes (show Nat.succ (Nat.add 0 i) ≤ ms.length by show 0 + i + 1 ≤ _; omega)), bIf_pos (rfl : Nat.beq 9 9 = true), rowAt_eq (show Nat.add 0 i < rs.cap by show 0 + i < _; omega), hrow', nthC_eq (a := .int 3 s.kind) rfl, vInt_int, bIf_pos (rfl : Nat.beq 3 3 = true), bIf_true, forceB_eq, bIf_false, c14x13_eq, slot_same _ _ _ (by decide), vBool_bool]
      by_cases hk : s.kind = 2
      · rw [if_pos hk] at hret' hkn'
        rw [bIf_pos (beq_yes hk)]
        exact hret' _ (by rw [TT.ds_setSlot, TT.ds_setSlot, k1.1, tds]) (by rw [slot_same _ _ _ (by decide)]) (by decide)
      · rw [if_neg hk] at hret' hkn'
        rw [bIf_neg (beq_no hk)]
        have k2 : Keep p14 T (T1.setSlot 15 (.bool (Nat.beq s.kind 2))) := k1.set _ (by decide) rfl
        have u7 : (T1.setSlot 15 (.bool (Nat.beq s.kind 2))).slot 7 = .int 3 i := by rw [slot_ne _ _ _ _ (by decide) (by decide) (by decide), s7]; rfl
        generalize T1.setSlot 15 (.bool (Nat.beq s.kind 2)) = T2 at *
        have u0 : T2.slot 0 = .slice a 0 ms.length 0 true 9 := by rw [k2.2 0 (by decide) rfl, t0]
        have u6 : T2.slot 6 = .ptr xp 0 0 2 := by rw [k2.2 6 (by decide) rfl, t6]
        have hgx' : H'.get xp = .cells (.r0 (impRow x)) 1 2 41 false false := (he.same _ hxp).trans hgx
        rw [c14x14_eq, u0, vSlice_slice, u7, asIdx_int, bIf_pos (blt_yes hil), bIf_pos (rfl : Nat.beq 9 9 = true), forceNat_eq, forceNat_eq, getO_eq, hg, oCells_cells,
          bIf_pos (ble_yes (show Nat.succ (Nat.add 0 i) ≤ ms.length by show 0 + i + 1 ≤ _; omega)), bIf_pos (rfl : Nat.beq 9 9 = true), rowAt_eq (show Nat.add 0 i < rs.cap by show 0 + i < _; omega), hrow', nthC_eq (a := .int 3 s.rel) rfl,
          u6, vPtr_ptr, forceNat_eq, getO_eq, hgx', oCells_cells, bIf_pos (rfl : Nat.ble 1 1 = true), bIf_pos (rfl : Nat.beq 2 2 = true), rowAt_r0, nthC_eq (a := .int 3 x.2) rfl, vInt_int, vInt_int, bIf_pos (rfl : Nat.beq 3 3 = true), bIf_pos (rfl : Nat.beq 3 3 = true), forceB_eq,
          lss_eq (show s.rel < 9223372036854775808 by have := sf.2.2.1; omega) (show x.2 < 9223372036854775808 by omega), c14x15_eq, slot_same _ _ _ (by decide), vBool_bool]
        by_cases hr2 : s.rel < x.2
        · rw [if_pos hr2] at hret'
          rw [bIf_pos (blt_yes hr2)]
          exact hret' _ (by rw [TT.ds_setSlot, TT.ds_setSlot, k2.1, tds]) (by rw [slot_same _ _ _ (by decide)]) (by decide)
        · rw [if_neg hr2] at hkn'
          rw [bIf_neg (blt_no (by omega))]
          exact hkn' _ rfl (k2.set _ (by decide) rfl)
theorem w14_loop {X : Nat → Option XExt} (h9 : X 9 = none) (h15 : X 15 = none) (h19 : X 19 = none) (h17 : X 17 = none) (h44 : X 44 = none) (h43 : X 43 = none) {n : Nat} (hn : 300 ≤ n) {H : Heap} {v iv : AV} {ms : List Mod} {m : Mod} {mp D : Nat} {kn : TT → Heap → Bool} {kx : Ev.X → TT → Heap → Bool}
    (hE : EnvV H v ms) (hf : ∀ m ∈ ms, m.fine) (hlen : ms.length ≤ 100) (hm : m.fine) (hI : ImpV H iv m.imps) (hmp : mp < H.next) (hgm : H.get mp = .cells (.r0 (modRow m iv)) 1 9 39 false false)
    (hD : D = ms.length + 5) (hb : H.next + m.imps.length * D ≤ 32768)
    (hret : ∀ T' H', T'.ds = [] → T'.slot 2 = .int 3 (impsBad ms [] m.imps) → Ex H H' (m.imps.length * D) → kx .ret T' H' = true) :
    ∀ (l : List (Nat × Nat)) (j fuel : Nat) (T : TT) (H1 : Heap), m.imps.drop j = l → impsBad ms (m.imps.take j) l = impsBad ms [] m.imps → T.slot 0 = v → T.slot 3 = .ptr mp 0 0 9 → T.slot 10 = iv → T.slot 11 = .int 3 m.imps.length → T.slot 12 = .int 3 j → T.ds = [] → j ≤ m.imps.length →
      Ex H H1 (j * D) → l.length < fuel →
      loopN (fun again T H => CC.f (K14 c14x6) n (CS X n) T H again fun x T H => xCase x (fun i => bIf (Nat.beq i 0) (CC.f (K14 c14x17) n (CS X n) T H kn kx) (kx (Ev.X.exit i) T H)) (kx Ev.X.ret T H) fun v => kx (Ev.X.panic v) T H) fuel T H1 = true := by
  have hm0 := hm
  obtain ⟨_, _, _, hil, hif⟩ := hm
  intro l
  induction l with
  | nil =>
    intro j fuel T H1 h1 h2 t0 t3 t10 t11 t12 tds hj he hfu
    obtain ⟨fuel, rfl⟩ : ∃ q, fuel = q + 1 := ⟨fuel - 1, by simp at hfu; omega⟩
    have hi : m.imps.length ≤ j := List.drop_eq_nil_iff.1 h1
    have hi2 : j = m.imps.length := by omega
    rw [loopN_succ, c14x6_eq, t12, t11, vInt_int, vInt_int, bIf_pos (rfl : Nat.beq 3 3 = true), bIf_pos (rfl : Nat.beq 3 3 = true), forceB_eq, lss_no (by omega) (by omega), c14x7_eq, slot_same _ _ _ (by decide), vBool_bool, bIf_false, xCase_e, bIf_pos (rfl : Nat.beq 0 0 = true), c14x17_eq]
    refine hret _ _ ?_ ?_ (he.mono (by rw [hi2]; exact Nat.le_refl _))
    · simp only [TT.ds_setSlot, tds]
    · rw [slot_same _ _ _ (by decide), ← h2]; rfl
  | cons x l ih =>
    intro j fuel T H1 h1 h2 t0 t3 t10 t11 t12 tds hj he hfu
    obtain ⟨fuel, rfl⟩ : ∃ q, fuel = q + 1 := ⟨fuel - 1, by simp at hfu; omega⟩
    obtain ⟨hx, h1', hi⟩ := drop_cons h1
    have hjD : j * D + D ≤ m.imps.length * D := by
      have := Nat.mul_le_mul_right D (show j + 1 ≤ m.imps.length by omega)
      rw [Nat.add_mul] at this; omega
    have hH1 := he.le
    rcases hI with ⟨_, h0⟩ | ⟨a, rs, N, rfl, ha, hg, hN, hc, hr⟩
    · rw [h0] at hi; simp at hi
    have hrow := hr j x hx
    have hg1 : H1.get a = .cells rs N 2 41 true false := (he.same a ha).trans hg
    have hb1 : H1.next < 32768 := by omega
    rw [loopN_succ, c14x6_eq, t12, t11, vInt_int, vInt_int, bIf_pos (rfl : Nat.beq 3 3 = true), bIf_pos (rfl : Nat.beq 3 3 = true), forceB_eq, lss_yes hi (by omega), c14x7_eq, slot_same _ _ _ (by decide), vBool_bool, bIf_true, c14x8_eq]
    have s10 : (T.setSlot 13 (.bool true)).slot 10 = .slice a 0 m.imps.length 0 true 2 := by rw [slot_ne _ _ _ _ (by decide) (by decide) (by decide), t10]
    have s12 : (T.setSlot 13 (.bool true)).slot 12 = .int 3 j := by rw [slot_ne _ _ _ _ (by decide) (by decide) (by decide), t12]
    have s0 : (T.setSlot 13 (.bool true)).slot 0 = v := by rw [slot_ne _ _ _ _ (by decide) (by decide) (by decide), t0]
    have s3 : (T.setSlot 13 (.bool true)).slot 3 = .ptr mp 0 0 9 := by rw [slot_ne _ _ _ _ (by decide) (by decide) (by decide), t3]
    have s11 : (T.setSlot 13 (.bool true)).slot 11 = .int 3 m.imps.length := by rw [slot_ne _ _ _ _ (by decide) (by decide) (by decide), t11]
    have sds : (T.setSlot 13 (.bool true)).ds = [] := by rw [TT.ds_setSlot, tds]
    generalize T.setSlot 13 (.bool true) = T1 at *
    rw [s10, s12, vSlice_slice, asIdx_int, bIf_pos (blt_yes hi), bIf_pos (rfl : Nat.beq 2 2 = true), forceNat_eq, getO_eq, hg1, oCells_cells, bIf_pos (ble_yes (show Nat.succ (Nat.add 0 j) ≤ N by show 0 + j + 1 ≤ N; omega)), bIf_pos (rfl : Nat.beq 2 2 = true),
      rowAt_eq (show Nat.add 0 j < rs.cap by show 0 + j < _; omega), bIf_pos (rfl : Nat.beq 2 2 = true), bIf_true, newO_eq hb1, bIf_true, getO_eq, Heap.get_add_new hb1, varObj_eq, oCells_cells, bIf_false, bIf_pos (rfl : Nat.ble 1 1 = true), bIf_pos (rfl : Nat.beq 2 2 = true), bIf_true, bIf_true, setRow_r0, putO_eq]
    rw [show rs.row (Nat.add 0 j) = impRow x by rw [show Nat.add 0 j = j from Nat.zero_add j]; exact hrow]
    have e2 : Ex H1 ((H1.add (.cells (.r0 [.str 0 0, .int 3 0]) 1 2 41 false false)).put H1.next (.cells (.r0 (impRow x)) 1 2 41 false false)) 1 := (Ex.add _ hb1).put (Nat.le_refl _) hb1
    have g2 : ((H1.add (.cells (.r0 [.str 0 0, .int 3 0]) 1 2 41 false false)).put H1.next (.cells (.r0 (impRow x)) 1 2 41 false false)).get H1.next = .cells (.r0 (impRow x)) 1 2 41 false false := Heap.get_put_same hb1
    have n2 : ((H1.add (.cells (.r0 [.str 0 0, .int 3 0]) 1 2 41 false false)).put H1.next (.cells (.r0 (impRow x)) 1 2 41 false false)).next = H1.next + 1 := rfl
    generalize (H1.add (.cells (.r0 [.str 0 0, .int 3 0]) 1 2 41 false false)).put H1.next (.cells (.r0 (impRow x)) 1 2 41 false false) = H2 at *
    have e02 := he.trans e2
    have hxf := hif x (List.mem_of_getElem? hx)
    have hgm1 : H1.get mp = .cells (.r0 (modRow m (.slice a 0 m.imps.length 0 true 2))) 1 9 39 false false := (he.same mp hmp).trans hgm
    have hle1 := he.next
    have k1 : Keep (fun i => !(Nat.beq i 5) && !(Nat.beq i 6)) T1 ((T1.setSlot 6 (.ptr H1.next 0 0 2)).setSlot 5 (.int 3 j)) := ((Keep.refl _ T1).set _ (by decide) rfl).set _ (by decide) rfl
    have u6 : ((T1.setSlot 6 (.ptr H1.next 0 0 2)).setSlot 5 (.int 3 j)).slot 6 = .ptr H1.next 0 0 2 := by rw [slot_ne _ _ _ _ (by decide) (by decide) (by decide), slot_same _ _ _ (by decide)]
    have u5 : ((T1.setSlot 6 (.ptr H1.next 0 0 2)).setSlot 5 (.int 3 j)).slot 5 = .int 3 j := slot_same _ _ _ (by decide)
    generalize (T1.setSlot 6 (.ptr H1.next 0 0 2)).setSlot 5 (.int 3 j) = T2 at *
    have u0 : T2.slot 0 = v := by rw [k1.2 0 (by decide) rfl, s0]
    refine x9_ok h17 h44 h43 hn (m := m) (x := x) hm0 hxf.1 (Nat.lt_of_lt_of_le ha (by omega)) ((e2.same a (by omega)).trans hg1) hN hc hr hi (by omega) ((e2.same mp (by omega)).trans hgm1) (by omega) g2 (by rw [k1.2 3 (by decide) rfl, s3]) u5 u6 (by omega) fun H3 e3 => ?_
    have e03 := e02.trans e3
    have hle3 := e3.next
    have hle3' := e3.le
    have k2 := k1.set (.bool ((m.imps.take j).any fun y => y.1 == x.1)) (show 14 < 64 by decide)
    have hE3 := hE.ex e03
    have hcons := impsBad_cons ms (m.imps.take j) x l
    have htake : m.imps.take j ++ [x] = m.imps.take (j + 1) := by rw [List.take_add_one, hx]; rfl
    rw [htake] at hcons
    refine x10_ok h9 h15 h19 hn (v := v) (ms := ms) (xp := H1.next) (x := x) (p := (m.imps.take j).any fun y => y.1 == x.1) hE3 hf hlen hxf.1 hxf.2 (by omega) ((e3.same _ (by omega)).trans g2) ?_ ?_ (slot_same _ _ _ (by decide)) ?_ (by omega) ?_ ?_
    · rw [slot_ne _ _ _ _ (by decide) (by decide) (by decide), u0]
    · rw [slot_ne _ _ _ _ (by decide) (by decide) (by decide), u6]
    · rw [TT.ds_setSlot, k1.1, sds]
    · intro T' H' q1 q2 q3 q4
      rw [xCase_r, xCase_r]
      refine hret T' H' q1 ?_ ((e03.trans q4).mono (by omega))
      rw [q2, ← h2, hcons]
      by_cases hp : ((m.imps.take j).any fun y => y.1 == x.1) = true
      · rw [if_pos hp, if_pos hp]
      · rw [if_neg hp, if_neg hp, if_neg (q3.resolve_left hp)]
    · intro T' H' q1 q2 q3 q4
      have w : ∀ i, i < 64 → p14 i = true → Nat.beq i 5 = false → Nat.beq i 6 = false → T'.slot i = T1.slot i := fun i hi hp h5 h6 => by
        rw [q3.2 i hi hp, slot_ne _ _ _ _ (by decide) hi (fun e => by rw [e] at hp; exact absurd hp (by decide)), k1.2 i hi (by simp [h5, h6])]
      rw [c14x16_eq, w 12 (by decide) rfl rfl rfl, s12, vInt_int, bIf_pos (rfl : Nat.beq 3 3 = true), bIf_true, forceNat_eq, inc_eq (by omega)]
      refine ih (j + 1) fuel _ H' h1' ?_ ?_ ?_ ?_ ?_ ?_ ?_ (by omega) ((e03.trans q4).mono (by rw [Nat.add_mul]; omega)) (by simp at hfu; omega)
      · rw [← h2, hcons, if_neg (by rw [q1]; decide), if_pos q2]
      · rw [slot_ne _ _ _ _ (by decide) (by decide) (by decide), w 0 (by decide) rfl rfl rfl, s0]
      · rw [slot_ne _ _ _ _ (by decide) (by decide) (by decide), w 3 (by decide) rfl rfl rfl, s3]
      · rw [slot_ne _ _ _ _ (by decide) (by decide) (by decide), w 10 (by decide) rfl rfl rfl, s10]
      · rw [slot_ne _ _ _ _ (by decide) (by decide) (by decide), w 11 (by decide) rfl rfl rfl, s11]
      · rw [slot_same _ _ _ (by decide)]
      · rw [TT.ds_setSlot, q3.1, TT.ds_setSlot, k1.1, sds]
/-- what is wrong with a module -/
theorem wrong14 {X : Nat → Option XExt} (h14 : X 14 = none) (h9 : X 9 = none) (h15 : X 15 = none) (h19 : X 19 = none) (h17 : X 17 = none) (h44 : X 44 = none) (h43 : X 43 = none) {n : Nat} (hn : 310 ≤ n) {H : Heap} {v : AV} {ms : List Mod} {i : Nat} {m : Mod} {k : Res → Heap → Bool}
    (hE : EnvV H v ms) (hf : ∀ m ∈ ms, m.fine) (hlen : ms.length ≤ 100) (hm : ms[i]? = some m) (hb : H.next + (3 * ms.length + 12) ≤ 32768)
    (hk : ∀ H', Ex H H' (3 * ms.length + 12) → k (.val (.int 3 (wrongM ms i m))) H' = true) : CS X n 14 [v, .int 3 i] H k = true := by
  obtain ⟨n, rfl⟩ : ∃ j, n = j + 1 := ⟨n - 1, by omega⟩
  have hil : i < ms.length := (List.getElem?_eq_some_iff.1 hm).1
  have hmf := hf m (List.mem_of_getElem? hm)
  have hb1 : H.next < 32768 := by omega
  have hE0 := hE
  rcases hE with ⟨_, h0⟩ | ⟨a, rs, rfl, ha, hg, hc, hr⟩
  · rw [h0] at hil; simp at hil
  obtain ⟨iv, hrow, hiv⟩ := hr i m hm
  have hrow' : rs.row (Nat.add 0 i) = modRow m iv := by rw [show Nat.add 0 i = i from Nat.zero_add i]; exact hrow
  rw [CS_succ _ _ _ _ _ _ h14, e14_eq, lenC2, initT2, f14_eq, c14x0_eq]
  have s0 : (((TT0.setSlot 0 (.slice a 0 ms.length 0 true 9)).setSlot 1 (.int 3 i)).setSlot 2 (.int 3 0)).slot 0 = .slice a 0 ms.length 0 true 9 := by
    rw [slot_ne _ _ _ _ (by decide) (by decide) (by decide), slot_ne _ _ _ _ (by decide) (by decide) (by decide), slot_same _ _ _ (by decide)]
  have s1 : (((TT0.setSlot 0 (.slice a 0 ms.length 0 true 9)).setSlot 1 (.int 3 i)).setSlot 2 (.int 3 0)).slot 1 = .int 3 i := by
    rw [slot_ne _ _ _ _ (by decide) (by decide) (by decide), slot_same _ _ _ (by decide)]
  have sds : (((TT0.setSlot 0 (.slice a 0 ms.length 0 true 9)).setSlot 1 (.int 3 i)).setSlot 2 (.int 3 0)).ds = [] := by
    rw [TT.ds_setSlot, TT.ds_setSlot, TT.ds_setSlot]; rfl
  generalize ((TT0.setSlot 0 (.slice a 0 ms.length 0 true 9)).setSlot 1 (.int 3 i)).setSlot 2 (.int 3 0) = T0 at *
  rw [s0, vSlice_slice, s1, asIdx_int, bIf_pos (blt_yes hil), bIf_pos (rfl : Nat.beq 9 9 = true), forceNat_eq, getO_eq, hg, oCells_cells, bIf_pos (ble_yes (show Nat.succ (Nat.add 0 i) ≤ ms.length by show 0 + i + 1 ≤ _; omega)), bIf_pos (rfl : Nat.beq 9 9 = true),
    rowAt_eq (show Nat.add 0 i < rs.cap by show 0 + i < _; omega), bIf_pos (rfl : Nat.beq 9 9 = true), bIf_true, newO_eq hb1, bIf_true, getO_eq, Heap.get_add_new hb1, varObj_eq, oCells_cells, bIf_false, bIf_pos (rfl : Nat.ble 1 1 = true), bIf_pos (rfl : Nat.beq 9 9 = true), bIf_true, bIf_true, setRow_r0, putO_eq, hrow']
  have e1 : Ex H ((H.add (.cells (.r0 [.int 3 0, .str 0 0, .int 3 0, .nil .s, .nil .s, .nil .s, .nil .s, .nil .s, .nil .s]) 1 9 39 false false)).put H.next (.cells (.r0 (modRow m iv)) 1 9 39 false false)) 1 := (Ex.add _ hb1).put (Nat.le_refl _) hb1
  have g1 : ((H.add (.cells (.r0 [.int 3 0, .str 0 0, .int 3 0, .nil .s, .nil .s, .nil .s, .nil .s, .nil .s, .nil .s]) 1 9 39 false false)).put H.next (.cells (.r0 (modRow m iv)) 1 9 39 false false)).get H.next = .cells (.r0 (modRow m iv)) 1 9 39 false false := Heap.get_put_same hb1
  have n1 : ((H.add (.cells (.r0 [.int 3 0, .str 0 0, .int 3 0, .nil .s, .nil .s, .nil .s, .nil .s, .nil .s, .nil .s]) 1 9 39 false false)).put H.next (.cells (.r0 (modRow m iv)) 1 9 39 false false)).next = H.next + 1 := rfl
  generalize (H.add (.cells (.r0 [.int 3 0, .str 0 0, .int 3 0, .nil .s, .nil .s, .nil .s, .nil .s, .nil .s, .nil .s]) 1 9 39 false false)).put H.next (.cells (.r0 (modRow m iv)) 1 9 39 false false) = H1 at *
  have k1 := (Keep.refl (fun i => !Nat.beq i 3) T0).set (.ptr H.next 0 0 9) (show 3 < 64 by decide) rfl
  have u3 : (T0.setSlot 3 (.ptr H.next 0 0 9)).slot 3 = .ptr H.next 0 0 9 := slot_same _ _ _ (by decide)
  generalize T0.setSlot 3 (.ptr H.next 0 0 9) = T1 at *
  have u0 : T1.slot 0 = .slice a 0 ms.length 0 true 9 := by rw [k1.2 0 (by decide) rfl, s0]
  have u1 : T1.slot 1 = .int 3 i := by rw [k1.2 1 (by decide) rfl, s1]
  have uds : T1.ds = [] := by rw [k1.1, sds]
  rw [c14x1_eq, u3, vPtr_ptr, forceNat_eq, getO_eq, g1, oCells_cells, bIf_pos (rfl : Nat.ble 1 1 = true), bIf_pos (rfl : Nat.beq 9 9 = true), rowAt_r0, nthC_eq (a := .str 1 m.name) rfl, u0]
  refine modOf_ok h9 h15 h19 (by omega) (hE0.ex e1) (fun m hm => (hf m hm).2.1) hlen hmf.2.1 (by omega) fun H2 e2 => ?_
  have e02 := e1.trans e2
  have hle2 := e2.next
  have hle2' := e2.le
  have hlt : (modOf ms m.name).getD 0 < ms.length := by
    cases e : modOf ms m.name with
    | none => show 0 < _; omega
    | some q =>
      obtain ⟨s, hs, _, _⟩ := modOf_some e
      exact (List.getElem?_eq_some_iff.1 hs).1
  have hw : wrongM ms i m = if (modOf ms m.name).getD 0 < i then 5 else impsBad ms [] m.imps := rfl
  rw [hw] at hk
  clear hw
  rw [resCase_val, vTup_tup, nthC0, vTup_tup, nthC_s, nthC0, c14x2_eq]
  have k2 := k1.set (.int 3 ((modOf ms m.name).getD 0)) (show 4 < 64 by decide)
  revert hlt hk
  generalize (modOf ms m.name).getD 0 = q
  intro hk hlt
  rw [slot_same _ _ _ (by decide), vInt_int, slot_ne _ _ _ _ (by decide) (by decide) (by decide), u1, vInt_int, bIf_pos (rfl : Nat.beq 3 3 = true), bIf_pos (rfl : Nat.beq 3 3 = true), forceB_eq, lss_eq (by omega) (by omega), c14x3_eq, slot_same _ _ _ (by decide), vBool_bool]
  by_cases hq : q < i
  · rw [if_pos hq] at hk
    rw [bIf_pos (blt_yes hq), xCase_r, noDs_set, noDs_set, noDs_set, noDs_nil uds, slot_same _ _ _ (by decide)]
    exact hk H2 (e02.mono (by omega))
  · rw [if_neg hq] at hk
    rw [bIf_neg (blt_no (by omega))]
    have w3 : ((T1.setSlot 4 (.int 3 q)).setSlot 9 (.bool (Nat.blt q i))).slot 3 = .ptr H.next 0 0 9 := by rw [slot_ne _ _ _ _ (by decide) (by decide) (by decide), slot_ne _ _ _ _ (by decide) (by decide) (by decide), u3]
    have w0 : ((T1.setSlot 4 (.int 3 q)).setSlot 9 (.bool (Nat.blt q i))).slot 0 = .slice a 0 ms.length 0 true 9 := by rw [slot_ne _ _ _ _ (by decide) (by decide) (by decide), slot_ne _ _ _ _ (by decide) (by decide) (by decide), u0]
    have wds : ((T1.setSlot 4 (.int 3 q)).setSlot 9 (.bool (Nat.blt q i))).ds = [] := by rw [TT.ds_setSlot, TT.ds_setSlot, uds]
    generalize (T1.setSlot 4 (.int 3 q)).setSlot 9 (.bool (Nat.blt q i)) = T2 at *
    have gm2 : H2.get H.next = .cells (.r0 (modRow m iv)) 1 9 39 false false := (e2.same _ (by omega)).trans g1
    have hloop : ∀ T : TT, T.slot 0 = .slice a 0 ms.length 0 true 9 → T.slot 3 = .ptr H.next 0 0 9 → T.slot 10 = iv → T.slot 11 = .int 3 m.imps.length → T.slot 12 = .int 3 0 → T.ds = [] →
        CC.f (K14 c14x5) n (CS X n) T H2 (fun T H => CC.f (K14 c14x17) n (CS X n) T H (fun T H => noDs T (k (Res.val (TT.slot T 2)) H)) fun x T H => xCase x (fun x => false) (noDs T (k (Res.val (TT.slot T 2)) H)) fun v => noDs T (k (Res.pan v) H)) (fun x T H => xCase x (fun x => false) (noDs T (k (Res.val (TT.slot T 2)) H)) fun v => noDs T (k (Res.pan v) H)) = true := by
      intro T t0 t3 t10 t11 t12 tds
      rw [c14x5_eq]
      have hD : m.imps.length * (ms.length + 5) ≤ 2 * (ms.length + 5) := Nat.mul_le_mul_right _ hmf.2.2.2.1
      refine w14_loop h9 h15 h19 h17 h44 h43 (by omega) (hE0.ex e02) hf hlen hmf (hiv.ex e02) (show H.next < H2.next by omega) gm2 rfl (by omega) ?_ m.imps 0 n T H2 rfl rfl t0 t3 t10 t11 t12 tds (Nat.zero_le _) (Ex.refl _ _) (by have := hmf.2.2.2.1; omega)
      intro T' H' q1 q2 q3
      rw [xCase_r, noDs_nil q1, q2]
      exact hk H' ((e02.trans q3).mono (by omega))
    rw [c14x4_eq, w3, vPtr_ptr, forceNat_eq, getO_eq, gm2, oCells_cells, bIf_pos (rfl : Nat.ble 1 1 = true), bIf_pos (rfl : Nat.beq 9 9 = true), rowAt_r0, nthC_eq (a := iv) rfl]
    rcases hiv with ⟨rfl, h0⟩ | ⟨a2, rs2, N, rfl, _⟩
    · rw [vSliceN_nil]
      refine hloop _ ?_ ?_ ?_ ?_ ?_ ?_
      · rw [slot_ne _ _ _ _ (by decide) (by decide) (by decide), slot_ne _ _ _ _ (by decide) (by decide) (by decide), slot_ne _ _ _ _ (by decide) (by decide) (by decide), w0]
      · rw [slot_ne _ _ _ _ (by decide) (by decide) (by decide), slot_ne _ _ _ _ (by decide) (by decide) (by decide), slot_ne _ _ _ _ (by decide) (by decide) (by decide), w3]
      · rw [slot_ne _ _ _ _ (by decide) (by decide) (by decide), slot_ne _ _ _ _ (by decide) (by decide) (by decide), slot_same _ _ _ (by decide)]
      · rw [slot_ne _ _ _ _ (by decide) (by decide) (by decide), slot_same _ _ _ (by decide), h0]; rfl
      · rw [slot_same _ _ _ (by decide)]
      · rw [TT.ds_setSlot, TT.ds_setSlot, TT.ds_setSlot, wds]
    · rw [vSliceN_slice]
      refine hloop _ ?_ ?_ ?_ ?_ ?_ ?_
      · rw [slot_ne _ _ _ _ (by decide) (by decide) (by decide), slot_ne _ _ _ _ (by decide) (by decide) (by decide), slot_ne _ _ _ _ (by decide) (by decide) (by decide), w0]
      · rw [slot_ne _ _ _ _ (by decide) (by decide) (by decide), slot_ne _ _ _ _ (by decide) (by decide) (by decide), slot_ne _ _ _ _ (by decide) (by decide) (by decide), w3]
      · rw [slot_ne _ _ _ _ (by decide) (by decide) (by decide), slot_ne _ _ _ _ (by decide) (by decide) (by decide), slot_same _ _ _ (by decide)]
      · rw [slot_ne _ _ _ _ (by decide) (by decide) (by decide), slot_same _ _ _ (by decide)]
      · rw [slot_same _ _ _ (by decide)]
      · rw [TT.ds_setSlot, TT.ds_setSlot, TT.ds_setSlot, wds]
end Go.Sp

namespace Go.Sp
open Go Go.Ev Go.Proofs
set_option linter.unusedVariables false
theorem checkAll_cons (ms : List Mod) (i : Nat) (m : Mod) (l : List Mod) : checkAll ms i (m :: l) = if wrongM ms i m = 0 then checkAll ms (i + 1) l else wrongM ms i m := rfl
theorem chk8 {X : Nat → Option XExt} (h14 : X 14 = none) (h9 : X 9 = none) (h15 : X 15 = none) (h19 : X 19 = none) (h17 : X 17 = none) (h44 : X 44 = none) (h43 : X 43 = none) {n : Nat} (hn : 310 ≤ n) {H : Heap} {v : AV} {ms : List Mod} {D : Nat} {kn : TT → Heap → Bool} {kx : Ev.X → TT → Heap → Bool}
    (hE : EnvV H v ms) (hf : ∀ m ∈ ms, m.fine) (hlen : ms.length ≤ 100) (hD : D = 3 * ms.length + 12) (hb : H.next + ms.length * D ≤ 32768)
    (hkn : checkAll ms 0 ms = 0 → ∀ T' H', T'.ds = [] → T'.slot 0 = v → Ex H H' (ms.length * D) → kn T' H' = true)
    (hret : checkAll ms 0 ms ≠ 0 → ∀ T' H', T'.ds = [] → T'.slot 1 = .nil .s → T'.slot 2 = .int 3 (checkAll ms 0 ms) → Ex H H' (ms.length * D) → kx .ret T' H' = true) :
    ∀ (l : List Mod) (i fuel : Nat) (T : TT) (H1 : Heap), ms.drop i = l → checkAll ms i l = checkAll ms 0 ms → T.slot 0 = v → T.slot 8 = .int 3 ms.length → T.slot 9 = .int 3 i → T.ds = [] → i ≤ ms.length → Ex H H1 (i * D) → l.length < fuel →
      loopN (fun again T H => CC.f (K8 c8x2) n (CS X n) T H again fun x T H => xCase x (fun i => bIf (Nat.beq i 0) (kn T H) (kx (Ev.X.exit i) T H)) (kx Ev.X.ret T H) fun v => kx (Ev.X.panic v) T H) fuel T H1 = true := by
  intro l
  induction l with
  | nil =>
    intro i fuel T H1 h1 h2 t0 t8 t9 tds hi he hfu
    obtain ⟨fuel, rfl⟩ : ∃ q, fuel = q + 1 := ⟨fuel - 1, by simp at hfu; omega⟩
    have hi1 : ms.length ≤ i := List.drop_eq_nil_iff.1 h1
    have hi2 : i = ms.length := by omega
    rw [loopN_succ, c8x2_eq, t9, t8, vInt_int, vInt_int, bIf_pos (rfl : Nat.beq 3 3 = true), bIf_pos (rfl : Nat.beq 3 3 = true), forceB_eq, lss_no (by omega) (by omega), c8x3_eq, slot_same _ _ _ (by decide), vBool_bool, bIf_false, xCase_e, bIf_pos (rfl : Nat.beq 0 0 = true)]
    refine hkn h2.symm _ _ ?_ ?_ (he.mono (by rw [hi2]; exact Nat.le_refl _))
    · rw [TT.ds_setSlot, tds]
    · rw [slot_ne _ _ _ _ (by decide) (by decide) (by decide), t0]
  | cons m l ih =>
    intro i fuel T H1 h1 h2 t0 t8 t9 tds hi he hfu
    obtain ⟨fuel, rfl⟩ : ∃ q, fuel = q + 1 := ⟨fuel - 1, by simp at hfu; omega⟩
    obtain ⟨hm, h1', hil⟩ := drop_cons h1
    have hiD : i * D + D ≤ ms.length * D := by
      have := Nat.mul_le_mul_right D (show i + 1 ≤ ms.length by omega)
      rw [Nat.add_mul] at this; omega
    have hH1 := he.le
    rw [checkAll_cons] at h2
    rw [loopN_succ, c8x2_eq, t9, t8, vInt_int, vInt_int, bIf_pos (rfl : Nat.beq 3 3 = true), bIf_pos (rfl : Nat.beq 3 3 = true), forceB_eq, lss_yes hil (by omega), c8x3_eq, slot_same _ _ _ (by decide), vBool_bool, bIf_true, c8x4_eq, c8x5_eq]
    have k1 := ((Keep.refl (fun i => !Nat.beq i 10 && !Nat.beq i 3) T).set (.bool true) (show 10 < 64 by decide) rfl).set ((T.setSlot 10 (.bool true)).slot 9) (show 3 < 64 by decide) rfl
    have u3 : ((T.setSlot 10 (.bool true)).setSlot 3 ((T.setSlot 10 (.bool true)).slot 9)).slot 3 = .int 3 i := by rw [slot_same _ _ _ (by decide), slot_ne _ _ _ _ (by decide) (by decide) (by decide), t9]
    generalize (T.setSlot 10 (.bool true)).setSlot 3 ((T.setSlot 10 (.bool true)).slot 9) = T1 at *
    have u0 : T1.slot 0 = v := by rw [k1.2 0 (by decide) rfl, t0]
    rw [u0, u3]
    refine wrong14 h14 h9 h15 h19 h17 h44 h43 hn (hE.ex he) hf hlen hm (by omega) fun H2 e2 => ?_
    have e02 := he.trans e2
    rw [resCase_val, c8x6_eq, slot_same _ _ _ (by decide), vInt_int, bIf_pos (rfl : Nat.beq 3 3 = true), bIf_true]
    by_cases hw : wrongM ms i m = 0
    · rw [if_pos hw] at h2
      rw [bIf_pos (beq_yes hw), c8x7_eq, slot_same _ _ _ (by decide), vBool_bool, bIf_false, c8x8_eq, slot_ne _ _ _ _ (by decide) (by decide) (by decide), slot_ne _ _ _ _ (by decide) (by decide) (by decide), k1.2 9 (by decide) rfl, t9, vInt_int, bIf_pos (rfl : Nat.beq 3 3 = true), bIf_true, forceNat_eq, inc_eq (by omega)]
      refine ih (i + 1) fuel _ H2 h1' h2 ?_ ?_ ?_ ?_ (by omega) (e02.mono (by rw [Nat.add_mul]; omega)) (by simp at hfu; omega)
      · rw [slot_ne _ _ _ _ (by decide) (by decide) (by decide), slot_ne _ _ _ _ (by decide) (by decide) (by decide), slot_ne _ _ _ _ (by decide) (by decide) (by decide), u0]
      · rw [slot_ne _ _ _ _ (by decide) (by decide) (by decide), slot_ne _ _ _ _ (by decide) (by decide) (by decide), slot_ne _ _ _ _ (by decide) (by decide) (by decide), k1.2 8 (by decide) rfl, t8]
      · rw [slot_same _ _ _ (by decide)]
      · rw [TT.ds_setSlot, TT.ds_setSlot, TT.ds_setSlot, k1.1, tds]
    · rw [if_neg hw] at h2
      rw [bIf_neg (beq_no hw), c8x7_eq, slot_same _ _ _ (by decide), vBool_bool, bIf_true, xCase_r, xCase_r]
      refine hret (by rw [← h2]; exact hw) _ _ ?_ ?_ ?_ (e02.mono (by omega))
      · rw [TT.ds_setSlot, TT.ds_setSlot, TT.ds_setSlot, TT.ds_setSlot, k1.1, tds]
      · rw [slot_ne _ _ _ _ (by decide) (by decide) (by decide), slot_same _ _ _ (by decide)]
      · rw [slot_same _ _ _ (by decide), slot_ne _ _ _ _ (by decide) (by decide) (by decide), slot_same _ _ _ (by decide), h2]
/-- what was placed so far, in memory -/
structure Plc (H1 : Heap) (b pp q : Nat) (ov : AV) (placed out : List Nat) : Prop where
  hb : b ≤ q
  hpq : q < pp
  hp : pp < H1.next
  ptr : H1.get pp = .cells (.r0 [.map q]) 1 1 66 false false
  map : ∃ es clk, H1.get q = .map es clk ∧ PlacedE es placed
  small : ∀ x ∈ placed, x < 256
  out : (ov = .nil .s ∧ out = []) ∨ ∃ a rs, ov = .slice a 0 out.length 0 true 1 ∧ pp < a ∧ a < H1.next ∧ H1.get a = .cells rs out.length 1 3 true false ∧ out.length ≤ rs.cap ∧ ∀ j x, out[j]? = some x → rs.row j = [.int 3 x]
theorem Plc.ex {H1 H2 : Heap} {b pp q d : Nat} {ov : AV} {placed out : List Nat} (h : Plc H1 b pp q ov placed out) (e : Ex H1 H2 d) : Plc H2 b pp q ov placed out := by
  have hn := e.next
  have hp := h.hp
  have hpq := h.hpq
  obtain ⟨es, clk, h1, h2⟩ := h.map
  refine ⟨h.hb, h.hpq, by omega, (e.same _ hp).trans h.ptr, ⟨es, clk, (e.same _ (by omega)).trans h1, h2⟩, h.small, ?_⟩
  rcases h.out with h3 | ⟨a, rs, g1, g2, g3, g4, g5⟩
  · exact .inl h3
  · exact .inr ⟨a, rs, g1, g2, by omega, (e.same _ g3).trans g4, g5⟩
theorem Plc.intV {H1 : Heap} {b pp q : Nat} {ov : AV} {placed out : List Nat} (h : Plc H1 b pp q ov placed out) : IntV H1 ov out := by
  rcases h.out with h3 | ⟨a, rs, g1, g2, g3, g4, g5, g6⟩
  · exact .inl h3
  · exact .inr ⟨a, rs, g1, g3, g4, g5, g6⟩
theorem plc8 {X : Nat → Option XExt} (h15 : X 15 = none) (h16 : X 16 = none) (h17 : X 17 = none) (h18 : X 18 = none) (h44 : X 44 = none) {n : Nat} (hn : 310 ≤ n) {H : Heap} {v : AV} {ms : List Mod} {D b pp q : Nat} {R : List Nat × Nat} {kn : TT → Heap → Bool} {kx : Ev.X → TT → Heap → Bool}
    (hE : EnvV H v ms) (hf : ∀ m ∈ ms, m.fine) (hlen : ms.length ≤ 100) (hD : D = 3 * ms.length + 2) (hb : H.next + (ms.length + 1) * D ≤ 32768) (hq : H.next ≤ q)
    (hret : ∀ T' H' ov, T'.ds = [] → T'.slot 1 = ov → IntV H' ov R.1 → T'.slot 2 = .int 3 R.2 → Ex H H' ((ms.length + 1) * D) → kx .ret T' H' = true) :
    ∀ (np : Nat) (placed out : List Nat) (fuel : Nat) (T : TT) (H1 : Heap) (ov : AV), placeLoop ms np placed out = R → ms.length < out.length + np → out.length ≤ ms.length → np ≤ fuel → T.slot 0 = v → T.slot 5 = .ptr pp 0 0 1 → T.slot 6 = ov → T.ds = [] →
      Plc H1 b pp q ov placed out → Ex H H1 (out.length * D + 2) →
      loopN (fun again T H => CC.f (K8 c8x12) n (CS X n) T H again fun x T H => xCase x (fun i => bIf (Nat.beq i 2) (CC.f (K8 c8x19) n (CS X n) T H kn kx) (kx (Ev.X.exit i) T H)) (kx Ev.X.ret T H) fun v => kx (Ev.X.panic v) T H) fuel T H1 = true := by
  intro np
  induction np with
  | zero => intro placed out fuel T H1 ov _ h2 h3; omega
  | succ np ih =>
    intro placed out fuel T H1 ov hR h2 h3 hfu t0 t5 t6 tds hp he
    obtain ⟨fuel, rfl⟩ : ∃ q, fuel = q + 1 := ⟨fuel - 1, by omega⟩
    have hoD : out.length * D + D ≤ (ms.length + 1) * D := by
      have := Nat.mul_le_mul_right D (show out.length + 1 ≤ ms.length + 1 by omega)
      rw [Nat.add_mul, Nat.one_mul] at this; exact this
    have hH1 := he.le
    have hH1n := he.next
    rw [loopN_succ, c8x12_eq, t0, t6]
    have hgo : ∀ KN KX, (∀ T' : TT, T'.slot 0 = v → T'.slot 5 = .ptr pp 0 0 1 → T'.slot 6 = ov → T'.ds = [] → CC.f (K8 c8x13) n (CS X n) (T'.setSlot 12 (.bool (Nat.blt out.length ms.length))) H1 KN KX = true) →
        (vSliceN ov
          (vSliceN v (vInt (AV.int 3 0) fun c1 a => vInt (AV.int 3 0) fun c2 b => bIf (Nat.beq c1 3) (bIf (Nat.beq c2 3) (forceB (lssN 9223372036854775808 18446744073709551616 a b) fun r => CC.f (K8 c8x13) n (CS X n) (TT.setSlot T 12 (AV.bool r)) H1 KN KX) false) false)
            fun x x_1 l x_2 x_3 x_4 => vInt (AV.int 3 0) fun c1 a => vInt (AV.int 3 l) fun c2 b => bIf (Nat.beq c1 3) (bIf (Nat.beq c2 3) (forceB (lssN 9223372036854775808 18446744073709551616 a b) fun r => CC.f (K8 c8x13) n (CS X n) (TT.setSlot T 12 (AV.bool r)) H1 KN KX) false) false)
          fun x x_1 l x_2 x_3 x_4 =>
          vSliceN v (vInt (AV.int 3 l) fun c1 a => vInt (AV.int 3 0) fun c2 b => bIf (Nat.beq c1 3) (bIf (Nat.beq c2 3) (forceB (lssN 9223372036854775808 18446744073709551616 a b) fun r => CC.f (K8 c8x13) n (CS X n) (TT.setSlot T 12 (AV.bool r)) H1 KN KX) false) false)
            fun x x_5 l_1 x_6 x_7 x_8 => vInt (AV.int 3 l) fun c1 a => vInt (AV.int 3 l_1) fun c2 b => bIf (Nat.beq c1 3) (bIf (Nat.beq c2 3) (forceB (lssN 9223372036854775808 18446744073709551616 a b) fun r => CC.f (K8 c8x13) n (CS X n) (TT.setSlot T 12 (AV.bool r)) H1 KN KX) false) false) = true := by
      intro KN KX hh
      have h4 := hh T t0 t5 t6 tds
      rcases hp.out with ⟨rfl, ho⟩ | ⟨a, rs, rfl, _⟩
      · rw [ho] at h4
        rcases hE with ⟨rfl, h0⟩ | ⟨a, rs, rfl, _⟩
        · rw [h0] at h4
          rw [vSliceN_nil, vSliceN_nil, vInt_int, vInt_int, bIf_pos (rfl : Nat.beq 3 3 = true), bIf_pos (rfl : Nat.beq 3 3 = true), forceB_eq, lss_eq (by omega) (by omega)]
          exact h4
        · rw [vSliceN_nil, vSliceN_slice, vInt_int, vInt_int, bIf_pos (rfl : Nat.beq 3 3 = true), bIf_pos (rfl : Nat.beq 3 3 = true), forceB_eq, lss_eq (by omega) (by omega)]
          exact h4
      · rcases hE with ⟨rfl, h0⟩ | ⟨a, rs, rfl, _⟩
        · rw [h0] at h4
          rw [vSliceN_slice, vSliceN_nil, vInt_int, vInt_int, bIf_pos (rfl : Nat.beq 3 3 = true), bIf_pos (rfl : Nat.beq 3 3 = true), forceB_eq, lss_eq (by omega) (by omega)]
          exact h4
        · rw [vSliceN_slice, vSliceN_slice, vInt_int, vInt_int, bIf_pos (rfl : Nat.beq 3 3 = true), bIf_pos (rfl : Nat.beq 3 3 = true), forceB_eq, lss_eq (by omega) (by omega)]
          exact h4
    refine hgo _ _ ?_
    clear hgo
    intro T t0 t5 t6 tds
    rw [c8x13_eq, slot_same _ _ _ (by decide), vBool_bool]
    have k1 := (Keep.refl (fun i => !Nat.beq i 12) T).set (.bool (Nat.blt out.length ms.length)) (show 12 < 64 by decide) rfl
    generalize T.setSlot 12 (.bool (Nat.blt out.length ms.length)) = T1 at *
    have u0 : T1.slot 0 = v := by rw [k1.2 0 (by decide) rfl, t0]
    have u5 : T1.slot 5 = .ptr pp 0 0 1 := by rw [k1.2 5 (by decide) rfl, t5]
    have u6 : T1.slot 6 = ov := by rw [k1.2 6 (by decide) rfl, t6]
    have uds : T1.ds = [] := by rw [k1.1, tds]
    by_cases hlt : out.length < ms.length
    · have hoD2 : out.length * D + D + D ≤ (ms.length + 1) * D := by
        have := Nat.mul_le_mul_right D (show out.length + 2 ≤ ms.length + 1 by omega)
        rw [Nat.add_mul] at this; omega
      rw [bIf_pos (blt_yes hlt)]
      unfold placeLoop at hR
      rw [if_pos hlt] at hR
      rw [c8x14_eq, u0, u5]
      obtain ⟨es, clk, hmap, hes⟩ := hp.map
      have hbp := hp.hp
      have hbq := hp.hpq
      refine idx15 h15 (by omega) (hE.ex he) hlen (d := 3) (by omega) (p := readyM placed) (by omega) ?_ ?_
      · intro m iv H2 k' hm hiv h12 hb2 hk1
        have hmf := hf m hm
        have hn2 := h12.next
        exact cl16 h16 h17 h18 h44 (by omega) (by have := hmf.2.2.2.1; omega) (by omega) ((h12.same _ hbp).trans hp.ptr) (by omega) ((h12.same _ (by omega)).trans hmap) hes hp.small hmf hiv fun H3 h23 => hk1 H3 (h23.mono (by have := hmf.2.2.2.1; omega))
      · intro H2 h12
        have hp2 := hp.ex h12
        have hE2 := hE.ex (he.trans h12)
        have hn2 := h12.next
        have hl2 := h12.le
        rw [resCase_val, c8x15_eq, slot_same _ _ _ (by decide)]
        cases e : idxFrom (readyM placed) 0 ms with
        | none =>
          rw [e] at hR
          rw [vInt_int, bIf_pos (rfl : Nat.beq 3 3 = true), bIf_true, forceB_eq, show lssN 9223372036854775808 18446744073709551616 (code none) 0 = true from lss_m1 (by omega), c8x16_eq, slot_same _ _ _ (by decide), vBool_bool, bIf_true, xCase_r, xCase_r]
          refine hret _ H2 (.nil .s) ?_ ?_ ?_ ?_ ((he.trans h12).mono (by omega))
          · rw [TT.ds_setSlot, TT.ds_setSlot, TT.ds_setSlot, TT.ds_setSlot, uds]
          · rw [slot_ne _ _ _ _ (by decide) (by decide) (by decide), slot_same _ _ _ (by decide)]
          · rw [← hR]; exact .inl ⟨rfl, rfl⟩
          · rw [← hR, slot_same _ _ _ (by decide)]
        | some k =>
          rw [e] at hR
          obtain ⟨_, m, hm, hrd, _⟩ := idxFrom_some e
          simp only [Nat.sub_zero] at hm
          simp only [hm] at hR
          have hkl : k < ms.length := (List.getElem?_eq_some_iff.1 hm).1
          have hmf := hf m (List.mem_of_getElem? hm)
          rw [vInt_int, bIf_pos (rfl : Nat.beq 3 3 = true), bIf_true, forceB_eq, show lssN 9223372036854775808 18446744073709551616 (code (some k)) 0 = false from lss_no (Nat.zero_le _) (show k < 9223372036854775808 by omega), c8x16_eq, slot_same _ _ _ (by decide), vBool_bool, bIf_false, c8x17_eq]
          have k2 := (((Keep.refl (fun i => !Nat.beq i 12 && !Nat.beq i 7 && !Nat.beq i 13) T1).set (.int 3 (code (some k))) (show 7 < 64 by decide) rfl).set (.bool false) (show 13 < 64 by decide) rfl)
          have w7 : ((T1.setSlot 7 (.int 3 (code (some k)))).setSlot 13 (.bool false)).slot 7 = .int 3 k := by rw [slot_ne _ _ _ _ (by decide) (by decide) (by decide), slot_same _ _ _ (by decide)]; rfl
          generalize (T1.setSlot 7 (.int 3 (code (some k)))).setSlot 13 (.bool false) = T2 at *
          have w0 : T2.slot 0 = v := by rw [k2.2 0 (by decide) rfl, u0]
          have w5 : T2.slot 5 = .ptr pp 0 0 1 := by rw [k2.2 5 (by decide) rfl, u5]
          have w6 : T2.slot 6 = ov := by rw [k2.2 6 (by decide) rfl, u6]
          have wds : T2.ds = [] := by rw [k2.1, uds]
          have hb2 : H2.next < 32768 := by omega
          rw [w7, cellsN_int, putRows_one, show (Rows.r0 []).setR 0 [AV.int 3 k] = .r0 [AV.int 3 k] from rfl, newO_eq hb2]
          have e23 : Ex H2 (H2.add (.cells (.r0 [.int 3 k]) 1 1 3 false false)) 1 := Ex.add _ hb2
          have g3 : (H2.add (.cells (.r0 [.int 3 k]) 1 1 3 false false)).get H2.next = .cells (.r0 [.int 3 k]) 1 1 3 false false := Heap.get_add_new hb2
          have n3 : (H2.add (.cells (.r0 [.int 3 k]) 1 1 3 false false)).next = H2.next + 1 := rfl
          generalize H2.add (.cells (.r0 [.int 3 k]) 1 1 3 false false) = H3 at *
          rw [src_one g3 (by omega) (by exact Nat.le_refl _), show (Rows.r0 [AV.int 3 k]).row 0 = [AV.int 3 k] from rfl, w6]
          have hp3 := hp2.ex e23
          have he3 := (he.trans h12).trans e23
          have hE3 := hE.ex he3
          have hb3 : H3.next < 32768 := by omega
          -- behind the append
          have hap : ∀ KK : AV → Heap → Bool, (∀ ov' H4, Plc H4 b pp q ov' placed (out ++ [k]) → Ex H H4 ((out.length + 1) * D + 2) → KK ov' H4 = true) → appendTo 3 1 8 ov 1 [[AV.int 3 k]] H3 KK = true := by
            intro KK hKK
            have hx : out.length * D + 2 + ms.length * 3 + 1 + 1 ≤ (out.length + 1) * D + 2 := by rw [Nat.add_mul]; omega
            have hbp3 := hp3.hp
            have hbq3 := hp3.hpq
            obtain ⟨es3, clk3, hmap3, hes3⟩ := hp3.map
            rcases hp3.out with ⟨rfl, ho⟩ | ⟨a, rs, rfl, g1, g2, g4, g5, g6⟩
            · rw [append_new (by omega) hb3]
              have e34 : Ex H3 (H3.add (.cells (.r0 [.int 3 k]) 1 1 3 true false)) 1 := Ex.add _ hb3
              refine hKK _ _ ⟨hp3.hb, hp3.hpq, ?_, (e34.same _ hbp3).trans hp3.ptr, ⟨es3, clk3, (e34.same _ (by omega)).trans hmap3, hes3⟩, hp3.small, ?_⟩ ((he3.trans e34).mono hx)
              · show pp < H3.next + 1; omega
              · rw [ho]
                refine .inr ⟨H3.next, .r0 [.int 3 k], rfl, hbp3, by show H3.next < H3.next + 1; omega, Heap.get_add_new hb3, Nat.le_refl _, ?_⟩
                intro j x hx
                cases j with
                | zero => simp at hx; subst hx; rfl
                | succ j => simp at hx
            · obtain ⟨rs', r1, r2, r3, r4⟩ := append_one (r := [AV.int 3 k]) (b := 8) (H := H3) g4 g5 (by omega) (by omega) hb3 g2
              rw [r1]
              have ha32 : a < 32768 := by omega
              have e34 : ∀ o : AObj, ∀ x, x ≠ a → x < H3.next → ((H3.put a .dead).add o).get x = H3.get x := fun o x hxa hx3 => by
                rw [Heap.get_add_old (by simpa using hb3) (by simpa using hx3), Heap.get_put_ne ha32 (by omega) hxa]
              refine hKK _ _ ⟨hp3.hb, hp3.hpq, ?_, (e34 _ pp (by omega) hbp3).trans hp3.ptr, ⟨es3, clk3, (e34 _ q (by omega) (by omega)).trans hmap3, hes3⟩, hp3.small, ?_⟩ ?_
              · show pp < H3.next + 1; omega
              · rw [List.length_append]
                refine .inr ⟨H3.next, rs', rfl, hbp3, by show H3.next < H3.next + 1; omega, Heap.get_add_new (by simpa using hb3), r2, ?_⟩
                intro j x hx
                rw [List.getElem?_append] at hx
                split at hx
                · rename_i hj
                  rw [r3 j hj]; exact g6 j x hx
                · rename_i hj
                  have hj2 : j - out.length < 1 := by
                    have := (List.getElem?_eq_some_iff.1 hx).1; simpa using this
                  have hj3 : j = out.length := by omega
                  subst hj3
                  simp at hx; subst hx
                  exact r4
              · have hn3 := he3.le
                refine ⟨?_, ?_, fun x hx3 => ?_⟩
                · show H.next ≤ H3.next + 1
                  have := he3.next; omega
                · show H3.next + 1 ≤ _
                  omega
                · have := he3.next
                  rw [e34 _ x (by omega) (by omega)]
                  exact he3.same x hx3
          refine hap _ fun ov' H4 hp4 he4 => ?_
          clear hap
          have hE4 := hE.ex he4
          obtain ⟨es4, clk4, hmap4, hes4⟩ := hp4.map
          have hbp4 := hp4.hp
          have hbq4 := hp4.hpq
          have v6 : (T2.setSlot 6 ov').slot 6 = ov' := slot_same _ _ _ (by decide)
          have k3 := (Keep.refl (fun i => !Nat.beq i 6) T2).set ov' (show 6 < 64 by decide) rfl
          generalize T2.setSlot 6 ov' = T3 at *
          have v0 : T3.slot 0 = v := by rw [k3.2 0 (by decide) rfl, w0]
          have v5 : T3.slot 5 = .ptr pp 0 0 1 := by rw [k3.2 5 (by decide) rfl, w5]
          have v7 : T3.slot 7 = .int 3 k := by rw [k3.2 7 (by decide) rfl, w7]
          have vds : T3.ds = [] := by rw [k3.1, wds]
          have hq4 : q < 32768 := by have := he4.le; omega
          have hl4 := he4.le
          have hx2 : (out.length + 1) * D = out.length * D + D := by rw [Nat.add_mul, Nat.one_mul]
          rw [c8x18_eq, v5, rowOf_eq hp4.ptr (by omega) Nat.one_pos, nthC_eq (a := .map q) rfl, v0]
          have hE5 := hE4
          rcases hE4 with ⟨_, h0⟩ | ⟨a, rs, hv, ha, hg, hc, hr⟩
          · rw [h0] at hkl; simp at hkl
          obtain ⟨iv, hrow, _⟩ := hr k m hm
          have hrow' : rs.row (Nat.add 0 k) = modRow m iv := by rw [show Nat.add 0 k = k from Nat.zero_add k]; exact hrow
          rw [hv, vSlice_slice, v7, asIdx_int, bIf_pos (blt_yes hkl), bIf_pos (rfl : Nat.beq 9 9 = true), forceNat_eq, forceNat_eq, getO_eq, hg, oCells_cells,
            bIf_pos (ble_yes (show Nat.succ (Nat.add 0 k) ≤ ms.length by show 0 + k + 1 ≤ _; omega)), bIf_pos (rfl : Nat.beq 9 9 = true), rowAt_eq (show Nat.add 0 k < rs.cap by show 0 + k < _; omega), hrow', nthC_eq (a := .str 1 m.name) rfl,
            bIf_pos (keyOk9 _ _), vMap_map, getO_eq, hmap4, oMap_map]
          have hnot : placed.contains m.name = false := by
            unfold readyM at hrd
            simp only [Bool.and_eq_true, Bool.not_eq_true'] at hrd
            exact hrd.1
          have hupd : ∀ KK : AObj → Bool, updIn (.str 1 m.name) (.bool true) es4 clk4 KK = KK (.map (es4 ++ [(.str 1 m.name, .bool true, clk4)]) (clk4 + 1)) := by
            intro KK
            unfold updIn
            rcases findK_placed hmf.2.1 es4 placed 0 hes4 hp4.small with ⟨h5, _⟩ | ⟨_, h5⟩
            · rw [hnot] at h5; cases h5
            · rw [h5]
          rw [hupd, putO_eq]
          have hput : ∀ x, x ≠ q → x < 32768 → (H4.put q (.map (es4 ++ [(.str 1 m.name, .bool true, clk4)]) (clk4 + 1))).get x = H4.get x := fun x hx hx2 => Heap.get_put_ne hq4 hx2 hx
          refine ih (placed ++ [m.name]) (out ++ [k]) fuel T3 _ ov' hR (by rw [List.length_append]; simp; omega) (by rw [List.length_append]; simp; omega) (by omega) v0 v5 v6 vds ⟨hp4.hb, hp4.hpq, hp4.hp, (hput pp (by omega) (by omega)).trans hp4.ptr, ⟨_, _, Heap.get_put_same hq4, ?_⟩, ?_, ?_⟩ ?_
          · unfold PlacedE at hes4 ⊢
            rw [List.map_append, List.map_append, hes4]; rfl
          · intro x hx
            rcases List.mem_append.1 hx with hx | hx
            · exact hp4.small x hx
            · simp at hx; subst hx; exact hmf.2.1
          · rcases hp4.out with h6 | ⟨a2, rs2, g1, g2, g3, g4, g5⟩
            · exact .inl h6
            · exact .inr ⟨a2, rs2, g1, g2, g3, (hput a2 (by omega) (by omega)).trans g4, g5⟩
          · have he5 := he4.put (o := .map (es4 ++ [(.str 1 m.name, .bool true, clk4)]) (clk4 + 1)) (a := q) hq hq4
            rw [List.length_append]
            exact he5
    · have hge : out.length = ms.length := by omega
      rw [bIf_neg (blt_no (by omega)), xCase_e, bIf_pos (rfl : Nat.beq 2 2 = true), c8x19_eq]
      unfold placeLoop at hR
      rw [if_neg hlt] at hR
      refine hret _ H1 ov ?_ ?_ ?_ ?_ (he.mono (by omega))
      · rw [TT.ds_setSlot, TT.ds_setSlot, uds]
      · rw [slot_ne _ _ _ _ (by decide) (by decide) (by decide), slot_same _ _ _ (by decide), u6]
      · rw [← hR]; exact hp.intV
      · rw [← hR, slot_same _ _ _ (by decide)]
def dOrd (L : Nat) : Nat := L * (3 * L + 12) + 2 + (L + 1) * (3 * L + 2)
/-- the order of modules -/
theorem order8 {X : Nat → Option XExt} (h8 : X 8 = none) (h14 : X 14 = none) (h9 : X 9 = none) (h15 : X 15 = none) (h16 : X 16 = none) (h18 : X 18 = none) (h19 : X 19 = none) (h17 : X 17 = none) (h44 : X 44 = none) (h43 : X 43 = none) {n : Nat} (hn : 320 ≤ n) {H : Heap} {v : AV} {ms : List Mod} {k : Res → Heap → Bool}
    (hE : EnvV H v ms) (hf : ∀ m ∈ ms, m.fine) (hlen : ms.length ≤ 100) (hb : H.next + dOrd ms.length ≤ 32768)
    (hk : ∀ H' ov, IntV H' ov (orderM ms).1 → Ex H H' (dOrd ms.length) → k (.val (.tup [ov, .int 3 (orderM ms).2])) H' = true) : CS X n 8 [v] H k = true := by
  obtain ⟨n, rfl⟩ : ∃ j, n = j + 1 := ⟨n - 1, by omega⟩
  have hdo : dOrd ms.length = ms.length * (3 * ms.length + 12) + 2 + (ms.length + 1) * (3 * ms.length + 2) := rfl
  have hpos : 0 < (ms.length + 1) * (3 * ms.length + 2) := Nat.mul_pos (by omega) (by omega)
  rw [CS_succ _ _ _ _ _ _ h8, e8_eq, lenC1, initT1, f8_eq, c8x0_eq]
  have hret : ∀ (T' : TT) (H' : Heap) (ov : AV), T'.ds = [] → T'.slot 1 = ov → IntV H' ov (orderM ms).1 → T'.slot 2 = .int 3 (orderM ms).2 → Ex H H' (dOrd ms.length) →
      (fun x T H => xCase x (fun x => false) (noDs T (k (Res.val (AV.tup [TT.slot T 1, TT.slot T 2])) H)) fun v => noDs T (k (Res.pan v) H)) Ev.X.ret T' H' = true := by
    intro T' H' ov q1 q2 q3 q4 q5
    show xCase Ev.X.ret _ _ _ = true
    rw [xCase_r, noDs_nil q1, q2, q4]
    exact hk H' ov q3 q5
  have hloop : ∀ T : TT, T.slot 0 = v → T.slot 8 = .int 3 ms.length → T.slot 9 = .int 3 0 → T.ds = [] →
      CC.f (K8 c8x1) n (CS X n) T H (fun T H => CC.f (K8 c8x9) n (CS X n) T H (fun T H => noDs T (k (Res.val (AV.tup [TT.slot T 1, TT.slot T 2])) H)) fun x T H => xCase x (fun x => false) (noDs T (k (Res.val (AV.tup [TT.slot T 1, TT.slot T 2])) H)) fun v => noDs T (k (Res.pan v) H)) (fun x T H => xCase x (fun x => false) (noDs T (k (Res.val (AV.tup [TT.slot T 1, TT.slot T 2])) H)) fun v => noDs T (k (Res.pan v) H)) = true := by
    revert hret
    generalize (fun x T H => xCase x (fun x => false) (noDs T (k (Res.val (AV.tup [TT.slot T 1, TT.slot T 2])) H)) fun v => noDs T (k (Res.pan v) H)) = kx
    generalize (fun T H => noDs T (k (Res.val (AV.tup [TT.slot T 1, TT.slot T 2])) H)) = kn
    intro hret T t0 t8 t9 tds
    rw [c8x1_eq]
    refine chk8 h14 h9 h15 h19 h17 h44 h43 (by omega) hE hf hlen rfl (by omega) ?_ ?_ ms 0 n T H rfl rfl t0 t8 t9 tds (Nat.zero_le _) (Ex.refl _ _) (by omega)
    · intro hc T1 H1 u1 u0 e1
      have hH1 := e1.le
      have hH1n := e1.next
      have hb1 : H1.next < 32768 := by omega
      have hb2 : H1.next + 1 < 32768 := by omega
      have hor : orderM ms = placeLoop ms (ms.length + 1) [] [] := by unfold orderM; rw [if_pos hc]
      rw [c8x9_eq, newO_eq hb1, newO_eq (by simpa using hb2), bIf_true, getO_eq, Heap.get_add_new (by simpa using hb2), varObj_eq, oCells_cells, bIf_false, bIf_pos (rfl : Nat.ble 1 1 = true), bIf_pos (rfl : Nat.beq 1 1 = true), bIf_true, bIf_true, setRow_r0, putO_eq, c8x10_eq, c8x11_eq]
      have e2 : Ex H1 (H1.add (.map [] 0)) 1 := Ex.add _ hb1
      have g2 : (H1.add (.map [] 0)).get H1.next = .map [] 0 := Heap.get_add_new hb1
      have n2 : (H1.add (.map [] 0)).next = H1.next + 1 := rfl
      generalize H1.add (.map [] 0) = H2 at *
      have e3 : Ex H2 ((H2.add (.cells (.r0 [.nil .m]) 1 1 66 false false)).put H2.next (.cells (.r0 [.map H1.next]) 1 1 66 false false)) 1 := (Ex.add _ (by omega)).put (Nat.le_refl _) (by omega)
      have g3 : ((H2.add (.cells (.r0 [.nil .m]) 1 1 66 false false)).put H2.next (.cells (.r0 [.map H1.next]) 1 1 66 false false)).get H2.next = .cells (.r0 [.map H1.next]) 1 1 66 false false := Heap.get_put_same (by omega)
      have n3 : ((H2.add (.cells (.r0 [.nil .m]) 1 1 66 false false)).put H2.next (.cells (.r0 [.map H1.next]) 1 1 66 false false)).next = H2.next + 1 := rfl
      generalize (H2.add (.cells (.r0 [.nil .m]) 1 1 66 false false)).put H2.next (.cells (.r0 [.map H1.next]) 1 1 66 false false) = H3 at *
      have e13 := e2.trans e3
      refine plc8 h15 h16 h17 h18 h44 (by omega) (hE.ex e1) hf hlen rfl (H := H1) (by omega) (Nat.le_refl _) (b := H1.next) (pp := H2.next) (q := H1.next) (R := orderM ms) ?_ (ms.length + 1) [] [] n _ H3 (.nil .s) hor.symm (by simp) (Nat.zero_le _) (by omega) ?_ ?_ ?_ ?_ ?_ ?_
      · intro T' H' ov q1 q2 q3 q4 q5
        exact hret T' H' ov q1 q2 q3 q4 ((e1.trans q5).mono (by omega))
      · rw [slot_ne _ _ _ _ (by decide) (by decide) (by decide), slot_ne _ _ _ _ (by decide) (by decide) (by decide), u0]
      · rw [slot_ne _ _ _ _ (by decide) (by decide) (by decide), slot_same _ _ _ (by decide)]
      · rw [slot_same _ _ _ (by decide)]
      · rw [TT.ds_setSlot, TT.ds_setSlot, u1]
      · refine ⟨Nat.le_refl _, by omega, by omega, g3, ⟨[], 0, (e3.same _ (by omega)).trans g2, rfl⟩, fun x hx => by simp at hx, .inl ⟨rfl, rfl⟩⟩
      · rw [show ([] : List Nat).length * (3 * ms.length + 2) + 2 = 1 + 1 by simp]; exact e13
    · intro hc T1 H1 u1 u2 u3 e1
      have hor : orderM ms = ([], checkAll ms 0 ms) := by unfold orderM; rw [if_neg hc]
      rw [hor] at hret
      exact hret T1 H1 _ u1 u2 (.inl ⟨rfl, rfl⟩) u3 (e1.mono (by omega))
  rcases hE with ⟨rfl, h0⟩ | ⟨a, rs, rfl, _⟩
  · rw [slot_ne _ _ _ _ (by decide) (by decide) (by decide), slot_ne _ _ _ _ (by decide) (by decide) (by decide), slot_same _ _ _ (by decide), vSliceN_nil]
    refine hloop _ ?_ ?_ ?_ ?_
    · rw [slot_ne _ _ _ _ (by decide) (by decide) (by decide), slot_ne _ _ _ _ (by decide) (by decide) (by decide), slot_ne _ _ _ _ (by decide) (by decide) (by decide), slot_ne _ _ _ _ (by decide) (by decide) (by decide), slot_same _ _ _ (by decide)]
    · rw [slot_ne _ _ _ _ (by decide) (by decide) (by decide), slot_same _ _ _ (by decide), h0]; rfl
    · rw [slot_same _ _ _ (by decide)]
    · rw [TT.ds_setSlot, TT.ds_setSlot, TT.ds_setSlot, TT.ds_setSlot, TT.ds_setSlot]; rfl
  · rw [slot_ne _ _ _ _ (by decide) (by decide) (by decide), slot_ne _ _ _ _ (by decide) (by decide) (by decide), slot_same _ _ _ (by decide), vSliceN_slice]
    refine hloop _ ?_ ?_ ?_ ?_
    · rw [slot_ne _ _ _ _ (by decide) (by decide) (by decide), slot_ne _ _ _ _ (by decide) (by decide) (by decide), slot_ne _ _ _ _ (by decide) (by decide) (by decide), slot_ne _ _ _ _ (by decide) (by decide) (by decide), slot_same _ _ _ (by decide)]
    · rw [slot_ne _ _ _ _ (by decide) (by decide) (by decide), slot_same _ _ _ (by decide)]
    · rw [slot_same _ _ _ (by decide)]
    · rw [TT.ds_setSlot, TT.ds_setSlot, TT.ds_setSlot, TT.ds_setSlot, TT.ds_setSlot]; rfl
end Go.Sp

namespace Go.Sp
open Go Go.Ev Go.Proofs
set_option linter.unusedVariables false
theorem bt1 : Nat.beq (Nat.land (Nat.shiftRight 1 13) 1) 1 = false := by decide
theorem bt35 : Nat.beq (Nat.land (Nat.shiftRight 35 13) 1) 1 = false := by decide
theorem bt8 : Nat.beq (Nat.land (Nat.shiftRight 8 1) 1) 1 = false := by decide
theorem bt4095 : Nat.beq (Nat.land (Nat.shiftRight 4095 11) 1) 1 = true := by decide
theorem bt152 : Nat.beq (Nat.land (Nat.shiftRight 152 6) 1) 1 = false := by decide
def IsDice (V : Value) (N d : Nat) (H : Heap) : Prop := d < 32768 ∧ ∃ i, i ≤ N ∧ H.get d = diceO V 64 i
/-- what a throw leaves -/
structure Thrown (V : Value) (N d : Nat) (H H' : Heap) : Prop where
  dice : IsDice V N d H'
  next : H'.next = H.next
  same : ∀ a, a < 32768 → a ≠ d → H'.get a = H.get a
theorem next12 {X : Nat → Option XExt} {V : Value} {N d m n : Nat} (h12 : X 12 = some (nextX V N 64)) (hn : 1 ≤ n) {H : Heap} {k : Res → Heap → Bool} (hd : IsDice V N d H) (hm : 0 < m) (hm2 : m < 2147483648)
    (hk : ∀ r H', r < m → Thrown V N d H H' → k (.val (.int 3 r)) H' = true) : CS X n 12 [.ptr d 0 0 2, .int 3 m] H k = true := by
  obtain ⟨n, rfl⟩ : ∃ j, n = j + 1 := ⟨n - 1, by omega⟩
  obtain ⟨hd, i, hi, hg⟩ := hd
  unfold CS
  rw [callX_ext _ _ _ _ _ _ h12]
  show (nextX V N 64).f _ _ _ = true
  unfold nextX
  classical
  refine decide_eq_true ⟨d, m, i, rfl, hm, hm2, hd, hg, hi, fun r i' hr hi' => hk r _ hr ⟨⟨hd, i', hi', Heap.get_put_same hd⟩, rfl, fun a ha hne => Heap.get_put_ne hd ha hne⟩⟩
theorem rare13 {X : Nat → Option XExt} {V : Value} {N d m n : Nat} (h13 : X 13 = none) (h12 : X 12 = some (nextX V N 64)) (hn : 2 ≤ n) {H : Heap} {k : Res → Heap → Bool} (hd : IsDice V N d H) (hm : 0 < m) (hm2 : m < 2147483648)
    (hk : ∀ b H', Thrown V N d H H' → k (.val (.bool b)) H' = true) : CS X n 13 [.ptr d 0 0 2, .int 3 m] H k = true := by
  obtain ⟨n, rfl⟩ : ∃ j, n = j + 1 := ⟨n - 1, by omega⟩
  rw [CS_succ _ _ _ _ _ _ h13, e13_eq, lenC2, initT2, f13_eq, c13x0_eq, slot_ne _ _ _ _ (by decide) (by decide) (by decide), slot_ne _ _ _ _ (by decide) (by decide) (by decide), slot_same _ _ _ (by decide), slot_ne _ _ _ _ (by decide) (by decide) (by decide), slot_same _ _ _ (by decide)]
  refine next12 h12 (by omega) hd hm hm2 fun r H' hr ht => ?_
  rw [resCase_val, vInt_int, bIf_pos (rfl : Nat.beq 3 3 = true), bIf_true, forceNat_eq, vInt_int, bIf_pos (rfl : Nat.beq 3 3 = true), bIf_true, forceB_eq, xCase_r, noDs_set, noDs_set, noDs_set, noDs_set, noDs0, slot_same _ _ _ (by decide)]
  exact hk _ H' ht
/-- the five names -/
noncomputable def nmRows : Ev.Rows := (Rows.r1 e1).setRows [[AV.str 1 97], [AV.str 1 98], [AV.str 1 99], [AV.str 1 100], [AV.str 1 101]] 0
noncomputable def nmObj : AObj := .cells nmRows 5 1 9 false false
theorem nmRow {r : Nat} (h : r < 5) : nmRows.row (Nat.add 0 r) = [AV.str 1 (97 + r)] := by
  match r, h with
  | 0, _ => rfl
  | 1, _ => rfl
  | 2, _ => rfl
  | 3, _ => rfl
  | 4, _ => rfl
/-- imports that are being made: their memory is newer than B -/
def ImpN (B : Nat) (H : Heap) (v : AV) (l : List (Nat × Nat)) : Prop :=
  (v = .nil .s ∧ l = []) ∨ ∃ a rs, v = .slice a 0 l.length 0 true 2 ∧ B ≤ a ∧ a < H.next ∧ H.get a = .cells rs l.length 2 41 true false ∧ l.length ≤ rs.cap ∧ ∀ j x, l[j]? = some x → rs.row j = impRow x
theorem ImpN.imp {B : Nat} {H : Heap} {v : AV} {l : List (Nat × Nat)} (h : ImpN B H v l) : ImpV H v l := by
  rcases h with h | ⟨a, rs, h1, h2, h3, h4, h5, h6⟩
  · exact .inl h
  · exact .inr ⟨a, rs, l.length, h1, h3, h4, Nat.le_refl _, h5, h6⟩
theorem loaded_imp {B : Nat} {H : Heap} {v : AV} {l : List (Nat × Nat)} (h : ImpN B H v l) : loadedEq v v = true := by
  rcases h with ⟨rfl, _⟩ | ⟨a, rs, rfl, _⟩
  · rfl
  · show (Nat.beq a a && Nat.beq 0 0 && Nat.beq l.length l.length && Nat.beq 0 0 && true == true && Nat.beq 2 2) = true
    rw [beq_yes (rfl : a = a), beq_yes (rfl : l.length = l.length)]; rfl
theorem loaded_str (l n : Nat) : loadedEq (.str l n) (.str l n) = true := by
  show (Nat.beq l l && Nat.beq n n) = true
  rw [beq_yes rfl, beq_yes rfl]; rfl
theorem add_eq (H : Heap) (o : AObj) (k : Heap → Bool) : putO { next := Nat.succ H.next, t := H.t } H.next o k = k (H.add o) := by
  rw [putO_eq]; rfl
theorem ImpN.thrown {V : Value} {N d B : Nat} {H H' : Heap} {v : AV} {l : List (Nat × Nat)} (h : ImpN B H v l) (t : Thrown V N d H H') (hd : d < B) (hb : H.next ≤ 32768) : ImpN B H' v l := by
  rcases h with h | ⟨a, rs, h1, h2, h3, h4, h5⟩
  · exact .inl h
  · exact .inr ⟨a, rs, h1, h2, by rw [t.next]; exact h3, (t.same a (by omega) (by omega)).trans h4, h5⟩
/-- one more import -/
theorem imp_append {B : Nat} {H : Heap} {v : AV} {l : List (Nat × Nat)} {x : Nat × Nat} {K : AV → Heap → Bool} (h : ImpN B H v l) (hl : l.length ≤ 2) (hB : B ≤ H.next) (hb : H.next < 32768)
    (hk : ∀ v' H', ImpN B H' v' (l ++ [x]) → H'.next = H.next + 1 → (∀ a, a < B → H'.get a = H.get a) → K v' H' = true) : appendTo 41 2 24 v 1 [impRow x] H K = true := by
  rcases h with ⟨rfl, rfl⟩ | ⟨a, rs, rfl, h2, h3, h4, h5, h6⟩
  · rw [append_new (by omega) hb]
    refine hk _ _ (.inr ⟨H.next, .r0 (impRow x), rfl, hB, by show H.next < H.next + 1; omega, Heap.get_add_new hb, Nat.le_refl _, ?_⟩) rfl fun a ha => Heap.get_add_old hb (by omega)
    intro j y hy
    cases j with
    | zero => simp at hy; subst hy; rfl
    | succ j => simp at hy
  · obtain ⟨rs', r1, r2, r3, r4⟩ := append_one (r := impRow x) (b := 24) (H := H) h4 h5 (by omega) (by omega) hb h3
    rw [r1]
    refine hk _ _ (.inr ⟨H.next, rs', by rw [List.length_append]; rfl, hB, by show H.next < H.next + 1; omega, ?_, by rw [List.length_append]; exact r2, ?_⟩) rfl fun b hbB => ?_
    · rw [List.length_append]
      exact Heap.get_add_new (by simpa using hb)
    · intro j y hy
      rw [List.getElem?_append] at hy
      split at hy
      · rename_i hj
        rw [r3 j hj]; exact h6 j y hy
      · rename_i hj
        have hj2 : j - l.length < 1 := by
          have := (List.getElem?_eq_some_iff.1 hy).1; simpa using this
        have hj3 : j = l.length := by omega
        subst hj3
        simp at hy; subst hy
        exact r4
    · rw [Heap.get_add_old (by simpa using hb) (by simp; omega), Heap.get_put_ne (by omega) (by omega) (by omega)]
/-- what may turn while imports are made: the dice, the module, and what is new -/
structure Fr (B d nx : Nat) (H H' : Heap) (c : Nat) : Prop where
  next : H.next ≤ H'.next
  le : H'.next ≤ H.next + c
  same : ∀ a, a < B → a ≠ d → a ≠ nx → H'.get a = H.get a
theorem Fr.trans {B d nx : Nat} {H H1 H2 : Heap} {c c' : Nat} (h : Fr B d nx H H1 c) (h' : Fr B d nx H1 H2 c') : Fr B d nx H H2 (c + c') :=
  ⟨Nat.le_trans h.next h'.next, by have := h.le; have := h'.le; omega, fun a ha h1 h2 => (h'.same a ha h1 h2).trans (h.same a ha h1 h2)⟩
def p6 (i : Nat) : Bool := Nat.blt i 9 && !Nat.beq i 6
theorem inn6 {X : Nat → Option XExt} {V : Value} {N d nm nx B n : Nat} (h12 : X 12 = some (nextX V N 64)) (hn : 10 ≤ n) {kn : TT → Heap → Bool} {kx : Ev.X → TT → Heap → Bool}
    (hdB : d < B) (hmB : nm < B) (hxB : nx < B) (hdm : nm ≠ d) (hdx : nx ≠ d) (hmx : nm ≠ nx) :
    ∀ (j fuel : Nat) (T : TT) (H : Heap) (m : Mod) (iv : AV), j < fuel → T.slot 0 = .ptr d 0 0 2 → T.slot 3 = .slice nm 0 5 5 false 1 → T.slot 5 = .ptr nx 0 0 9 → T.slot 6 = .int 3 j → T.ds = [] → IsDice V N d H → H.get nm = nmObj →
      H.get nx = .cells (.r0 (modRow m iv)) 1 9 39 false false → ImpN B H iv m.imps → m.fine → m.imps.length + j ≤ 2 → B ≤ H.next → H.next + 2 * j < 32768 →
      (∀ T' H' m' iv', Keep p6 T T' → IsDice V N d H' → H'.get nx = .cells (.r0 (modRow m' iv')) 1 9 39 false false → ImpN B H' iv' m'.imps → m'.fine → Fr B d nx H H' (2 * j) → kn T' H' = true) →
      loopN (fun again T H => CC.f (K6 c6x11) n (CS X n) T H again fun x T H => xCase x (fun i => bIf (Nat.beq i 2) (kn T H) (kx (Ev.X.exit i) T H)) (kx Ev.X.ret T H) fun v => kx (Ev.X.panic v) T H) fuel T H = true := by
  intro j
  induction j with
  | zero =>
    intro fuel T H m iv hfu t0 t3 t5 t6 tds hd hnm hgx hiv hm hlen hB hb hkn
    obtain ⟨fuel, rfl⟩ : ∃ q, fuel = q + 1 := ⟨fuel - 1, by omega⟩
    rw [loopN_succ, c6x11_eq, t6, vInt_int, bIf_pos (rfl : Nat.beq 3 3 = true), bIf_true, forceB_eq, lss_no (Nat.le_refl _) (by omega), c6x12_eq, slot_same _ _ _ (by decide), vBool_bool, bIf_false, xCase_e, bIf_pos (rfl : Nat.beq 2 2 = true)]
    exact hkn _ H m iv ((Keep.refl p6 T).set _ (by decide) rfl) hd hgx hiv hm ⟨Nat.le_refl _, by omega, fun _ _ _ _ => rfl⟩
  | succ j ih =>
    intro fuel T H m iv hfu t0 t3 t5 t6 tds hd hnm hgx hiv hm hlen hB hb hkn
    obtain ⟨fuel, rfl⟩ : ∃ q, fuel = q + 1 := ⟨fuel - 1, by omega⟩
    rw [loopN_succ, c6x11_eq, t6, vInt_int, bIf_pos (rfl : Nat.beq 3 3 = true), bIf_true, forceB_eq, lss_yes (by omega) (by omega), c6x12_eq, slot_same _ _ _ (by decide), vBool_bool, bIf_true]
    have k1 := (Keep.refl p6 T).set (.bool true) (show 9 < 64 by decide) rfl
    have u6 : (T.setSlot 9 (.bool true)).slot 6 = .int 3 (j + 1) := by rw [slot_ne _ _ _ _ (by decide) (by decide) (by decide), t6]
    generalize T.setSlot 9 (.bool true) = T1 at *
    have u0 : T1.slot 0 = .ptr d 0 0 2 := by rw [k1.2 0 (by decide) rfl, t0]
    have u3 : T1.slot 3 = .slice nm 0 5 5 false 1 := by rw [k1.2 3 (by decide) rfl, t3]
    have u5 : T1.slot 5 = .ptr nx 0 0 9 := by rw [k1.2 5 (by decide) rfl, t5]
    rw [c6x13_eq]
    simp only [bt8, bt4095, bt152, bIf_true, bIf_false]
    rw [u5, vPtr_ptr, forceNat_eq, getO_eq, hgx, oCells_cells, bIf_pos (rfl : Nat.ble 1 1 = true), bIf_pos (rfl : Nat.beq 9 9 = true), rowAt_r0, nthC_eq (a := iv) rfl, u0]
    refine next12 h12 (by omega) hd (by omega) (by omega) fun r H1 hr ht => ?_
    have hnx1 : H1.get nx = .cells (.r0 (modRow m iv)) 1 9 39 false false := (ht.same nx (by omega) hdx).trans hgx
    have hnm1 : H1.get nm = nmObj := (ht.same nm (by omega) hdm).trans hnm
    rw [resCase_val, getO_eq, hnx1, oCells_cells, bIf_pos (rfl : Nat.ble 1 1 = true), bIf_pos (rfl : Nat.beq 9 9 = true), rowAt_r0, nthC_eq (a := iv) rfl, loaded_imp hiv, bIf_true, bIf_true, u3, vSlice_slice, asIdx_int, bIf_pos (blt_yes hr), bIf_pos (rfl : Nat.beq 1 1 = true), forceNat_eq, getO_eq]
    unfold nmObj at hnm1 hnm
    rw [hnm1, oCells_cells, bIf_pos (ble_yes (show Nat.succ (Nat.add 0 r) ≤ 5 by show 0 + r + 1 ≤ 5; omega)), bIf_pos (rfl : Nat.beq 1 1 = true), rowAt_eq (show Nat.add 0 r < nmRows.cap by show 0 + r < 8; omega), nmRow hr, nthC_eq (a := .str 1 (97 + r)) rfl]
    refine next12 h12 (by omega) ht.dice (by omega) (by omega) fun b H2 hbb ht2 => ?_
    have hnx2 : H2.get nx = .cells (.r0 (modRow m iv)) 1 9 39 false false := (ht2.same nx (by have := ht.dice.1; omega) hdx).trans hnx1
    have hnm2 : H2.get nm = .cells nmRows 5 1 9 false false := (ht2.same nm (by have := ht.dice.1; omega) hdm).trans hnm1
    have hn1 := ht.next
    have hn2 := ht2.next
    have hiv1 := hiv.thrown ht hdB (by omega)
    have hiv2 := hiv1.thrown ht2 hdB (by omega)
    have hrd : (rdsOk 152 H2 [{ i := 1, p := AV.ptr nx 0 (Nat.add 0 3) 9, ld := { f := fun p H k => rowOf p H fun s z row => nthC row s k }, v := iv }]) = true := by
      show bIf (tbit 152 1) true (rowOf (.ptr nx 0 (Nat.add 0 3) 9) H2 fun s z row => nthC row s fun v => bIf (loadedEq v iv) true false) = true
      rw [show tbit 152 1 = false by decide, bIf_false, rowOf_eq hnx2 (by omega) Nat.one_pos, nthC_eq (a := iv) rfl, loaded_imp hiv, bIf_true]
    rw [resCase_val, getO_eq, hnm2, oCells_cells, bIf_pos (ble_yes (show Nat.succ (Nat.add 0 r) ≤ 5 by show 0 + r + 1 ≤ 5; omega)), bIf_pos (rfl : Nat.beq 1 1 = true), rowAt_eq (show Nat.add 0 r < nmRows.cap by show 0 + r < 8; omega), nmRow hr, nthC_eq (a := .str 1 (97 + r)) rfl, loaded_str, bIf_true, hrd, bIf_true]
    have e4 : addN 18446744073709551616 1 b = 1 + b := Nat.mod_eq_of_lt (show 1 + b < 18446744073709551616 by omega)
    have hb2 : H2.next < 32768 := by omega
    rw [vInt_int, bIf_pos (rfl : Nat.beq 3 3 = true), forceNat_eq, e4, cellsN_str, appC_eq, appC_eq, putRows_one, show (Rows.r0 []).setR 0 ([AV.str 1 (97 + r)] ++ ([AV.int 3 (1 + b)] ++ [])) = .r0 (impRow (97 + r, 1 + b)) from rfl, hCase_eq, bIf_pos (ble_yes (show Nat.succ H2.next ≤ 32768 by omega)), add_eq]
    have e23 : Ex H2 (H2.add (.cells (.r0 (impRow (97 + r, 1 + b))) 1 2 41 false false)) 1 := Ex.add _ hb2
    have g3 : (H2.add (.cells (.r0 (impRow (97 + r, 1 + b))) 1 2 41 false false)).get H2.next = .cells (.r0 (impRow (97 + r, 1 + b))) 1 2 41 false false := Heap.get_add_new hb2
    have n3 : (H2.add (.cells (.r0 (impRow (97 + r, 1 + b))) 1 2 41 false false)).next = H2.next + 1 := rfl
    generalize H2.add (.cells (.r0 (impRow (97 + r, 1 + b))) 1 2 41 false false) = H3 at *
    rw [src_one g3 (by omega) (Nat.le_refl _), show (Rows.r0 (impRow (97 + r, 1 + b))).row 0 = impRow (97 + r, 1 + b) from rfl]
    have hiv3 : ImpN B H3 iv m.imps := by
      rcases hiv2 with h | ⟨a, rs, h1, h2, h3, h4, h5⟩
      · exact .inl h
      · exact .inr ⟨a, rs, h1, h2, by omega, (e23.same a h3).trans h4, h5⟩
    refine imp_append hiv3 (by omega) (by omega) (by omega) fun iv' H4 hiv4 hn4 hs4 => ?_
    have hrd4 : ∀ (p1 p2 : AV) (f1 f2 : Cld) (w1 w2 : AV), rdsOk 4095 H4 [{ i := 6, p := p1, ld := f1, v := w1 }, { i := 1, p := p2, ld := f2, v := w2 }] = true := by
      intro p1 p2 f1 f2 w1 w2
      show bIf (tbit 4095 6) (bIf (tbit 4095 1) true _) _ = true
      rw [show tbit 4095 6 = true by decide, bIf_true, show tbit 4095 1 = true by decide, bIf_true]
    rw [hrd4, bIf_true]
    have hnx4 : H4.get nx = .cells (.r0 (modRow m iv)) 1 9 39 false false := (hs4 nx hxB).trans ((e23.same nx (by omega)).trans hnx2)
    have hc4 : ∀ k : List AV → Bool, cellsN iv' 1 k = k [iv'] := by
      intro k
      rcases hiv4 with ⟨rfl, _⟩ | ⟨a, rs, rfl, _⟩
      · rfl
      · rfl
    have hx32 : nx < 32768 := by omega
    rw [vPtr_ptr, forceNat_eq, hc4, getO_eq, hnx4, oCells_cells, bIf_false, bIf_pos (rfl : Nat.ble 1 1 = true), bIf_pos (rfl : Nat.beq 9 9 = true), bIf_neg (rfl : Nat.beq 1 9 = false), rowAt_r0, takeC_eq (show Nat.add 0 3 ≤ (modRow m iv).length by show 3 ≤ 9; omega), dropC_eq (show (Nat.add 0 3).add 1 ≤ (modRow m iv).length by show 4 ≤ 9; omega), appC_eq, appC_eq, setRow_r0, putO_eq]
    have g5 : (H4.put nx (.cells (.r0 (List.take (Nat.add 0 3) (modRow m iv) ++ ([iv'] ++ List.drop ((Nat.add 0 3).add 1) (modRow m iv)))) 1 9 39 false false)).get nx = .cells (.r0 (modRow { m with imps := m.imps ++ [(97 + r, 1 + b)] } iv')) 1 9 39 false false := Heap.get_put_same hx32
    have n5 : (H4.put nx (.cells (.r0 (List.take (Nat.add 0 3) (modRow m iv) ++ ([iv'] ++ List.drop ((Nat.add 0 3).add 1) (modRow m iv)))) 1 9 39 false false)).next = H4.next := rfl
    have s5 : ∀ a, a < 32768 → a ≠ nx → (H4.put nx (.cells (.r0 (List.take (Nat.add 0 3) (modRow m iv) ++ ([iv'] ++ List.drop ((Nat.add 0 3).add 1) (modRow m iv)))) 1 9 39 false false)).get a = H4.get a := fun a ha hne => Heap.get_put_ne hx32 ha hne
    generalize H4.put nx (.cells (.r0 (List.take (Nat.add 0 3) (modRow m iv) ++ ([iv'] ++ List.drop ((Nat.add 0 3).add 1) (modRow m iv)))) 1 9 39 false false) = H5 at *
    have sm : ∀ a, a < B → a ≠ d → a ≠ nx → H5.get a = H.get a := fun a ha h1 h2 => by
      rw [s5 a (by omega) h2, hs4 a ha, e23.same a (by omega), ht2.same a (by omega) h1, ht.same a (by omega) h1]
    have hd5 : IsDice V N d H5 := by
      obtain ⟨hd1, i, hi, hg⟩ := ht2.dice
      refine ⟨hd1, i, hi, ?_⟩
      rw [s5 d hd1 (fun e => hdx e.symm), hs4 d hdB, e23.same d (by omega), hg]
    have hfr : Fr B d nx H H5 2 := ⟨by omega, by omega, sm⟩
    obtain ⟨f1, f2, f3, f4, f5⟩ := hm
    rw [c6x14_eq, u6, vInt_int, bIf_pos (rfl : Nat.beq 3 3 = true), bIf_true, forceNat_eq, dec_eq (by omega) (by omega), Nat.add_sub_cancel]
    refine ih fuel _ H5 { m with imps := m.imps ++ [(97 + r, 1 + b)] } iv' (by omega) ?_ ?_ ?_ (slot_same _ _ _ (by decide)) ?_ hd5 ?_ g5 ?_ ⟨f1, f2, f3, ?_, ?_⟩ ?_ (by omega) (by omega) ?_
    · rw [slot_ne _ _ _ _ (by decide) (by decide) (by decide), u0]
    · rw [slot_ne _ _ _ _ (by decide) (by decide) (by decide), u3]
    · rw [slot_ne _ _ _ _ (by decide) (by decide) (by decide), u5]
    · rw [TT.ds_setSlot, k1.1, tds]
    · rw [sm nm hmB hdm hmx, hnm]; rfl
    · rcases hiv4 with ⟨_, h⟩ | ⟨a, rs, h1, h2, h3, h4, h5⟩
      · simp at h
      · exact .inr ⟨a, rs, h1, h2, by omega, (s5 a (by omega) (by omega)).trans h4, h5⟩
    · show (m.imps ++ [(97 + r, 1 + b)]).length ≤ 2
      rw [List.length_append]; simp; omega
    · intro x hx
      rcases List.mem_append.1 hx with hx | hx
      · exact f5 x hx
      · simp at hx; subst hx; exact ⟨show 97 + r < 256 by omega, show 1 + b < 10 by omega⟩
    · show (m.imps ++ [(97 + r, 1 + b)]).length + j ≤ 2
      rw [List.length_append]; simp; omega
    · intro T' H' m' iv'' q1 q2 q3 q4 q5 q6
      refine hkn T' H' m' iv'' ⟨by rw [q1.1, TT.ds_setSlot, k1.1], fun i hi hp => ?_⟩ q2 q3 q4 q5 ?_
      · rw [q1.2 i hi hp, slot_ne _ _ _ _ (by decide) hi (fun e => by rw [e] at hp; exact absurd hp (by decide)), k1.2 i hi hp]
      · have := hfr.trans q6
        rw [show 2 * (j + 1) = 2 + 2 * j by omega]
        exact this
end Go.Sp

namespace Go.Sp
open Go Go.Ev Go.Proofs
set_option linter.unusedVariables false
def q6 (i : Nat) : Bool := Nat.blt i 5
theorem mk6 {X : Nat → Option XExt} {V : Value} {N d nm n : Nat} (h12 : X 12 = some (nextX V N 64)) (h13 : X 13 = none) (hn : 10 ≤ n) {kn : TT → Heap → Bool} {kx : Ev.X → TT → Heap → Bool} {T : TT} {H : Heap}
    (t0 : T.slot 0 = .ptr d 0 0 2) (t3 : T.slot 3 = .slice nm 0 5 5 false 1) (hd : IsDice V N d H) (hnm : H.get nm = nmObj) (hdm : nm ≠ d) (hdH : d < H.next) (hmH : nm < H.next) (hb : H.next < 32768)
    (hk : ∀ T' H' m, Keep q6 T T' → T'.slot 5 = .ptr H.next 0 0 9 → IsDice V N d H' → H'.get H.next = .cells (.r0 (modRow m (.nil .s))) 1 9 39 false false → m.fine → m.imps = [] → H'.next = H.next + 1 → (∀ a, a < H.next → a ≠ d → H'.get a = H.get a) →
      CC.f (K6 c6x9) n (CS X n) T' H' (fun T H => CC.f (K6 c6x16) n (CS X n) T H kn kx)
        (fun x T H => xCase x (fun i => bIf (Nat.beq i 1) (CC.f (K6 c6x16) n (CS X n) T H kn kx) (kx (Ev.X.exit i) T H)) (kx Ev.X.ret T H) fun v => kx (Ev.X.panic v) T H) = true) :
    CC.f (K6 c6x6) n (CS X n) T H kn kx = true := by
  rw [c6x6_eq]
  simp only [bt1, bt35, bIf_true, bIf_false]
  rw [hCase_eq, bIf_pos (ble_yes (show Nat.succ H.next ≤ 32768 by omega)), t0]
  have hpn : ({ next := Nat.succ H.next, t := H.t } : Heap).next = H.next + 1 := rfl
  have hpg : ∀ a, ({ next := Nat.succ H.next, t := H.t } : Heap).get a = H.get a := fun _ => rfl
  have hd0 : IsDice V N d { next := Nat.succ H.next, t := H.t } := hd
  generalize ({ next := Nat.succ H.next, t := H.t } : Heap) = Hp at *
  refine next12 h12 (by omega) hd0 (by omega) (by omega) fun kb H1 hkb ht1 => ?_
  have e1 : addN 18446744073709551616 1 (mulN 18446744073709551616 2 kb) = 1 + 2 * kb := by
    have : mulN 18446744073709551616 2 kb = 2 * kb := Nat.mod_eq_of_lt (show 2 * kb < 18446744073709551616 by omega)
    rw [this]
    exact Nat.mod_eq_of_lt (show 1 + 2 * kb < 18446744073709551616 by omega)
  rw [resCase_val, vInt_int, bIf_pos (rfl : Nat.beq 3 3 = true), forceNat_eq, forceNat_eq, e1]
  refine next12 h12 (by omega) ht1.dice (by omega) (by omega) fun r H2 hr ht2 => ?_
  have hnm2 : H2.get nm = .cells nmRows 5 1 9 false false := by
    rw [ht2.same nm (by omega) hdm, ht1.same nm (by omega) hdm, hpg, hnm]; rfl
  rw [resCase_val, t3, vSlice_slice, asIdx_int, bIf_pos (blt_yes hr), bIf_pos (rfl : Nat.beq 1 1 = true), forceNat_eq, getO_eq, hnm2, oCells_cells, bIf_pos (ble_yes (show Nat.succ (Nat.add 0 r) ≤ 5 by show 0 + r + 1 ≤ 5; omega)), bIf_pos (rfl : Nat.beq 1 1 = true),
    rowAt_eq (show Nat.add 0 r < nmRows.cap by show 0 + r < 8; omega), nmRow hr, nthC_eq (a := .str 1 (97 + r)) rfl]
  refine next12 h12 (by omega) ht2.dice (by omega) (by omega) fun b H3 hbb ht3 => ?_
  have hnm3 : H3.get nm = .cells nmRows 5 1 9 false false := (ht3.same nm (by omega) hdm).trans hnm2
  have e4 : addN 18446744073709551616 1 b = 1 + b := Nat.mod_eq_of_lt (show 1 + b < 18446744073709551616 by omega)
  have hn1 := ht1.next
  have hn2 := ht2.next
  have hn3 := ht3.next
  have hnx : H.next < 32768 := hb
  rw [resCase_val, getO_eq, hnm3, oCells_cells, bIf_pos (ble_yes (show Nat.succ (Nat.add 0 r) ≤ 5 by show 0 + r + 1 ≤ 5; omega)), bIf_pos (rfl : Nat.beq 1 1 = true),
    rowAt_eq (show Nat.add 0 r < nmRows.cap by show 0 + r < 8; omega), nmRow hr, nthC_eq (a := .str 1 (97 + r)) rfl, loaded_str, bIf_true, bIf_true, vInt_int, bIf_pos (rfl : Nat.beq 3 3 = true), forceNat_eq, e4, cellsN_str, appC_eq, appC_eq, putO_eq, getO_eq, Heap.get_put_same hnx, varObj_eq, oCells_cells, bIf_false,
    bIf_pos (rfl : Nat.ble 1 1 = true), bIf_pos (rfl : Nat.beq 9 9 = true), setRow_r0, putO_eq]
  have g5 : ∀ (o : AObj), ((H3.put H.next o).put H.next (.cells (.r0 (AV.int 3 (1 + 2 * kb) :: ([AV.str 1 (97 + r)] ++ ([AV.int 3 (1 + b)] ++ [AV.nil NK.s, AV.nil NK.s, AV.nil NK.s, AV.nil NK.s, AV.nil NK.s, AV.nil NK.s])))) 1 9 39 false false)).get H.next = .cells (.r0 (modRow ⟨1 + 2 * kb, 97 + r, 1 + b, []⟩ (.nil .s))) 1 9 39 false false := fun o => Heap.get_put_same hnx
  have n5 : ∀ o o' : AObj, ((H3.put H.next o).put H.next o').next = H.next + 1 := fun o o' => by
    show H3.next = H.next + 1
    omega
  have s5 : ∀ (o o' : AObj) a, a < H.next → a ≠ d → ((H3.put H.next o).put H.next o').get a = H.get a := fun o o' a ha hne => by
    rw [Heap.get_put_ne hnx (by omega) (by omega), Heap.get_put_ne hnx (by omega) (by omega), ht3.same a (by omega) hne, ht2.same a (by omega) hne, ht1.same a (by omega) hne, hpg]
  have d5 : ∀ o o' : AObj, IsDice V N d ((H3.put H.next o).put H.next o') := fun o o' => by
    obtain ⟨hd1, i, hi, hg⟩ := ht3.dice
    refine ⟨hd1, i, hi, ?_⟩
    rw [Heap.get_put_ne hnx (by omega) (by omega), Heap.get_put_ne hnx (by omega) (by omega), hg]
  generalize hH5 : (H3.put H.next _).put H.next _ = H5
  have g5 := g5 (.cells (.r0 [AV.int 3 0, AV.str 0 0, AV.int 3 0, AV.nil NK.s, AV.nil NK.s, AV.nil NK.s, AV.nil NK.s, AV.nil NK.s, AV.nil NK.s]) 1 9 39 false false)
  rw [hH5] at g5
  have n5 : H5.next = H.next + 1 := by rw [← hH5]; exact n5 _ _
  have s5 : ∀ a, a < H.next → a ≠ d → H5.get a = H.get a := by rw [← hH5]; exact s5 _ _
  have d5 : IsDice V N d H5 := by rw [← hH5]; exact d5 _ _
  clear hH5
  have k1 := (Keep.refl q6 T).set (.ptr H.next 0 0 9) (show 5 < 64 by decide) rfl
  have w5 : (T.setSlot 5 (.ptr H.next 0 0 9)).slot 5 = .ptr H.next 0 0 9 := slot_same _ _ _ (by decide)
  generalize T.setSlot 5 (.ptr H.next 0 0 9) = T1 at *
  have w0 : T1.slot 0 = .ptr d 0 0 2 := by rw [k1.2 0 (by decide) rfl, t0]
  rw [c6x7_eq, w0]
  refine rare13 h13 h12 (by omega) d5 (by omega) (by omega) fun c H6 ht6 => ?_
  have hn6 := ht6.next
  have g6 : H6.get H.next = .cells (.r0 (modRow ⟨1 + 2 * kb, 97 + r, 1 + b, []⟩ (.nil .s))) 1 9 39 false false := (ht6.same _ hnx (by omega)).trans g5
  have s6 : ∀ a, a < H.next → a ≠ d → H6.get a = H.get a := fun a ha hne => (ht6.same a (by omega) hne).trans (s5 a ha hne)
  rw [resCase_val, c6x8_eq, slot_same _ _ _ (by decide), vBool_bool]
  have k2 := k1.set (.bool c) (show 8 < 64 by decide) rfl
  have v5 : (T1.setSlot 8 (.bool c)).slot 5 = .ptr H.next 0 0 9 := by rw [slot_ne _ _ _ _ (by decide) (by decide) (by decide), w5]
  generalize T1.setSlot 8 (.bool c) = T2 at *
  cases c with
  | false =>
    rw [bIf_false]
    exact hk T2 H6 ⟨1 + 2 * kb, 97 + r, 1 + b, []⟩ k2 v5 ht6.dice g6 ⟨show 1 + 2 * kb < 4 by omega, show 97 + r < 256 by omega, show 1 + b < 10 by omega, Nat.zero_le _, fun x hx => by cases hx⟩ rfl (by omega) s6
  | true =>
    rw [bIf_true, v5, vPtr_ptr, forceNat_eq, bIf_true, getO_eq, g6, oCells_cells, bIf_false, bIf_pos (rfl : Nat.ble 1 1 = true), bIf_pos (rfl : Nat.beq 9 9 = true), bIf_neg (rfl : Nat.beq 1 9 = false), rowAt_r0, takeC_eq (show Nat.add 0 0 ≤ (modRow ⟨1 + 2 * kb, 97 + r, 1 + b, []⟩ (.nil .s)).length by show 0 ≤ 9; omega), dropC_eq (show Nat.add (Nat.add 0 0) 1 ≤ (modRow ⟨1 + 2 * kb, 97 + r, 1 + b, []⟩ (.nil .s)).length by show 1 ≤ 9; omega), appC_eq, appC_eq, setRow_r0, putO_eq]
    refine hk T2 _ ⟨2, 97 + r, 1 + b, []⟩ k2 v5 ?_ (Heap.get_put_same hnx) ⟨show 2 < 4 by omega, show 97 + r < 256 by omega, show 1 + b < 10 by omega, Nat.zero_le _, fun x hx => by cases hx⟩ rfl ?_ fun a ha hne => ?_
    · obtain ⟨hd1, i, hi, hg⟩ := ht6.dice
      exact ⟨hd1, i, hi, by rw [Heap.get_put_ne hnx (by omega) (by omega), hg]⟩
    · show H6.next = H.next + 1
      omega
    · rw [Heap.get_put_ne hnx (by omega) (by omega), s6 a ha hne]
/-- the modules made so far: their memory is newer than B -/
def OutN (B : Nat) (H : Heap) (v : AV) (ms : List Mod) : Prop :=
  (v = .nil .s ∧ ms = []) ∨ ∃ a rs, v = .slice a 0 ms.length 0 true 9 ∧ B ≤ a ∧ a < H.next ∧ H.get a = .cells rs ms.length 9 39 true false ∧ ms.length ≤ rs.cap ∧ ∀ j m, ms[j]? = some m → ∃ iv, rs.row j = modRow m iv ∧ ImpV H iv m.imps
theorem OutN.env {B : Nat} {H : Heap} {v : AV} {ms : List Mod} (h : OutN B H v ms) : EnvV H v ms := by
  rcases h with h | ⟨a, rs, h1, h2, h3, h4, h5, h6⟩
  · exact .inl h
  · exact .inr ⟨a, rs, h1, h3, h4, h5, h6⟩
theorem ImpV.fr {H H' : Heap} {v : AV} {l : List (Nat × Nat)} (h : ImpV H v l) (hn : H.next ≤ H'.next) (hs : ∀ a rs n, a < H.next → H.get a = .cells rs n 2 41 true false → H'.get a = H.get a) : ImpV H' v l := by
  rcases h with h | ⟨a, rs, n, h1, h2, h3, h4⟩
  · exact .inl h
  · exact .inr ⟨a, rs, n, h1, by omega, (hs a rs n h2 h3).trans h3, h4⟩
theorem OutN.fr {B : Nat} {H H' : Heap} {v : AV} {ms : List Mod} (h : OutN B H v ms) (hn : H.next ≤ H'.next) (hs : ∀ a rs n z el, a < H.next → H.get a = .cells rs n z el true false → H'.get a = H.get a) : OutN B H' v ms := by
  rcases h with h | ⟨a, rs, h1, h2, h3, h4, h5, h6⟩
  · exact .inl h
  · refine .inr ⟨a, rs, h1, h2, by omega, (hs a rs _ _ _ h3 h4).trans h4, h5, fun j m hm => ?_⟩
    obtain ⟨iv, q1, q2⟩ := h6 j m hm
    exact ⟨iv, q1, q2.fr hn fun a rs n ha hg => hs a rs n _ _ ha hg⟩
theorem out_append {B : Nat} {H : Heap} {v iv : AV} {ms : List Mod} {m : Mod} {K : AV → Heap → Bool} (h : OutN B H v ms) (hiv : ImpV H iv m.imps) (hl : ms.length ≤ 5) (hB : B ≤ H.next) (hb : H.next < 32768)
    (hk : ∀ v' H', OutN B H' v' (ms ++ [m]) → H'.next = H.next + 1 → (∀ x, x < H.next → (x < B ∨ ∀ rs n, H.get x ≠ .cells rs n 9 39 true false) → H'.get x = H.get x) → K v' H' = true) : appendTo 39 9 176 v 1 [modRow m iv] H K = true := by
  rcases h with ⟨rfl, rfl⟩ | ⟨a, rs, rfl, h2, h3, h4, h5, h6⟩
  · rw [append_new (by omega) hb]
    refine hk _ _ (.inr ⟨H.next, .r0 (modRow m iv), rfl, hB, by show H.next < H.next + 1; omega, Heap.get_add_new hb, Nat.le_refl _, ?_⟩) rfl fun x hx _ => Heap.get_add_old hb hx
    intro j y hy
    cases j with
    | zero =>
      simp at hy; subst hy
      exact ⟨iv, rfl, hiv.fr (by show H.next ≤ H.next + 1; omega) fun a rs n ha _ => Heap.get_add_old hb ha⟩
    | succ j => simp at hy
  · obtain ⟨rs', r1, r2, r3, r4⟩ := append_one (r := modRow m iv) (b := 176) (H := H) h4 h5 (by omega) (by omega) hb h3
    rw [r1]
    have hold : ∀ (o : AObj) x, x < H.next → x ≠ a → ((H.put a .dead).add o).get x = H.get x := fun o x hx hne => by
      rw [Heap.get_add_old (by simpa using hb) (by simpa using hx), Heap.get_put_ne (by omega) (by omega) hne]
    have hfr : ∀ (o : AObj) {v : AV} {l : List (Nat × Nat)}, ImpV H v l → ImpV ((H.put a .dead).add o) v l := fun o v l hv => hv.fr (by show H.next ≤ H.next + 1; omega) fun x rs2 n hx hg => hold o x hx (fun e => by subst e; rw [h4] at hg; cases hg)
    refine hk _ _ (.inr ⟨H.next, rs', by rw [List.length_append]; rfl, hB, by show H.next < H.next + 1; omega, ?_, by rw [List.length_append]; exact r2, ?_⟩) rfl fun x hx hor => ?_
    · rw [List.length_append]
      exact Heap.get_add_new (by simpa using hb)
    · intro j y hy
      rw [List.getElem?_append] at hy
      split at hy
      · rename_i hj
        obtain ⟨iv2, q1, q2⟩ := h6 j y hy
        exact ⟨iv2, by rw [r3 j hj]; exact q1, hfr _ q2⟩
      · rename_i hj
        have hj2 : j - ms.length < 1 := by
          have := (List.getElem?_eq_some_iff.1 hy).1; simpa using this
        have hj3 : j = ms.length := by omega
        subst hj3
        simp at hy; subst hy
        exact ⟨iv, r4, hfr _ hiv⟩
    · refine hold _ x hx fun e => ?_
      subst e
      rcases hor with hor | hor
      · omega
      · exact hor _ _ h4
/-- one module more -/
theorem round6 {X : Nat → Option XExt} {V : Value} {N d nm B n k : Nat} (h12 : X 12 = some (nextX V N 64)) (h13 : X 13 = none) (hn : 20 ≤ n) {kn : TT → Heap → Bool} {kx : Ev.X → TT → Heap → Bool} (hdB : d < B) (hBm : B ≤ nm)
    {T : TT} {H : Heap} {ms : List Mod} {ov : AV} (t0 : T.slot 0 = .ptr d 0 0 2) (t2 : T.slot 2 = ov) (t3 : T.slot 3 = .slice nm 0 5 5 false 1) (t4 : T.slot 4 = .int 3 (k + 1)) (tds : T.ds = []) (hd : IsDice V N d H) (hnm : H.get nm = nmObj) (hmH : nm < H.next)
    (hov : OutN B H ov ms) (hf : ∀ m ∈ ms, m.fine) (hlen : ms.length + (k + 1) ≤ 5) (hb : H.next + 10 < 32768)
    (hkn : ∀ T' H' ms' ov', T'.slot 0 = .ptr d 0 0 2 → T'.slot 2 = ov' → T'.slot 3 = .slice nm 0 5 5 false 1 → T'.slot 4 = .int 3 k → T'.ds = [] → IsDice V N d H' → H'.get nm = nmObj → nm < H'.next →
      OutN B H' ov' ms' → (∀ m ∈ ms', m.fine) → ms'.length + k ≤ 5 → H.next ≤ H'.next → H'.next ≤ H.next + 10 → (∀ a, a < B → a ≠ d → H'.get a = H.get a) → kn T' H' = true) :
    CC.f (K6 c6x6) n (CS X n) T H kn kx = true := by
  refine mk6 h12 h13 (by omega) t0 t3 hd hnm (by omega) (by omega) hmH (by omega) fun T2 H2 m k2 u5 hd2 hg2 hm2 him2 hn2 hs2 => ?_
  have w : ∀ i, i < 64 → q6 i = true → T2.slot i = T.slot i := fun i hi hp => k2.2 i hi hp
  rw [c6x9_eq, w 0 (by decide) rfl, t0]
  refine next12 h12 (by omega) hd2 (by omega) (by omega) fun j H3 hj ht3 => ?_
  have hn3 := ht3.next
  have hs3 : ∀ a, a < H.next → a ≠ d → H3.get a = H.get a := fun a ha hne => (ht3.same a (by omega) hne).trans (hs2 a ha hne)
  rw [resCase_val, c6x10_eq]
  refine inn6 (n := n) (d := d) (nm := nm) (nx := H.next) (B := H.next + 1) (V := V) (N := N) h12 (by omega) (kx := fun x T H => xCase x (fun i => bIf (Nat.beq i 1) (CC.f (K6 c6x16) n (CS X n) T H kn kx) (kx (Ev.X.exit i) T H)) (kx Ev.X.ret T H) fun v => kx (Ev.X.panic v) T H) (by omega) (by omega) (by omega) (by omega) (by omega) (by omega) j n _ H3 m (.nil .s) (by omega) ?_ ?_ ?_ (slot_same _ _ _ (by decide)) ?_ ht3.dice ((hs3 nm hmH (by omega)).trans hnm) ((ht3.same _ (by omega) (by omega)).trans hg2) (.inl ⟨rfl, him2⟩) hm2 ?_ (by omega) (by omega) ?_
  · rw [slot_ne _ _ _ _ (by decide) (by decide) (by decide), w 0 (by decide) rfl, t0]
  · rw [slot_ne _ _ _ _ (by decide) (by decide) (by decide), w 3 (by decide) rfl, t3]
  · rw [slot_ne _ _ _ _ (by decide) (by decide) (by decide), u5]
  · rw [TT.ds_setSlot, k2.1, tds]
  · rw [him2]; show 0 + j ≤ 2; omega
  intro T4 H4 m4 iv4 k4 hd4 hg4 hiv4 hm4 hf4
  have hn4 := hf4.next
  have hl4 := hf4.le
  have hs4 : ∀ a, a < H.next → a ≠ d → H4.get a = H.get a := fun a ha hne => (hf4.same a (by omega) hne (by omega)).trans (hs3 a ha hne)
  have w4 : ∀ i, i < 64 → q6 i = true → T4.slot i = T.slot i := fun i hi hp => by
    have hp6 : p6 i = true := by
      simp only [q6] at hp
      have := blt_iff.1 hp
      simp only [p6, Bool.and_eq_true, Bool.not_eq_true']
      exact ⟨blt_yes (by omega), beq_no (by omega)⟩
    rw [k4.2 i hi hp6, slot_ne _ _ _ _ (by decide) hi (fun e => by rw [e] at hp; exact absurd hp (by decide)), w i hi hp]
  have w5 : T4.slot 5 = .ptr H.next 0 0 9 := by rw [k4.2 5 (by decide) rfl, slot_ne _ _ _ _ (by decide) (by decide) (by decide), u5]
  have wds : T4.ds = [] := by rw [k4.1, TT.ds_setSlot, k2.1, tds]
  obtain ⟨hd1, di, hdi, hdg⟩ := hd
  have hov4 : OutN B H4 ov ms := hov.fr (by omega) fun a rs n z el ha hg => hs4 a ha fun e => by subst e; rw [hdg] at hg; cases hg
  have hb4 : H4.next < 32768 := by omega
  show CC.f (K6 c6x15) n (CS X n) T4 H4 (fun T H => CC.f (K6 c6x16) n (CS X n) T H kn kx) _ = true
  rw [c6x15_eq, w5, rowOf_eq hg4 (by omega) Nat.one_pos, bIf_pos (rfl : Nat.beq 9 9 = true), bIf_pos (rfl : Nat.beq 0 0 = true), bIf_true, putRows_one, show (Rows.r0 []).setR 0 ((Rows.r0 (modRow m4 iv4)).row 0) = .r0 (modRow m4 iv4) from rfl, newO_eq hb4]
  have e45 : Ex H4 (H4.add (.cells (.r0 (modRow m4 iv4)) 1 9 39 false false)) 1 := Ex.add _ hb4
  have g5 : (H4.add (.cells (.r0 (modRow m4 iv4)) 1 9 39 false false)).get H4.next = .cells (.r0 (modRow m4 iv4)) 1 9 39 false false := Heap.get_add_new hb4
  have n5 : (H4.add (.cells (.r0 (modRow m4 iv4)) 1 9 39 false false)).next = H4.next + 1 := rfl
  generalize H4.add (.cells (.r0 (modRow m4 iv4)) 1 9 39 false false) = H5 at *
  rw [src_one g5 (by omega) (Nat.le_refl _), show (Rows.r0 (modRow m4 iv4)).row 0 = modRow m4 iv4 from rfl, w4 2 (by decide) rfl, t2]
  have hov5 : OutN B H5 ov ms := hov4.fr (by omega) fun a rs n z el ha hg => e45.same a ha
  refine out_append hov5 (hiv4.imp.ex e45) (by omega) (by omega) (by omega) fun ov' H6 hov6 hn6 hs6 => ?_
  have hd5 : H5.get d = H4.get d := e45.same d (by omega)
  obtain ⟨_, i4, hi4, hg4d⟩ := hd4
  have hd6 : H6.get d = H4.get d := (hs6 d (by omega) (.inl hdB)).trans hd5
  have hnm5 : H5.get nm = nmObj := by rw [e45.same nm (by omega), hs4 nm hmH (by omega), hnm]
  rw [c6x16_eq, slot_ne _ _ _ _ (by decide) (by decide) (by decide), w4 4 (by decide) rfl, t4, vInt_int, bIf_pos (rfl : Nat.beq 3 3 = true), bIf_true, forceNat_eq, dec_eq (by omega) (by omega), Nat.add_sub_cancel]
  refine hkn _ H6 (ms ++ [m4]) ov' ?_ ?_ ?_ (slot_same _ _ _ (by decide)) ?_ ⟨hd1, i4, hi4, hd6.trans hg4d⟩ ?_ (by omega) hov6 ?_ ?_ (by omega) (by omega) ?_
  · rw [slot_ne _ _ _ _ (by decide) (by decide) (by decide), slot_ne _ _ _ _ (by decide) (by decide) (by decide), w4 0 (by decide) rfl, t0]
  · rw [slot_ne _ _ _ _ (by decide) (by decide) (by decide), slot_same _ _ _ (by decide)]
  · rw [slot_ne _ _ _ _ (by decide) (by decide) (by decide), slot_ne _ _ _ _ (by decide) (by decide) (by decide), w4 3 (by decide) rfl, t3]
  · rw [TT.ds_setSlot, TT.ds_setSlot, wds]
  · rw [hs6 nm (by omega) (.inr fun rs n e => by rw [hnm5] at e; cases e), hnm5]
  · intro x hx
    rcases List.mem_append.1 hx with hx | hx
    · exact hf x hx
    · simp at hx; subst hx; exact hm4
  · rw [List.length_append]; simp; omega
  · intro a ha hne
    rw [hs6 a (by omega) (.inl ha), e45.same a (by omega), hs4 a (by omega) hne]
theorem out6 {X : Nat → Option XExt} {V : Value} {N d nm B n : Nat} (h12 : X 12 = some (nextX V N 64)) (h13 : X 13 = none) (hn : 20 ≤ n) {kn : TT → Heap → Bool} {kx : Ev.X → TT → Heap → Bool} (hdB : d < B) (hBm : B ≤ nm) :
    ∀ (k fuel : Nat) (T : TT) (H : Heap) (ms : List Mod) (ov : AV), k < fuel → T.slot 0 = .ptr d 0 0 2 → T.slot 2 = ov → T.slot 3 = .slice nm 0 5 5 false 1 → T.slot 4 = .int 3 k → T.ds = [] → IsDice V N d H → H.get nm = nmObj → nm < H.next →
      OutN B H ov ms → (∀ m ∈ ms, m.fine) → ms.length + k ≤ 5 → H.next + 10 * k < 32768 →
      (∀ T' H' ms' ov', T'.ds = [] → T'.slot 2 = ov' → OutN B H' ov' ms' → (∀ m ∈ ms', m.fine) → ms'.length ≤ 5 → H.next ≤ H'.next → H'.next ≤ H.next + 10 * k → (∀ a, a < B → a ≠ d → H'.get a = H.get a) → kn T' H' = true) →
      loopN (fun again T H => CC.f (K6 c6x4) n (CS X n) T H again fun x T H => xCase x (fun i => bIf (Nat.beq i 0) (kn T H) (kx (Ev.X.exit i) T H)) (kx Ev.X.ret T H) fun v => kx (Ev.X.panic v) T H) fuel T H = true := by
  intro k
  induction k with
  | zero =>
    intro fuel T H ms ov hfu t0 t2 t3 t4 tds hd hnm hmH hov hf hlen hb hkn
    obtain ⟨fuel, rfl⟩ : ∃ q, fuel = q + 1 := ⟨fuel - 1, by omega⟩
    rw [loopN_succ, c6x4_eq, t4, vInt_int, bIf_pos (rfl : Nat.beq 3 3 = true), bIf_true, forceB_eq, lss_no (Nat.le_refl _) (by omega), c6x5_eq, slot_same _ _ _ (by decide), vBool_bool, bIf_false, xCase_e, bIf_pos (rfl : Nat.beq 0 0 = true)]
    exact hkn _ H ms ov (by rw [TT.ds_setSlot, tds]) (by rw [slot_ne _ _ _ _ (by decide) (by decide) (by decide), t2]) hov hf (by omega) (Nat.le_refl _) (by omega) fun _ _ _ => rfl
  | succ k ih =>
    intro fuel T H ms ov hfu t0 t2 t3 t4 tds hd hnm hmH hov hf hlen hb hkn
    obtain ⟨fuel, rfl⟩ : ∃ q, fuel = q + 1 := ⟨fuel - 1, by omega⟩
    rw [loopN_succ, c6x4_eq, t4, vInt_int, bIf_pos (rfl : Nat.beq 3 3 = true), bIf_true, forceB_eq, lss_yes (by omega) (by omega), c6x5_eq, slot_same _ _ _ (by decide), vBool_bool, bIf_true]
    refine round6 (V := V) (N := N) (nm := nm) (B := B) (k := k) (ms := ms) (ov := ov) h12 h13 hn hdB hBm ?_ ?_ ?_ ?_ ?_ hd hnm hmH hov hf hlen (by omega) fun T' H' ms' ov' q0 q2 q3 q4 q5 q6 q7 q8 q9 q10 q11 q12 q13 q14 => ?_
    · rw [slot_ne _ _ _ _ (by decide) (by decide) (by decide), t0]
    · rw [slot_ne _ _ _ _ (by decide) (by decide) (by decide), t2]
    · rw [slot_ne _ _ _ _ (by decide) (by decide) (by decide), t3]
    · rw [slot_ne _ _ _ _ (by decide) (by decide) (by decide), t4]
    · rw [TT.ds_setSlot, tds]
    refine ih fuel T' H' ms' ov' (by omega) q0 q2 q3 q4 q5 q6 q7 q8 q9 q10 q11 (by omega) fun T2 H2 ms2 ov2 r1 r2 r3 r4 r5 r6 r7 r8 => ?_
    exact hkn T2 H2 ms2 ov2 r1 r2 r3 r4 r5 (by omega) (by omega) fun a ha hne => (r8 a ha hne).trans (q14 a ha hne)
/-- the environment that dice make -/
theorem env6 {X : Nat → Option XExt} {V : Value} {N d n : Nat} (h6 : X 6 = none) (h12 : X 12 = some (nextX V N 64)) (h13 : X 13 = none) (hn : 30 ≤ n) {H : Heap} {k : Res → Heap → Bool} (hd : IsDice V N d H) (hdH : d < H.next) (hb : H.next + 60 < 32768)
    (hk : ∀ H' ov ms, EnvV H' ov ms → (∀ m ∈ ms, m.fine) → ms.length ≤ 5 → H.next ≤ H'.next → H'.next ≤ H.next + 60 → (∀ a, a < H.next → a ≠ d → H'.get a = H.get a) → k (.val ov) H' = true) : CS X n 6 [.ptr d 0 0 2] H k = true := by
  obtain ⟨n, rfl⟩ : ∃ j, n = j + 1 := ⟨n - 1, by omega⟩
  have hb1 : H.next < 32768 := by omega
  rw [CS_succ _ _ _ _ _ _ h6, e6_eq, lenC1, initT1, f6_eq, c6x0_eq, c6x1_eq, bIf_true, bIf_true, bIf_true, bIf_true, bIf_true, putRows_eq, newO_eq hb1]
  have e1 : Ex H (H.add nmObj) 1 := Ex.add _ hb1
  have g1 : (H.add nmObj).get H.next = nmObj := Heap.get_add_new hb1
  have n1 : (H.add nmObj).next = H.next + 1 := rfl
  change CC.f (K6 c6x2) n (CS X n) _ (H.add nmObj) _ _ = true
  generalize H.add nmObj = H1 at *
  have hd1 : IsDice V N d H1 := by
    obtain ⟨q1, i, q2, q3⟩ := hd
    exact ⟨q1, i, q2, (e1.same d hdH).trans q3⟩
  have hret : ∀ T' H' ov ms, T'.ds = [] → T'.slot 1 = ov → EnvV H' ov ms → (∀ m ∈ ms, m.fine) → ms.length ≤ 5 → H.next ≤ H'.next → H'.next ≤ H.next + 60 → (∀ a, a < H.next → a ≠ d → H'.get a = H.get a) →
      (fun x T H => xCase x (fun x => false) (noDs T (k (Res.val (TT.slot T 1)) H)) fun v => noDs T (k (Res.pan v) H)) Ev.X.ret T' H' = true := by
    intro T' H' ov ms q1 q2 q3 q4 q5 q6 q7 q8
    show xCase Ev.X.ret _ _ _ = true
    rw [xCase_r, noDs_nil q1, q2]
    exact hk H' ov ms q3 q4 q5 q6 q7 q8
  revert hret
  generalize (fun x T H => xCase x (fun x => false) (noDs T (k (Res.val (TT.slot T 1)) H)) fun v => noDs T (k (Res.pan v) H)) = kx
  generalize (fun T H => noDs T (k (Res.val (TT.slot T 1)) H)) = kn
  intro hret
  rw [c6x2_eq, slot_ne _ _ _ _ (by decide) (by decide) (by decide), slot_ne _ _ _ _ (by decide) (by decide) (by decide), slot_ne _ _ _ _ (by decide) (by decide) (by decide), slot_same _ _ _ (by decide)]
  refine next12 h12 (by omega) hd1 (by omega) (by omega) fun r H2 hr ht2 => ?_
  have hn2 := ht2.next
  rw [resCase_val, c6x3_eq]
  refine out6 (V := V) (N := N) (d := d) (nm := H.next) (B := H.next) (n := n) (kx := kx) h12 h13 (by omega) hdH (Nat.le_refl _) r n _ H2 [] (.nil .s) (by omega) ?_ ?_ ?_ (slot_same _ _ _ (by decide)) ?_ ht2.dice ((ht2.same _ (by omega) (by omega)).trans g1) (by omega) (.inl ⟨rfl, rfl⟩) (fun m hm => by cases hm) ?_ (by omega) ?_
  · rw [slot_ne _ _ _ _ (by decide) (by decide) (by decide), slot_ne _ _ _ _ (by decide) (by decide) (by decide), slot_ne _ _ _ _ (by decide) (by decide) (by decide), slot_ne _ _ _ _ (by decide) (by decide) (by decide), slot_same _ _ _ (by decide)]
  · rw [slot_ne _ _ _ _ (by decide) (by decide) (by decide), slot_ne _ _ _ _ (by decide) (by decide) (by decide), slot_same _ _ _ (by decide)]
  · rw [slot_ne _ _ _ _ (by decide) (by decide) (by decide), slot_same _ _ _ (by decide)]
  · rw [TT.ds_setSlot, TT.ds_setSlot, TT.ds_setSlot, TT.ds_setSlot, TT.ds_setSlot]; rfl
  · show 0 + r ≤ 5; omega
  · intro T' H' ms' ov' q1 q2 q3 q4 q5 q6 q7 q8
    rw [c6x17_eq]
    refine hret _ H' ov' ms' (by rw [TT.ds_setSlot, q1]) (by rw [slot_same _ _ _ (by decide), q2]) q3.env q4 q5 (by omega) (by omega) fun a ha hne => ?_
    rw [q8 a ha hne, ht2.same a (by omega) hne, e1.same a ha]
end Go.Sp
