/- The operations on memory. -/
import Derived.Test.YtehnkiaepkldiaaGreatDoorEvB
import Derived.Laws.BytesString
namespace Go.Ev
open Go
set_option linter.unusedVariables false

section
variable {P : Program}
/-! ### reading a row -/
theorem row_read {ρ : Valn} {w : World} {a r : Nat} {rs : Rows} {n z el : Nat} {u ro : Bool} (h : ObjR ρ w a (.cells rs n z el u ro)) (hr : r < n) :
    ∃ b κ X, ρ a = some (b, κ) ∧ VRs ρ (rs.row r) X ∧ (rs.row r).length = z ∧ (∀ x ∈ rs.row r, x.isCell = true) ∧ ∀ (j : Nat) (v : Value), X[j]? = some v → w.cell? ⟨b, r * z + j, none⟩ = some v := by
  obtain ⟨b, κ, c, fz, h1, h2, h3, h4, h5, h6, h7⟩ := h
  obtain ⟨X, g1, g2, g3, g4⟩ := h6 r hr
  refine ⟨b, κ, X, h1, g1, g2, g3, fun j v hv => ?_⟩
  rw [cell_of_row w b _ c el fz h2]
  have hj : j < z := by
    have := (List.getElem?_eq_some_iff.1 hv).1
    rw [g1.length, g2] at this; exact this
  rw [g4 j hj]; exact hv
theorem rowOf_inv {p : AV} {H : Heap} {k : Nat → Nat → List AV → Bool} (h : rowOf p H k = true) :
    ∃ a r s z rs n el u ro, p = .ptr a r s z ∧ H.get a = .cells rs n z el u ro ∧ r < n ∧ k s z (rs.row r) = true := by
  unfold rowOf at h
  obtain ⟨a, r, s, z, e, h⟩ := vPtr_inv h
  rw [getO_eq] at h
  obtain ⟨rs, n, z', el, u, ro, e2, h⟩ := oCells_inv h
  obtain ⟨h1, h⟩ := bIf_yes h
  obtain ⟨h2, h⟩ := bIf_yes h
  have e3 := beq_iff'.1 h2
  have h9 := rowAt_inv h
  subst e3
  exact ⟨a, r, s, z, rs, n, el, u, ro, e, e2, blt_iff.1 h1, h9⟩
theorem run_loadAt_agg {t : TypeId} {n : Nat} (ha : isAggT P t = some true) (hs : sizeT P t = some n) {ad : Addr} {cs : List Value} {w : World} (hl : cs.length = n)
    (h : ∀ (j : Nat) (v : Value), cs[j]? = some v → w.cell? (ad.add j) = some v) : (Instr.loadAt t (.pointer (some ad))).run P w = .ok (.agg cs.toArray) w := by
  subst hl
  simp only [Instr.loadAt, Instr.sureAddr, loadVar, Sem.run_bind, Sem.run_pure, Result.andThen_ok, run_isAgg ha, if_true, run_size hs, run_loadCells_list w ad cs h]
theorem run_loadAt_cell {t : TypeId} (ha : isAggT P t = some false) {ad : Addr} {v : Value} {w : World}
    (h : w.cell? ad = some v) : (Instr.loadAt t (.pointer (some ad))).run P w = .ok v w := by
  simp only [Instr.loadAt, Instr.sureAddr, loadVar, Sem.run_bind, Sem.run_pure, Result.andThen_ok, run_isAgg ha, Bool.false_eq_true, if_false, run_load, h]
/-- a load: what it yields depends on the object alone -/
theorem cload_inv {t : TypeId} {p : AV} {H : Heap} {k : AV → Bool} (h : (cload P t).f p H k = true) :
    ∃ v a r s z, k v = true ∧ p = .ptr a r s z ∧ (H.get a).live = true ∧ ∀ (ρ : Valn) (w : World) (V : Value), VR ρ p V → ObjR ρ w a (H.get a) →
      ∃ Vv, VR ρ v Vv ∧ (Instr.loadAt t V).run P w = .ok Vv w := by
  unfold cload at h
  split at h
  · rename_i n ha hs
    obtain ⟨a, r, s, z, rs, m, el, u, ro, e, hg, hr, h⟩ := rowOf_inv h
    rcases bIf_inv h with ⟨q1, h⟩ | ⟨q1, h⟩
    · have q1 := beq_iff'.1 q1
      obtain ⟨q2, h⟩ := bIf_yes h
      have q2 := beq_iff'.1 q2
      refine ⟨_, a, r, s, z, h, e, by rw [hg]; rfl, fun ρ w V hV ho => ?_⟩
      rw [hg] at ho
      rw [e] at hV
      obtain ⟨b, κ, X, g1, g2, g3, g4, g5⟩ := row_read ho hr
      simp only [VR] at hV
      obtain ⟨b', κ', g6, rfl⟩ := hV
      rw [g1] at g6
      cases g6
      refine ⟨.agg X.toArray, by simp only [VR]; exact ⟨X, rfl, g2, by rw [g3, q1], g4⟩, run_loadAt_agg ha hs (by rw [g2.length, g3, q1]) fun j v hj => ?_⟩
      rw [addr_add, q2, Nat.add_zero]
      exact g5 j v hj
    · obtain ⟨q2, h⟩ := dropC_inv h
      obtain ⟨q3, h⟩ := takeC_inv h
      refine ⟨_, a, r, s, z, h, e, by rw [hg]; rfl, fun ρ w V hV ho => ?_⟩
      rw [hg] at ho
      rw [e] at hV
      obtain ⟨b, κ, X, g1, g2, g3, g4, g5⟩ := row_read ho hr
      simp only [VR] at hV
      obtain ⟨b', κ', g6, rfl⟩ := hV
      rw [g1] at g6
      cases g6
      have hVs : VRs ρ (((rs.row r).drop s).take n) ((X.drop s).take n) := (g2.drop s).take n
      have hlen : (((rs.row r).drop s).take n).length = n := by rw [List.length_take]; omega
      refine ⟨.agg ((X.drop s).take n).toArray, by simp only [VR]; exact ⟨_, rfl, hVs, hlen, fun x hx => g4 x (List.mem_of_mem_drop (List.mem_of_mem_take hx))⟩,
        run_loadAt_agg ha hs (by rw [hVs.length, hlen]) fun j v hj => ?_⟩
      rw [addr_add, Nat.add_assoc]
      refine g5 (s + j) v ?_
      rw [List.getElem?_take] at hj
      split at hj
      · rwa [List.getElem?_drop] at hj
      · cases hj
  · rename_i ha hs
    obtain ⟨a, r, s, z, rs, m, el, u, ro, e, hg, hr, h⟩ := rowOf_inv h
    obtain ⟨v, q1, h⟩ := nthC_inv h
    refine ⟨v, a, r, s, z, h, e, by rw [hg]; rfl, fun ρ w V hV ho => ?_⟩
    rw [hg] at ho
    rw [e] at hV
    obtain ⟨b, κ, X, g1, g2, g3, g4, g5⟩ := row_read ho hr
    simp only [VR] at hV
    obtain ⟨b', κ', g6, rfl⟩ := hV
    rw [g1] at g6
    cases g6
    obtain ⟨V, g7, g8⟩ := g2.get q1
    exact ⟨V, g8, run_loadAt_cell ha (g5 s V g7)⟩
  · exact absurd h Bool.false_ne_true

/-! ### determinate parts -/
theorem rowAt_eq {rs : Rows} {i : Nat} {k : List AV → Bool} (h : i < rs.cap) : rowAt rs i k = k (rs.row i) := by
  unfold rowAt
  cases rs with
  | r0 r =>
    have : i = 0 := by simp [Rows.cap] at h; omega
    subst this; rfl
  | r1 t => exact congrArg k (sl_s _ _)
  | r2 t =>
    refine congrArg k ?_
    change (sl (dig (i % 8))).s ((sl (dig (i / 8 % 8))).s t) = _
    rw [sl_s, sl_s]; rfl
  | r3 t =>
    refine congrArg k ?_
    change (sl (dig (i % 8))).s ((sl (dig (i / 8 % 8))).s ((sl (dig (i / 64 % 8))).s t)) = _
    rw [sl_s, sl_s, sl_s]; rfl
  | rf g c => rfl
theorem takeC_eq {α : Type} : ∀ {l : List α} {n : Nat} {k : List α → Bool}, n ≤ l.length → takeC l n k = k (l.take n)
  | [], 0, _, _ => rfl
  | [], n + 1, _, h => by simp at h
  | a :: l, 0, _, _ => rfl
  | a :: l, n + 1, k, h => takeC_eq (l := l) (n := n) (k := fun r => k (a :: r)) (by simpa using h)
theorem dropC_eq {α : Type} : ∀ {l : List α} {n : Nat} {k : List α → Bool}, n ≤ l.length → dropC l n k = k (l.drop n)
  | [], 0, _, _ => rfl
  | [], n + 1, _, h => by simp at h
  | a :: l, 0, _, _ => rfl
  | a :: l, n + 1, k, h => dropC_eq (l := l) (n := n) (k := k) (by simpa using h)

/-! ### writing -/
theorem seg_get (l vs : List Value) (o k : Nat) (h : o + vs.length ≤ l.length) : (l.take o ++ vs ++ l.drop (o + vs.length))[k]? = if o ≤ k ∧ k < o + vs.length then vs[k - o]? else l[k]? := by
  by_cases h1 : k < o
  · rw [if_neg (by omega), List.append_assoc, List.getElem?_append_left (by rw [List.length_take]; omega), List.getElem?_take, if_pos h1]
  · by_cases h2 : k < o + vs.length
    · rw [if_pos ⟨by omega, h2⟩, List.append_assoc, List.getElem?_append_right (by rw [List.length_take]; omega), List.length_take, Nat.min_eq_left (by omega), List.getElem?_append_left (by omega)]
    · rw [if_neg (by omega), List.getElem?_append_right (by rw [List.length_append, List.length_take]; omega), List.getElem?_drop, List.length_append, List.length_take, Nat.min_eq_left (by omega)]
      congr 1; omega
theorem idx_lt {i r z j : Nat} (hj : j < z) (h : i < r) : i * z + j < r * z := by
  have : (i + 1) * z ≤ r * z := Nat.mul_le_mul_right z h
  rw [Nat.add_mul] at this; omega
theorem idx_ge {i r z j : Nat} (h : r < i) : r * z + z ≤ i * z + j := by
  have : (r + 1) * z ≤ i * z := Nat.mul_le_mul_right z h
  rw [Nat.add_mul] at this; omega
/-- a part of a row is written -/
theorem RowsR.store {ρ : Valn} {rs : Rows} {n z : Nat} {c : Array Value} (h : RowsR ρ rs n z c) {r s : Nat} {cv : List AV} {vs : List Value} (hr : r < n) (hcap : n ≤ rs.cap)
    (hs : s + vs.length ≤ z) (hv : VRs ρ cv vs) (hc : ∀ x ∈ cv, x.isCell = true) (hsz : r * z + s + vs.length ≤ c.size) :
    RowsR ρ (rs.setR r ((rs.row r).take s ++ (cv ++ (rs.row r).drop (s + vs.length)))) n z (List.toArray (c.toList.take (r * z + s) ++ vs ++ c.toList.drop (r * z + s + vs.length))) := by
  intro i hi
  have hget : ∀ k, (List.toArray (c.toList.take (r * z + s) ++ vs ++ c.toList.drop (r * z + s + vs.length)))[k]? = if r * z + s ≤ k ∧ k < r * z + s + vs.length then vs[k - (r * z + s)]? else c[k]? := by
    intro k
    rw [List.getElem?_toArray, seg_get _ _ _ _ (by simpa using hsz)]
    simp
  rw [Rows.row_setR _ _ _ _ (by omega) (by omega)]
  by_cases e : i = r
  · subst e
    rw [if_pos rfl]
    obtain ⟨X, h1, h2, h3, h4⟩ := h i hi
    have hX : X.length = z := by rw [h1.length, h2]
    refine ⟨X.take s ++ vs ++ X.drop (s + vs.length), ?_, ?_, ?_, fun j hj => ?_⟩
    · rw [← List.append_assoc]
      exact ((h1.take s).append hv).append (h1.drop _)
    · simp only [List.length_append, List.length_take, List.length_drop, h2, ← hv.length]; omega
    · intro x hx
      rcases List.mem_append.1 hx with hx | hx
      · exact h3 x (List.mem_of_mem_take hx)
      · rcases List.mem_append.1 hx with hx | hx
        · exact hc x hx
        · exact h3 x (List.mem_of_mem_drop hx)
    · rw [hget, seg_get X vs s j (by omega), h4 j hj]
      by_cases hq : s ≤ j ∧ j < s + vs.length
      · rw [if_pos (by omega), if_pos hq]; congr 1; omega
      · rw [if_neg (by omega), if_neg hq]
  · rw [if_neg e]
    obtain ⟨X, h1, h2, h3, h4⟩ := h i hi
    refine ⟨X, h1, h2, h3, fun j hj => ?_⟩
    rw [hget, if_neg ?_, h4 j hj]
    rcases Nat.lt_or_gt_of_ne e with h' | h'
    · have := idx_lt hj h'; omega
    · have := @idx_ge i r z j h'; omega
/-- an object is replaced by another at the same block -/
theorem put_rel {ρ : Valn} {H : Heap} {w w' : World} (R : Rel ρ H w) {a b κ : Nat} (ha : a < 32768) (hl : (H.get a).live = true) (hρ : ρ a = some (b, κ)) {o : AObj}
    (hsz : w'.heap.size = w.heap.size) (hk : ∀ k, k ≠ b → w'.heap[k]? = w.heap[k]?) (ht : w'.tape = w.tape) (hos : w'.os = w.os) (hout : w'.output = w.output) (ho : ObjR ρ w' a o) :
    Rel ρ (H.put a o) w' ∧ Step ρ H w ρ (H.put a o) w' := by
  have hown : Owns ρ H b := ⟨a, ha, hl, κ, hρ⟩
  have hlive : ∀ a', a' < 32768 → ((H.put a o).get a').live = true → (H.get a').live = true := by
    intro a' h' hl'
    rw [Heap.get_put _ _ _ _ ha h'] at hl'
    by_cases e : a' = a
    · rw [e]; exact hl
    · rwa [if_neg e] at hl'
  refine ⟨⟨R.next, R.dom, ?_, ?_⟩, ⟨Valn.le_refl ρ, fun _ _ => rfl, Nat.le_refl _, by omega, ?_, ?_, ?_, ht, hos, hout⟩⟩
  · intro a' h'
    rw [Heap.get_put _ _ _ _ ha h']
    by_cases e : a' = a
    · rw [if_pos e, e]; exact ho
    · rw [if_neg e]
      refine (R.obj a' h').mono (Valn.le_refl ρ) fun b' κ' hl' hr' => hk b' fun eb => e ?_
      subst eb
      exact R.inj a' a h' ha hl' hl b' κ' κ hr' hρ
  · intro a1 a2 h1 h2 l1 l2
    exact R.inj a1 a2 h1 h2 (hlive a1 h1 l1) (hlive a2 h2 l2)
  · intro b' hb' hn
    exact hk b' fun eb => hn (by rw [eb]; exact hown)
  · rintro b' ⟨a', h', hl', κ', hr'⟩
    exact .inr ⟨a', h', hlive a' h' hl', κ', hr'⟩
  · intro x hx hd
    have hx' : x < 32768 := Nat.lt_of_lt_of_le hx R.next
    cases hq : ((H.put a o).get x).live with
    | false => rfl
    | true => rw [hlive x hx' hq] at hd; cases hd
theorem run_storeAt {t : TypeId} {m : Nat} (hs : sizeT P t = some m) {g o : Nat} {X : Value} {vs : List Value} {cur : Array Value} {el : TypeId} {w : World} (hX : X.cells = List.toArray vs) (hl : vs.length = m)
    (hg : w.heap[g]? = some (.cells cur el (0, 0))) (hsz : o + vs.length ≤ cur.size) (h1 : ∀ v ∈ vs, v.oneCell' = true) :
    (Instr.storeAt t (.pointer (some ⟨g, o, none⟩)) X).run P w = .ok () (w.setRow g (List.toArray (cur.toList.take o ++ vs ++ cur.toList.drop (o + vs.length)))) := by
  subst hl
  have := run_storeCells_at P g o el vs 0 cur w hg (by simpa using hsz) h1
  simp only [Nat.add_zero] at this
  simp only [Instr.storeAt, Instr.sureAddr, storeVar, Sem.run_bind, Sem.run_pure, Result.andThen_ok, run_size hs, hX, List.size_toArray, ne_eq, not_true_eq_false, if_false]
  exact this
theorem cellsN_det {v : AV} {n : Nat} {k : List AV → Bool} (h : cellsN v n k = true) : ∃ c, k c = true ∧ (∀ k' : List AV → Bool, cellsN v n k' = k' c) ∧
    ∀ (ρ : Valn) (V : Value), VR ρ v V → ∃ L, V.cells = List.toArray L ∧ VRs ρ c L ∧ c.length = n ∧ ∀ x ∈ c, x.isCell = true := by
  unfold cellsN at h
  rcases vCell_inv h with ⟨hc, h1⟩ | ⟨m, l, rfl, h1⟩
  · obtain ⟨hn, h2⟩ := bIf_yes h1
    have e := beq_iff'.1 hn
    refine ⟨[v], h2, fun k' => ?_, fun ρ V hV => ⟨[V], (hV.oneCell hc).2, VRs.cons hV VRs.nil, by simp [e], fun x hx => ?_⟩⟩
    · unfold cellsN
      rw [hn]
      cases v <;> first | rfl | (exact absurd hc Bool.false_ne_true)
    · simp at hx; subst hx; exact hc
  · obtain ⟨hn, h2⟩ := bIf_yes h1
    have e := beq_iff'.1 hn
    refine ⟨l, h2, fun k' => ?_, fun ρ V hV => ?_⟩
    · show bIf (Nat.beq m n) (k' l) false = k' l
      rw [hn]; rfl
    · simp only [VR] at hV
      obtain ⟨L, rfl, q1, q2, q3⟩ := hV
      exact ⟨L, rfl, q1, q2.trans e, q3⟩
theorem vPtr_ptr (a r s z : Nat) (k : Nat → Nat → Nat → Nat → Bool) : vPtr (.ptr a r s z) k = k a r s z := rfl
theorem oCells_cells (rs : Rows) (n z el : Nat) (u ro : Bool) (k : Rows → Nat → Nat → Nat → Bool → Bool → Bool) : oCells (.cells rs n z el u ro) k = k rs n z el u ro := rfl
theorem cstore_inv {t : TypeId} {p v : AV} {H : Heap} {k : Heap → Bool} (h : (cstore P t).f p v H k = true) :
    ∃ a r s z ob, p = .ptr a r s z ∧ k (H.put a ob) = true ∧ (H.get a).live = true ∧ ob.live = true ∧
      (∀ ρ w, ObjR ρ w a (H.get a) → ∀ (H' : Heap) (k' : Heap → Bool), H'.get a = H.get a → (cstore P t).f p v H' k' = k' (H'.put a ob)) ∧
      ∀ (ρ : Valn) (w : World) (V X : Value), VR ρ p V → VR ρ v X → ObjR ρ w a (H.get a) → ∃ w' b κ, (Instr.storeAt t V X).run P w = .ok () w' ∧ ρ a = some (b, κ) ∧
        w'.heap.size = w.heap.size ∧ (∀ k, k ≠ b → w'.heap[k]? = w.heap[k]?) ∧ w'.tape = w.tape ∧ w'.os = w.os ∧ w'.output = w.output ∧ ObjR ρ w' a ob := by
  have h0 := h
  unfold cstore at h
  split at h
  · rename_i m hs
    obtain ⟨a, r, s, z, e, g1⟩ := vPtr_inv h
    obtain ⟨c, g2, hdet, hcV⟩ := cellsN_det g1
    rw [getO_eq] at g2
    obtain ⟨rs, n, z', el, u, ro, eo, g3⟩ := oCells_inv g2
    obtain ⟨q1, g4⟩ := bIf_no g3
    obtain ⟨q2, g5⟩ := bIf_yes g4
    obtain ⟨q3, g6⟩ := bIf_yes g5
    have e3 := beq_iff'.1 q3
    -- the row behind the store
    have key : ∃ row, k (H.put a (.cells (rs.setR r row) n z el u ro)) = true ∧ (∀ ρ w, ObjR ρ w a (H.get a) → s + (m + 1) ≤ z) ∧ (∀ ρ w, ObjR ρ w a (H.get a) → ∀ L, VRs ρ c L → c.length = m + 1 → row = (rs.row r).take s ++ (c ++ (rs.row r).drop (s + (m + 1)))) ∧
        (∀ ρ w, ObjR ρ w a (H.get a) → ∀ (H' : Heap) (k' : Heap → Bool), H'.get a = H.get a → (cstore P t).f p v H' k' = k' (H'.put a (.cells (rs.setR r row) n z el u ro))) := by
      have red : ∀ (H' : Heap) (k' : Heap → Bool), H'.get a = H.get a → (cstore P t).f p v H' k' =
          (bIf (Nat.beq (m + 1) z) (bIf (Nat.beq s 0) (setRow rs r c fun rs => putO H' a (.cells rs n z el u ro) k') false)
            (rowAt rs r fun row => takeC row s fun q => dropC row (Nat.add s (m + 1)) fun w => appC c w fun w => appC q w fun row => setRow rs r row fun rs => putO H' a (.cells rs n z el u ro) k')) := by
        intro H' k' hH
        simp only [cstore, hs]
        rw [e, vPtr_ptr, hdet, getO_eq, hH, eo, oCells_cells, q1, bIf_false, q2, bIf_true, q3, bIf_true]
      rcases bIf_inv g6 with ⟨q4, g7⟩ | ⟨q4, g7⟩
      · have e4 := beq_iff'.1 q4
        obtain ⟨q5, g8⟩ := bIf_yes g7
        have e5 := beq_iff'.1 q5
        rw [setRow_eq, putO_eq] at g8
        refine ⟨c, g8, fun _ _ _ => by omega, fun ρ w ho L hL hc => ?_, fun ρ w ho H' k' hH => ?_⟩
        · rw [eo] at ho
          obtain ⟨b, κ, X, _, _, g3', _⟩ := row_read ho (blt_iff.1 q2)
          rw [e5, List.take_zero, List.nil_append, List.drop_eq_nil_of_le (by omega), List.append_nil]
        · rw [red H' k' hH, q4, q5, bIf_true, bIf_true, setRow_eq, putO_eq]
      · have g8 := rowAt_inv g7
        obtain ⟨q5, g9⟩ := takeC_inv g8
        obtain ⟨q6, g10⟩ := dropC_inv g9
        rw [appC_eq, appC_eq, setRow_eq, putO_eq] at g10
        have hlen : ∀ ρ w, ObjR ρ w a (H.get a) → (rs.row r).length = z ∧ r < rs.cap := by
          intro ρ w ho
          rw [eo] at ho
          obtain ⟨b, κ, X, _, _, g3', _⟩ := row_read ho (blt_iff.1 q2)
          obtain ⟨_, _, _, _, _, _, _, _, hcap, _⟩ := ho
          exact ⟨by rw [e3]; exact g3', Nat.lt_of_lt_of_le (blt_iff.1 q2) hcap⟩
        refine ⟨_, g10, ?_, fun ρ w ho L hL hc => rfl, fun ρ w ho H' k' hH => ?_⟩
        · intro ρ w ho
          obtain ⟨hl, hc⟩ := hlen ρ w ho
          rw [← hl]; exact q6
        · obtain ⟨hl, hc⟩ := hlen ρ w ho
          rw [red H' k' hH, q4, bIf_false, rowAt_eq hc, takeC_eq q5, dropC_eq q6, appC_eq, appC_eq, setRow_eq, putO_eq]
    obtain ⟨row, k1, k2, k3, k4⟩ := key
    refine ⟨a, r, s, z, _, e, k1, by rw [eo]; rfl, rfl, k4, fun ρ w V X hV hX ho => ?_⟩
    obtain ⟨L, hL, hLv, hcl, hcc⟩ := hcV ρ X hX
    have hrow := k3 ρ w ho L hLv hcl
    have hz := k2 ρ w ho
    rw [eo] at ho
    obtain ⟨b, κ, cc, fz, o1, o2, o3, o4, o5, o6, o7⟩ := ho
    rw [o3 q1] at o2
    rw [e] at hV
    simp only [VR] at hV
    obtain ⟨b', κ', v1, rfl⟩ := hV
    rw [o1] at v1
    cases v1
    have hLl : L.length = m + 1 := by rw [hLv.length, hcl]
    have hr := blt_iff.1 q2
    subst e3
    have hsz : r * z + s + L.length ≤ cc.size := by
      have h1 : (r + 1) * z ≤ n * z := Nat.mul_le_mul_right z hr
      rw [Nat.add_mul] at h1
      cases u with
      | true => simp only [if_true] at o7; omega
      | false => simp only [Bool.false_eq_true, if_false] at o7; omega
    refine ⟨_, b, κ, run_storeAt hs hL hLl o2 hsz (hLv.oneCells hcc), o1, setRow_size _ _ _, fun k hk => setRow_other w b k _ hk, rfl, rfl, rfl, ?_⟩
    refine ⟨b, κ, _, (0, 0), o1, setRow_heap w b cc _ el _ o2, fun _ => rfl, o4, by rw [Rows.cap_setR]; exact o5, ?_, ?_⟩
    · rw [hrow, ← hLl]
      exact o6.store hr o5 (by omega) hLv hcc hsz
    · have : (List.toArray (cc.toList.take (r * z + s) ++ L ++ cc.toList.drop (r * z + s + L.length))).size = cc.size := by
        simp only [List.size_toArray, List.length_append, List.length_take, List.length_drop, Array.length_toList]; omega
      rw [this]; exact o7
  · exact absurd h Bool.false_ne_true
end
end Go.Ev

namespace Go.Ev
open Go
set_option linter.unusedVariables false

section
variable {P : Program}
/-! ### rows in bulk -/
def Rows.setRows (rs : Rows) : List (List AV) → Nat → Rows
  | [], _ => rs
  | r :: l, i => (rs.setR i r).setRows l (i + 1)
theorem putRows_eq : ∀ (l : List (List AV)) (rs : Rows) (i : Nat) (k : Rows → Bool), putRows l rs i k = k (rs.setRows l i)
  | [], _, _, _ => rfl
  | r :: l, rs, i, k => by
    rw [putRows_cons, setRow_eq]
    exact putRows_eq l _ (i + 1) k
theorem Rows.cap_setRows : ∀ (l : List (List AV)) (rs : Rows) (i : Nat), (rs.setRows l i).cap = rs.cap
  | [], _, _ => rfl
  | r :: l, rs, i => by
    show ((rs.setR i r).setRows l (i + 1)).cap = _
    rw [Rows.cap_setRows l _ (i + 1), Rows.cap_setR]
theorem Rows.row_setRows : ∀ (l : List (List AV)) (rs : Rows) (i j : Nat), i + l.length ≤ rs.cap → j < rs.cap →
    (rs.setRows l i).row j = if i ≤ j ∧ j < i + l.length then l.getD (j - i) [] else rs.row j
  | [], rs, i, j, h, hj => by
    rw [if_neg (fun q => by have := q.2; simp at this; omega)]; rfl
  | r :: l, rs, i, j, h, hj => by
    show ((rs.setR i r).setRows l (i + 1)).row j = _
    simp only [List.length_cons] at h ⊢
    rw [Rows.row_setRows l _ (i + 1) j (by rw [Rows.cap_setR]; omega) (by rw [Rows.cap_setR]; exact hj), Rows.row_setR _ _ _ _ (by omega) hj]
    by_cases h1 : j = i
    · subst h1
      rw [if_neg (by omega), if_pos rfl, if_pos (by omega)]; simp
    · by_cases h2 : i + 1 ≤ j ∧ j < i + 1 + l.length
      · rw [if_pos h2, if_pos (by omega)]
        have : j - i = (j - (i + 1)) + 1 := by omega
        rw [this]; rfl
      · rw [if_neg h2, if_neg h1, if_neg (by omega)]
/-- rows, and the cells they stand for -/
def RowL (ρ : Valn) (z : Nat) : List (List AV) → List (List Value) → Prop
  | [], L => L = []
  | r :: l, L => ∃ X L', L = X :: L' ∧ VRs ρ r X ∧ r.length = z ∧ (∀ x ∈ r, x.isCell = true) ∧ RowL ρ z l L'
theorem RowL.mono {ρ ρ' : Valn} (h : ρ.le ρ') {z : Nat} : ∀ {l : List (List AV)} {L : List (List Value)}, RowL ρ z l L → RowL ρ' z l L
  | [], _, r => r
  | _ :: _, _, ⟨X, L', e, h1, h2, h3, h4⟩ => ⟨X, L', e, VRs.mono h _ _ h1, h2, h3, h4.mono h⟩
theorem RowL.length {ρ : Valn} {z : Nat} : ∀ {l : List (List AV)} {L : List (List Value)}, RowL ρ z l L → L.length = l.length
  | [], _, r => by cases r; rfl
  | _ :: _, _, ⟨X, L', e, _, _, _, h4⟩ => by subst e; simp [h4.length]
theorem RowL.append {ρ : Valn} {z : Nat} : ∀ {l l' : List (List AV)} {L L' : List (List Value)}, RowL ρ z l L → RowL ρ z l' L' → RowL ρ z (l ++ l') (L ++ L')
  | [], _, _, _, r, r' => by cases r; exact r'
  | _ :: _, _, _, _, ⟨X, L', e, h1, h2, h3, h4⟩, r' => by subst e; exact ⟨X, _, rfl, h1, h2, h3, h4.append r'⟩
theorem RowL.flat_length {ρ : Valn} {z : Nat} : ∀ {l : List (List AV)} {L : List (List Value)}, RowL ρ z l L → L.flatten.length = l.length * z
  | [], _, r => by cases r; simp
  | _ :: l, _, ⟨X, L', e, h1, h2, h3, h4⟩ => by
    subst e
    simp only [List.flatten_cons, List.length_append, List.length_cons, h4.flat_length, h1.length, h2, Nat.add_mul]; omega
theorem RowL.oneCells {ρ : Valn} {z : Nat} : ∀ {l : List (List AV)} {L : List (List Value)}, RowL ρ z l L → ∀ v ∈ L.flatten, v.oneCell' = true
  | [], _, r, v, hv => by cases r; simp at hv
  | _ :: l, _, ⟨X, L', e, h1, h2, h3, h4⟩, v, hv => by
    subst e
    rw [List.flatten_cons] at hv
    rcases List.mem_append.1 hv with h | h
    · exact h1.oneCells h3 v h
    · exact h4.oneCells v h
theorem RowL.get {ρ : Valn} {z : Nat} : ∀ {l : List (List AV)} {L : List (List Value)} {i : Nat}, RowL ρ z l L → i < l.length →
    ∃ X, VRs ρ (l.getD i []) X ∧ (l.getD i []).length = z ∧ (∀ x ∈ l.getD i [], x.isCell = true) ∧ ∀ j, j < z → L.flatten[i * z + j]? = X[j]?
  | [], _, _, _, h => by simp at h
  | r :: l, _, 0, ⟨X, L', e, h1, h2, h3, h4⟩, h => by
    subst e
    refine ⟨X, h1, h2, h3, fun j hj => ?_⟩
    simp only [Nat.zero_mul, Nat.zero_add, List.flatten_cons]
    rw [List.getElem?_append_left (by rw [h1.length, h2]; exact hj)]
  | r :: l, _, i + 1, ⟨X, L', e, h1, h2, h3, h4⟩, h => by
    subst e
    obtain ⟨Y, g1, g2, g3, g4⟩ := h4.get (i := i) (by simpa using h)
    refine ⟨Y, g1, g2, g3, fun j hj => ?_⟩
    simp only [List.flatten_cons]
    rw [List.getElem?_append_right (by rw [h1.length, h2, Nat.add_mul]; omega), ← g4 j hj, h1.length, h2]
    congr 1
    rw [Nat.add_mul]; omega
theorem RowsR.setRows {ρ : Valn} {rs : Rows} {n n' z i : Nat} {c c' : Array Value} {l : List (List AV)} {L : List (List Value)} (h : RowsR ρ rs n z c) (hl : RowL ρ z l L) (hcap : n' ≤ rs.cap)
    (hi : i + l.length ≤ n') (hn : ∀ r, r < n' → r < n ∨ (i ≤ r ∧ r < i + l.length)) (hseg : ∀ k, k < l.length * z → c'[i * z + k]? = L.flatten[k]?)
    (hrest : ∀ r j, r < n → j < z → (r < i ∨ i + l.length ≤ r) → c'[r * z + j]? = c[r * z + j]?) : RowsR ρ (rs.setRows l i) n' z c' := by
  intro r hr
  rw [Rows.row_setRows _ _ _ _ (by omega) (by omega)]
  by_cases e : i ≤ r ∧ r < i + l.length
  · rw [if_pos e]
    obtain ⟨X, h1, h2, h3, h4⟩ := hl.get (i := r - i) (by omega)
    refine ⟨X, h1, h2, h3, fun j hj => ?_⟩
    rw [← h4 j hj]
    have hlt : (r - i) * z + j < l.length * z := idx_lt hj (by omega)
    have hq := hseg ((r - i) * z + j) hlt
    have he : i * z + ((r - i) * z + j) = r * z + j := by
      rw [← Nat.add_assoc, ← Nat.add_mul]; congr 2; omega
    rw [he] at hq; exact hq
  · rw [if_neg e]
    rcases hn r hr with hr' | hr'
    · obtain ⟨X, h1, h2, h3, h4⟩ := h r hr'
      exact ⟨X, h1, h2, h3, fun j hj => by rw [hrest r j hr' hj (by omega)]; exact h4 j hj⟩
    · exact absurd hr' e
theorem RowsR.none {ρ : Valn} {rs : Rows} {z : Nat} {c : Array Value} : RowsR ρ rs 0 z c := fun i hi => by omega
theorem emptyRows_cap {n : Nat} {rs : Rows} (h : emptyRows n = some rs) : n ≤ rs.cap := by
  unfold emptyRows at h
  split at h
  · rename_i q; cases h; exact ble_iff.1 q
  · split at h
    · rename_i q; cases h; exact ble_iff.1 q
    · split at h
      · rename_i q; cases h; exact ble_iff.1 q
      · split at h
        · rename_i q; cases h; exact ble_iff.1 q
        · cases h
theorem withRows_inv {n : Nat} {k : Rows → Bool} (h : withRows n k = true) : ∃ rs, n ≤ rs.cap ∧ k rs = true := by
  unfold withRows at h
  split at h
  · rename_i rs hrs; exact ⟨rs, emptyRows_cap hrs, h⟩
  · exact absurd h Bool.false_ne_true
theorem withRows_inv5 {n : Nat} {k : Rows → Bool} (h : withRows n k = true) : ∃ rs, n ≤ rs.cap ∧ rs.cap ≤ 512 ∧ k rs = true := by
  unfold withRows at h
  split at h
  · rename_i rs hrs
    refine ⟨rs, emptyRows_cap hrs, ?_, h⟩
    unfold emptyRows at hrs
    split at hrs
    · cases hrs; simp [Rows.cap]
    · split at hrs
      · cases hrs; simp [Rows.cap]
      · split at hrs
        · cases hrs; simp [Rows.cap]
        · split at hrs
          · cases hrs; simp [Rows.cap]
          · cases hrs
  · exact absurd h Bool.false_ne_true
theorem grow_inv {rs : Rows} {n : Nat} {k : Rows → Bool} (h : grow rs n k = true) : ∃ rs', k rs' = true ∧ n ≤ rs'.cap ∧ rs.cap ≤ rs'.cap ∧ ∀ i, i < rs.cap → rs'.row i = rs.row i := by
  unfold grow at h
  cases rs with
  | r0 r =>
    change bIf (Nat.ble n 1) (k (.r0 r)) (bIf (Nat.ble n 8) (k (.r1 ⟨r, [], [], [], [], [], [], []⟩)) (bIf (Nat.ble n 64) (k (.r2 ⟨⟨r, [], [], [], [], [], [], []⟩, e1, e1, e1, e1, e1, e1, e1⟩))
      (bIf (Nat.ble n 512) (k (.r3 ⟨⟨⟨r, [], [], [], [], [], [], []⟩, e1, e1, e1, e1, e1, e1, e1⟩, e2, e2, e2, e2, e2, e2, e2⟩)) false))) = true at h
    have one : ∀ i, i < (Rows.r0 r).cap → i = 0 := fun i hi => by simp [Rows.cap] at hi; exact hi
    rcases bIf_inv h with ⟨q, h⟩ | ⟨_, h⟩
    · exact ⟨_, h, ble_iff.1 q, Nat.le_refl _, fun _ _ => rfl⟩
    · rcases bIf_inv h with ⟨q, h⟩ | ⟨_, h⟩
      · exact ⟨_, h, ble_iff.1 q, by simp [Rows.cap], fun i hi => by rw [one i hi]; rfl⟩
      · rcases bIf_inv h with ⟨q, h⟩ | ⟨_, h⟩
        · exact ⟨_, h, ble_iff.1 q, by simp [Rows.cap], fun i hi => by rw [one i hi]; rfl⟩
        · obtain ⟨q, h⟩ := bIf_yes h
          exact ⟨_, h, ble_iff.1 q, by simp [Rows.cap], fun i hi => by rw [one i hi]; rfl⟩
  | r1 t =>
    change bIf (Nat.ble n 8) (k (.r1 t)) (bIf (Nat.ble n 64) (k (.r2 ⟨t, e1, e1, e1, e1, e1, e1, e1⟩))
      (bIf (Nat.ble n 512) (k (.r3 ⟨⟨t, e1, e1, e1, e1, e1, e1, e1⟩, e2, e2, e2, e2, e2, e2, e2⟩)) false)) = true at h
    have z8 : ∀ i, i < (Rows.r1 t).cap → i / 8 % 8 = 0 ∧ i / 64 % 8 = 0 := fun i hi => by simp [Rows.cap] at hi; omega
    rcases bIf_inv h with ⟨q, h⟩ | ⟨_, h⟩
    · exact ⟨_, h, ble_iff.1 q, Nat.le_refl _, fun _ _ => rfl⟩
    · rcases bIf_inv h with ⟨q, h⟩ | ⟨_, h⟩
      · exact ⟨_, h, ble_iff.1 q, by simp [Rows.cap], fun i hi => by simp only [Rows.row, (z8 i hi).1]; rfl⟩
      · obtain ⟨q, h⟩ := bIf_yes h
        exact ⟨_, h, ble_iff.1 q, by simp [Rows.cap], fun i hi => by simp only [Rows.row, (z8 i hi).1, (z8 i hi).2]; rfl⟩
  | r2 t =>
    change bIf (Nat.ble n 64) (k (.r2 t)) (bIf (Nat.ble n 512) (k (.r3 ⟨t, e2, e2, e2, e2, e2, e2, e2⟩)) false) = true at h
    have z8 : ∀ i, i < (Rows.r2 t).cap → i / 64 % 8 = 0 := fun i hi => by simp [Rows.cap] at hi; omega
    rcases bIf_inv h with ⟨q, h⟩ | ⟨_, h⟩
    · exact ⟨_, h, ble_iff.1 q, Nat.le_refl _, fun _ _ => rfl⟩
    · obtain ⟨q, h⟩ := bIf_yes h
      exact ⟨_, h, ble_iff.1 q, by simp [Rows.cap], fun i hi => by simp only [Rows.row, z8 i hi]; rfl⟩
  | r3 t =>
    change bIf (Nat.ble n 512) (k (.r3 t)) false = true at h
    obtain ⟨q, h⟩ := bIf_yes h
    exact ⟨_, h, ble_iff.1 q, Nat.le_refl _, fun _ _ => rfl⟩
  | rf g c =>
    change bIf (Nat.ble n c) (k (.rf g c)) (k (.rf g n)) = true at h
    rcases bIf_inv h with ⟨q, h⟩ | ⟨q, h⟩
    · exact ⟨_, h, ble_iff.1 q, Nat.le_refl _, fun _ _ => rfl⟩
    · refine ⟨_, h, Nat.le_refl _, ?_, fun _ _ => rfl⟩
      have : ¬ n ≤ c := fun hle => by rw [ble_iff.2 hle] at q; cases q
      simp only [Rows.cap]; omega
/-- a range of rows -/
def Rows.range (rs : Rows) : Nat → Nat → List (List AV)
  | 0, _ => []
  | m + 1, i => rs.row i :: rs.range m (i + 1)
theorem rowsC_inv : ∀ {m : Nat} {rs : Rows} {i : Nat} {k : List (List AV) → Bool}, rowsC rs m i k = true → k (rs.range m i) = true
  | 0, _, _, _, h => h
  | m + 1, rs, i, k, h => by
    rw [rowsC_succ] at h
    have h1 := rowAt_inv h
    exact rowsC_inv (k := fun l => k (rs.row i :: l)) h1
theorem Rows.range_length (rs : Rows) : ∀ (m i : Nat), (rs.range m i).length = m
  | 0, _ => rfl
  | m + 1, i => by simp [Rows.range, Rows.range_length rs m]
theorem RowsR.range {ρ : Valn} {rs : Rows} {n z : Nat} {c : Array Value} (h : RowsR ρ rs n z c) : ∀ (m i : Nat), i + m ≤ n →
    ∃ L, RowL ρ z (rs.range m i) L ∧ ∀ k, k < m * z → c[i * z + k]? = L.flatten[k]?
  | 0, i, _ => ⟨[], rfl, fun k hk => by omega⟩
  | m + 1, i, hi => by
    obtain ⟨X, h1, h2, h3, h4⟩ := h i (by omega)
    obtain ⟨L, g1, g2⟩ := h.range m (i + 1) (by omega)
    refine ⟨X :: L, ⟨X, L, rfl, h1, h2, h3, g1⟩, fun k hk => ?_⟩
    have hX : X.length = z := by rw [h1.length, h2]
    simp only [List.flatten_cons]
    by_cases hz : k < z
    · rw [List.getElem?_append_left (by omega)]; exact h4 k hz
    · rw [List.getElem?_append_right (by omega), hX, ← g2 (k - z) (by rw [Nat.add_mul] at hk; omega)]
      congr 1
      rw [Nat.add_mul]; omega
end
end Go.Ev

namespace Go.Ev
open Go
set_option linter.unusedVariables false

section
variable {P : Program}
/-! ### a new object -/
def NewOk (ρ : Valn) (ob : AObj) (obj : Obj) (κ : Nat) (vf : Nat → AV) (Vf : Nat → Value) : Prop :=
  ∀ (ρ' : Valn) (w : World) (b aid : Nat), ρ.le ρ' → ρ' aid = some (b, κ) → w.heap[b]? = some obj → ObjR ρ' w aid ob ∧ VR ρ' (vf aid) (Vf b)
/-- a block is made, or taken from an object that is no more: an object of a new number stands for it -/
theorem fresh_rel {ρ : Valn} {H : Heap} {w w' : World} (R : Rel ρ H w) (hn : H.next < 32768) {b κ : Nat} {ob : AObj}
    (hsz : w.heap.size ≤ w'.heap.size) (hb : w.heap.size ≤ b ∨ ¬ Owns ρ H b) (hk : ∀ k, k < w.heap.size → Owns ρ H k → w'.heap[k]? = w.heap[k]?)
    (ho : ObjR (ρ.set H.next (b, κ)) w' H.next ob) :
    Rel (ρ.set H.next (b, κ)) { (H.put H.next ob) with next := H.next + 1 } w' := by
  have hnone : ρ H.next = none := by
    cases h : ρ H.next with
    | none => rfl
    | some x => exact absurd (R.dom _ _ h) (Nat.lt_irrefl _)
  have hle := Valn.le_set (b, κ) hnone
  have get : ∀ a, a < 32768 → ({ (H.put H.next ob) with next := H.next + 1 } : Heap).get a = if a = H.next then ob else H.get a := fun a ha => Heap.get_put H H.next a ob hn ha
  have old : ∀ a b' κ', a < 32768 → a ≠ H.next → (H.get a).live = true → (ρ.set H.next (b, κ)) a = some (b', κ') → b' < w.heap.size ∧ Owns ρ H b' := by
    intro a b' κ' ha hne hl hr
    rw [Valn.set_ne _ _ hne] at hr
    obtain ⟨b1, κ1, h1, h2⟩ := (R.obj a ha).block hl
    rw [hr] at h1; cases h1
    exact ⟨h2, a, ha, hl, κ', hr⟩
  refine ⟨by show H.next + 1 ≤ 32768; omega, ?_, ?_, ?_⟩
  · intro a x hx
    show a < H.next + 1
    by_cases e : a = H.next
    · omega
    · rw [Valn.set_ne _ _ e] at hx
      have := R.dom a x hx; omega
  · intro a ha
    rw [get a ha]
    by_cases e : a = H.next
    · rw [if_pos e, e]; exact ho
    · rw [if_neg e]
      refine (R.obj a ha).mono hle fun b' κ' hl hr => hk b' ?_ ?_
      · exact R.owns_lt ⟨a, ha, hl, κ', hr⟩
      · exact ⟨a, ha, hl, κ', hr⟩
  · intro a1 a2 h1 h2 l1 l2 b' κ1 κ2 r1 r2
    rw [get a1 h1] at l1
    rw [get a2 h2] at l2
    by_cases e1 : a1 = H.next <;> by_cases e2 : a2 = H.next
    · rw [e1, e2]
    · rw [if_neg e2] at l2
      have := old a2 b' κ2 h2 e2 l2 r2
      rw [e1, Valn.set_same] at r1
      cases r1
      rcases hb with hb | hb
      · omega
      · exact absurd this.2 hb
    · rw [if_neg e1] at l1
      have := old a1 b' κ1 h1 e1 l1 r1
      rw [e2, Valn.set_same] at r2
      cases r2
      rcases hb with hb | hb
      · omega
      · exact absurd this.2 hb
    · rw [if_neg e1] at l1
      rw [if_neg e2] at l2
      rw [Valn.set_ne _ _ e1] at r1
      rw [Valn.set_ne _ _ e2] at r2
      exact R.inj a1 a2 h1 h2 l1 l2 b' κ1 κ2 r1 r2
theorem fresh_step {ρ : Valn} {H : Heap} {w w' : World} (R : Rel ρ H w) (hn : H.next < 32768) {b κ : Nat} {ob : AObj}
    (hsz : w.heap.size ≤ w'.heap.size) (hb : w.heap.size ≤ b ∨ Owns ρ H b) (hk : ∀ k, k < w.heap.size → ¬ Owns ρ H k → w'.heap[k]? = w.heap[k]?)
    (ht : w'.tape = w.tape) (hos : w'.os = w.os) (hout : w'.output = w.output) :
    Step ρ H w (ρ.set H.next (b, κ)) { (H.put H.next ob) with next := H.next + 1 } w' := by
  have hnone : ρ H.next = none := by
    cases h : ρ H.next with
    | none => rfl
    | some x => exact absurd (R.dom _ _ h) (Nat.lt_irrefl _)
  refine ⟨Valn.le_set _ hnone, fun a ha => Valn.set_ne _ _ (by omega), by show H.next ≤ H.next + 1; omega, hsz, hk, ?_, fun x hx hd => by
    have get : ({ (H.put H.next ob) with next := H.next + 1 } : Heap).get x = if x = H.next then ob else H.get x := Heap.get_put H H.next x ob hn (by omega)
    rw [get, if_neg (by omega)]; exact hd, ht, hos, hout⟩
  rintro b' ⟨a, ha, hl, κ', hr⟩
  have get : ({ (H.put H.next ob) with next := H.next + 1 } : Heap).get a = if a = H.next then ob else H.get a := Heap.get_put H H.next a ob hn ha
  rw [get] at hl
  by_cases e : a = H.next
  · rw [e, Valn.set_same] at hr
    cases hr
    exact hb
  · rw [if_neg e] at hl
    rw [Valn.set_ne _ _ e] at hr
    exact .inr ⟨a, ha, hl, κ', hr⟩
/-- memory is made -/
theorem alloc_step {ρ : Valn} {H : Heap} {w : World} (R : Rel ρ H w) {ob : AObj} {obj : Obj} {κ : Nat} {vf : Nat → AV} {Vf : Nat → Value} (hn : NewOk ρ ob obj κ vf Vf)
    {k : Nat → Heap → Bool} (h : newO H ob k = true) :
    ∃ ρ' H', k H.next H' = true ∧ VR ρ' (vf H.next) (Vf w.heap.size) ∧ Rel ρ' H' (w.alloc obj) ∧ Step ρ H w ρ' H' (w.alloc obj) := by
  obtain ⟨h1, h2⟩ := newO_inv h
  have hnone : ρ H.next = none := by
    cases h : ρ H.next with
    | none => rfl
    | some x => exact absurd (R.dom _ _ h) (Nat.lt_irrefl _)
  obtain ⟨g1, g2⟩ := hn (ρ.set H.next (w.heap.size, κ)) (w.alloc obj) w.heap.size H.next (Valn.le_set _ hnone) (Valn.set_same _ _ _) (heap_alloc_at w obj)
  have hsz : w.heap.size ≤ (w.alloc obj).heap.size := by rw [World.size_alloc]; omega
  exact ⟨ρ.set H.next (w.heap.size, κ), _, h2, g2, fresh_rel R h1 hsz (.inl (Nat.le_refl _)) (fun k hk _ => heap_alloc_lt w obj hk) g1,
    fresh_step R h1 hsz (.inl (Nat.le_refl _)) (fun k hk _ => heap_alloc_lt w obj hk) rfl rfl rfl⟩

/-! ### operations that make memory -/
/-- cells of a variable -/
theorem newOk_var {ρ : Valn} {el z : Nat} {row : List AV} {L : List Value} (hz : 0 < z) (hv : VRs ρ row L) (hl : row.length = z) (hc : ∀ x ∈ row, x.isCell = true) :
    NewOk ρ (varObj el z row) (.cells (List.toArray L) el) 0 (fun a => .ptr a 0 0 z) (fun b => .pointer (some ⟨b, 0, none⟩)) := by
  intro ρ' w b aid hle hr hw
  refine ⟨⟨b, 0, _, (0, 0), hr, hw, fun _ => rfl, hz, Nat.le_refl _, ?_, ?_⟩, by simp only [VR]; exact ⟨b, 0, hr, by simp⟩⟩
  · intro i hi
    have : i = 0 := by omega
    subst this
    exact ⟨L, VRs.mono hle _ _ hv, hl, hc, fun j hj => by simp⟩
  · simp [← hv.length.symm ▸ hl, hv.length]
/-- cells of rows -/
theorem newOk_rows {ρ : Valn} {el z n m : Nat} {rs : Rows} {l : List (List AV)} {L : List (List Value)} (hz : 0 < z) (hl : RowL ρ z l L) (hn : l.length = n) (hcap : n ≤ rs.cap) (hmn : m ≤ n) (hb : n ≤ 2147483647) :
    NewOk ρ (.cells (rs.setRows l 0) n z el false false) (.cells (List.toArray L.flatten) el) 0 (fun a => .slice a 0 m n false z) (fun b => .slice (some ⟨b, 0, none⟩) m n) := by
  intro ρ' w b aid hle hr hw
  refine ⟨⟨b, 0, _, (0, 0), hr, hw, fun _ => rfl, hz, by rw [Rows.cap_setRows]; exact hcap, ?_, ?_⟩, by simp only [VR]; exact ⟨b, 0, hr, by simp, by omega, by simpa using hmn, by simpa using hb⟩⟩
  · refine RowsR.setRows (n := 0) (c := #[]) RowsR.none (hl.mono hle) hcap (by omega) (fun r hr => .inr (by omega)) (fun k hk => ?_) (fun r j hr => by omega)
    simp
  · simp only [Bool.false_eq_true, if_false, List.size_toArray, hl.flat_length, hn]
theorem rowL_replicate {ρ : Valn} {z : Nat} {r : List AV} {X : List Value} (hv : VRs ρ r X) (hl : r.length = z) (hc : ∀ x ∈ r, x.isCell = true) : ∀ n : Nat, RowL ρ z (List.replicate n r) (List.replicate n X)
  | 0 => rfl
  | n + 1 => ⟨X, List.replicate n X, rfl, hv, hl, hc, rowL_replicate hv hl hc n⟩
theorem flat_replicate_get {X : List Value} : ∀ {n : Nat} {i : Nat}, i < n * X.length → (List.replicate n X).flatten[i]? = X[i % X.length]?
  | 0, i, h => by omega
  | n + 1, i, h => by
    simp only [List.replicate_succ, List.flatten_cons]
    by_cases hi : i < X.length
    · rw [List.getElem?_append_left hi, Nat.mod_eq_of_lt hi]
    · rw [List.getElem?_append_right (by omega), flat_replicate_get (by rw [Nat.add_mul] at h; omega)]
      congr 1
      rw [← Nat.mod_eq_sub_mod (by omega)]
theorem range_map_zero {X : List Value} {n : Nat} (hX : 0 < X.length) : (Array.range (n * X.length)).map (fun i => (List.toArray X)[i % X.length]!) = List.toArray (List.replicate n X).flatten := by
  apply Array.ext_getElem?
  intro i
  by_cases hi : i < n * X.length
  · have hm : i % X.length < X.length := Nat.mod_lt _ hX
    rw [Array.getElem?_map, Array.getElem?_range, if_pos hi, List.getElem?_toArray, flat_replicate_get hi]
    simp [hm]
  · rw [Array.getElem?_eq_none (by simp; omega), Array.getElem?_eq_none (by simp [List.length_flatten]; omega)]
end
end Go.Ev

namespace Go.Ev
open Go
set_option linter.unusedVariables false

section
variable {P : Program} {es : List Nat} {ds : List (Option Nat)} {L : List AV} {T : TT}
theorem zc_info {t : TypeId} {l : List AV} (h : zc P t = some l) : ∃ (i : TypeInfo) (Z : Value) (Ls : List Value), P.info? t = some i ∧ i.zero = some Z ∧ Z.cells = List.toArray Ls ∧
    (∀ ρ, VRs ρ l Ls) ∧ (∀ x ∈ l, x.isCell = true) ∧ ∀ w, (zeroValue t).run P w = .ok Z w := by
  unfold zc at h
  have key : ∀ v, zeroT P t = some v → v ≠ .undef → l = v.cells → ∃ (i : TypeInfo) (Z : Value) (Ls : List Value), P.info? t = some i ∧ i.zero = some Z ∧ Z.cells = List.toArray Ls ∧
      (∀ ρ, VRs ρ l Ls) ∧ (∀ x ∈ l, x.isCell = true) ∧ ∀ w, (zeroValue t).run P w = .ok Z w := by
    intro v hv hne hl
    obtain ⟨i, Z, h1, h2, h3⟩ := zeroT_info hv
    obtain ⟨Ls, g1, g2, g3⟩ := absV_cells (ρ := fun _ => none) h3 hne
    subst hl
    refine ⟨i, Z, Ls, h1, h2, g1, fun ρ => ?_, g3, fun w => by simp [zeroValue, typeInfo, h1, h2]⟩
    obtain ⟨Ls', g1', g2', _⟩ := absV_cells (ρ := ρ) h3 hne
    rw [g1] at g1'
    have : Ls = Ls' := by simpa using g1'
    rw [this]; exact g2'
  split at h
  · cases h
  · rename_i n l' hz; cases h; exact key _ hz (by simp) rfl
  · rename_i v h1 h2 hz; cases h; exact key v hz (fun e => h1 e) (by cases v <;> first | rfl | (exact absurd rfl (h2 _ _)))
  · cases h
theorem run_newRow (el : TypeId) (c : Array Value) (w : World) : (newRow el c).run P w = .ok ⟨w.heap.size, 0, none⟩ (w.alloc (.cells c el)) := rfl

/-! ### slice literals -/
theorem lastOf_none : ∀ {l : List (Nat × Value)} {i : Nat}, (∀ p ∈ l, p.1 ≠ i) → lastOf i l = none
  | [], _, _ => rfl
  | (j, v) :: l, i, h => by
    simp only [lastOf, lastOf_none (l := l) (i := i) fun p hp => h p (by simp [hp])]
    rw [if_neg (fun e => h (j, v) (by simp) e.symm)]
theorem lastOf_enum : ∀ {l : List (Nat × Value)} {i : Nat}, (∀ (j : Nat) (p : Nat × Value), l[j]? = some p → p.1 = i + j) → ∀ (j : Nat) (p : Nat × Value), l[j]? = some p → lastOf (i + j) l = some p.2
  | [], i, h, j, p, hj => by simp at hj
  | (i', v) :: l, i, h, j, p, hj => by
    have h0 : i' = i := by simpa using h 0 (i', v) rfl
    subst h0
    have ht : ∀ (j : Nat) (p : Nat × Value), l[j]? = some p → p.1 = (i' + 1) + j := fun j p hp => by
      have := h (j + 1) p (by simpa using hp); omega
    cases j with
    | zero =>
      simp at hj
      subst hj
      have : lastOf i' l = none := lastOf_none fun q hq e => by
        obtain ⟨n, hn⟩ := List.getElem?_of_mem hq
        have := ht n q hn; omega
      simp only [lastOf, Nat.add_zero, this, if_true]
    | succ j =>
      simp only [List.getElem?_cons_succ] at hj
      have := lastOf_enum ht j p hj
      have e : i' + 1 + j = i' + (j + 1) := by omega
      rw [e] at this
      simp only [lastOf, this]
theorem chunks (z : Nat) : ∀ (n : Nat) (c : List Value), c.length = n * z → ∃ segs : List (List Value), segs.flatten = c ∧ segs.map List.length = List.replicate n z
  | 0, c, h => ⟨[], by have : c = [] := List.length_eq_zero_iff.1 (by omega); simp [this], rfl⟩
  | n + 1, c, h => by
    have h' : z + n * z = c.length := by rw [h, Nat.add_mul]; omega
    obtain ⟨segs, h1, h2⟩ := chunks z n (c.drop z) (by rw [List.length_drop]; omega)
    refine ⟨c.take z :: segs, by simp [h1], ?_⟩
    simp only [List.map_cons, h2, List.replicate_succ, List.length_take]
    congr 1; omega
theorem offOf_replicate (z n i : Nat) (h : i ≤ n) : offOf (List.replicate n z) i = i * z := by
  unfold offOf
  rw [List.take_replicate, Nat.min_eq_left h, List.sum_replicate_nat]
theorem crows_inv {s : Nat} : ∀ {ps : List (Nat × Operand)} {i : Nat} {r : CrowsN} {k : List (List AV) → Bool}, crows s i (cparts es ds ps) = some r → r.f L T k = true →
    ∃ rows, k rows = true ∧ rows.length = ps.length ∧ (∀ (j : Nat) (p : Nat × Operand), ps[j]? = some p → p.1 = i + j) ∧
      ∀ (ρ : Valn) (a : Act), (∀ p ∈ ps, OpdOk ρ es ds L T a p.2) → RowL ρ s rows (ps.map fun p => (a.eval p.2).cells.toList)
  | [], i, r, k, hr, h => by
    simp only [cparts, crows, Option.some.injEq] at hr
    subst hr
    exact ⟨[], h, rfl, by simp, fun _ _ _ => rfl⟩
  | (j, x) :: ps, i, r, k, hr, h => by
    simp only [cparts] at hr
    unfold crows at hr
    split at hr
    · rename_i r' hb hrec
      cases hr
      have hb := beq_iff'.1 hb
      change cellsN ((cget es ds x).g L T) s (fun c => r' L T fun q => k (c :: q)) = true at h
      obtain ⟨c, h1, _, h2⟩ := cellsN_det h
      obtain ⟨rows, h3, h4, h5, h6⟩ := crows_inv hrec h1
      refine ⟨c :: rows, h3, by simp [h4], ?_, fun ρ a hop => ?_⟩
      · intro n p hp
        cases n with
        | zero => simp at hp; subst hp; simp [hb]
        | succ n => have := h5 n p (by simpa using hp); omega
      · obtain ⟨Ls, g1, g2, g3, g4⟩ := h2 ρ _ (hop (j, x) (by simp))
        exact ⟨Ls, _, by simp [g1], g2, g3, g4, h6 ρ a fun p hp => hop p (by simp [hp])⟩
    · cases hr
theorem fill_rows {ρ : Valn} {z n : Nat} {rows : List (List AV)} {Ls : List (List Value)} (hR : RowL ρ z rows Ls) {parts : List (Nat × Value)} (hLs : Ls = parts.map fun p => p.2.cells.toList) (hn : parts.length = n)
    (hi : ∀ (j : Nat) (p : Nat × Value), parts[j]? = some p → p.1 = j) {c : Array Value} (hc : c.size = n * z) :
    Instr.fill (fun i => some (i * z, z)) c parts = some (List.toArray Ls.flatten) := by
  obtain ⟨segs, s1, s2⟩ := chunks z n c.toList (by simpa using hc)
  have hsz : ∀ p ∈ parts, p.2.cells.size = z ∧ p.1 < n := by
    intro p hp
    obtain ⟨j, hj⟩ := List.getElem?_of_mem hp
    have hlt : j < parts.length := (List.getElem?_eq_some_iff.1 hj).1
    refine ⟨?_, by rw [hi j p hj]; omega⟩
    have hjr : j < rows.length := by rw [← hR.length, hLs, List.length_map]; exact hlt
    have : ∀ {rows : List (List AV)} {Ls : List (List Value)} {j : Nat} {X : List Value}, RowL ρ z rows Ls → Ls[j]? = some X → X.length = z := by
      intro rows
      induction rows with
      | nil => intro Ls j X h hX; cases h; simp at hX
      | cons r l ih =>
        rintro Ls j X ⟨Y, L', rfl, h1, h2, h3, h4⟩ hX
        cases j with
        | zero => simp at hX; subst hX; rw [h1.length, h2]
        | succ j => exact ih h4 (by simpa using hX)
    have := this (j := j) (X := p.2.cells.toList) hR (by rw [hLs, List.getElem?_map, hj]; rfl)
    simpa using this
  have hc' : c = List.toArray segs.flatten := by rw [s1]
  have hsl : segs.length = n := by
    have := congrArg List.length s2; simpa using this
  rw [hc', fill_segs (fun i => some (i * z, z)) (List.replicate n z) (fun i s hs => ?_) parts segs s2 (fun p hp => ?_)]
  · congr 2
    have : setSegs segs parts = Ls := by
      apply List.ext_getElem?
      intro j
      by_cases hj : j < n
      · rw [setSegs_get j parts segs (by omega)]
        have hjp : parts[j]? = some parts[j] := List.getElem?_eq_getElem (by omega)
        have := lastOf_enum (i := 0) (fun j p hp => by rw [hi j p hp]; omega) j _ hjp
        rw [Nat.zero_add] at this
        rw [this, hLs, List.getElem?_map, hjp]; rfl
      · rw [List.getElem?_eq_none (by rw [setSegs_length]; omega), List.getElem?_eq_none (by rw [hLs, List.length_map]; omega)]
    rw [this]
  · have hlt := (List.getElem?_eq_some_iff.1 hs).1
    rw [List.length_replicate] at hlt
    rw [offOf_replicate z n i (by omega)]
    rw [List.getElem?_replicate, if_pos hlt] at hs
    cases hs; rfl
  · rw [List.getElem?_replicate, if_pos (hsz p hp).2, (hsz p hp).1]
theorem cal_sound {o : Oper} {k : AObj → (Nat → AV) → Bool} (h : (cal P es ds o.op).f L T k = true) : ∃ ob vf, k ob vf = true ∧ ob.live = true ∧
    ∀ (ρ : Valn) (a : Act), (∀ x ∈ o.op.operands.toList, OpdOk ρ es ds L T a x) → ∃ obj κ Vf, NewOk ρ ob obj κ vf Vf ∧ ∀ w, (execOp a.eval o).run P w = .ok (.value (Vf w.heap.size)) (w.alloc obj) := by
  obtain ⟨dst, op, ty, pos, aft, gd⟩ := o
  simp only at h ⊢
  unfold cal at h
  split at h
  · rename_i el
    split at h
    · rename_i z n hz hs
      split at h
      · rename_i hl
        have hl := beq_iff'.1 hl
        obtain ⟨i, Z, Ls, h1, h2, h3, h4, h5, h6⟩ := zc_info hz
        refine ⟨_, _, h, rfl, fun ρ a hop => ⟨_, 0, _, newOk_var (Nat.succ_pos n) (h4 ρ) hl h5, fun w => ?_⟩⟩
        simp only [execOp, Sem.run_bind, Instr.alloc, h6, Result.andThen_ok, newVar, h3, run_newRow, Sem.run_pure]
      · exact absurd h Bool.false_ne_true
    · exact absurd h Bool.false_ne_true
  · rename_i el x
    split at h
    · rename_i g n hg hs
      change cellsN (g L T) (n + 1) (fun c => k (varObj el (n + 1) c) fun a => AV.ptr a 0 0 (n + 1)) = true at h
      obtain ⟨c, h1, _, h2⟩ := cellsN_det h
      refine ⟨_, _, h1, rfl, fun ρ a hop => ?_⟩
      have hx := hop x (by simp [Op.operands])
      unfold OpdOk at hx
      rw [hg] at hx
      obtain ⟨Ls, g1, g2, g3, g4⟩ := h2 ρ _ hx
      refine ⟨_, 0, _, newOk_var (Nat.succ_pos n) g2 g3 g4, fun w => ?_⟩
      simp only [execOp, Sem.run_bind, Instr.box, newVar, g1, run_newRow, Result.andThen_ok, Sem.run_pure]
    · exact absurd h Bool.false_ne_true
  · rename_i t n ps
    split at h
    · rename_i e hu
      split at h
      · rename_i s rs hs hrs
        split at h
        · rename_i r hok hr
          simp only [Bool.and_eq_true] at hok
          obtain ⟨⟨o1, o2⟩, o3⟩ := hok
          have o1 := beq_iff'.1 o1
          rw [ble_iff] at o2
          obtain ⟨rows, h1, h2, h3, h4⟩ := crows_inv hr h
          rw [putRows_eq] at h1
          have hn : rows.length = n := by rw [h2]; exact o1
          refine ⟨_, _, h1, rfl, fun ρ a hop => ?_⟩
          have hR := h4 ρ a fun p hp => hop p.2 (by simp only [Op.operands, List.mem_map]; exact ⟨p, hp, rfl⟩)
          have hcap := emptyRows_cap hrs
          have hn2 : n ≤ 2147483647 := by
            have : n * 1 ≤ n * (s + 1) := Nat.mul_le_mul_left n (by omega)
            omega
          refine ⟨_, 0, _, newOk_rows (Nat.succ_pos s) hR hn hcap (Nat.le_refl n) hn2, fun w => ?_⟩
          obtain ⟨zz, hzz⟩ := Option.isSome_iff_exists.1 o3
          obtain ⟨Z, hZ, hrun⟩ := run_zero hzz
          have hfill : ∀ c : Array Value, c.size = n * (s + 1) → Instr.fill (fun i => some (i * (s + 1), s + 1)) c ((ps.map fun p => (p.1, a.eval p.2)) : Array (Nat × Value)).toList =
              some (List.toArray (ps.toList.map fun p => (a.eval p.2).cells.toList).flatten) := by
            intro c hc
            refine fill_rows hR ?_ ?_ ?_ hc
            · simp
            · simp only [Array.toList_map, List.length_map]; exact o1
            · intro j p hp
              rw [Array.toList_map, List.getElem?_map] at hp
              cases hq : ps.toList[j]? with
              | none => rw [hq] at hp; cases hp
              | some q =>
                rw [hq] at hp
                cases hp
                have := h3 j q hq
                simpa using this
          have hs' : sizeT P e = some (s + 1) := hs
          simp only [execOp, Instr.buildSlice, Sem.run_bind, run_under hu, Result.andThen_ok, run_size hs']
          rw [if_neg (by omega)]
          by_cases hq : n * (s + 1) = 0
          · rw [if_pos hq]
            simp only [Sem.run_bind, Sem.run_pure, Result.andThen_ok]
            rw [hfill _ (by simp)]
            simp only [Sem.run_bind, run_newRow, Result.andThen_ok, Sem.run_pure]
          · rw [if_neg hq]
            simp only [Sem.run_bind, hrun, Sem.run_pure, Result.andThen_ok]
            rw [hfill _ (by simp)]
            simp only [Sem.run_bind, run_newRow, Result.andThen_ok, Sem.run_pure]
        · exact absurd h Bool.false_ne_true
      · exact absurd h Bool.false_ne_true
    · exact absurd h Bool.false_ne_true
  · rename_i t l c
    split at h
    · rename_i e hu
      split at h
      · rename_i s z b gl gc hs hz hb hgl hgc
        split at h
        · rename_i hok
          simp only [Bool.and_eq_true] at hok
          obtain ⟨o1, o2⟩ := hok
          have o1 := beq_iff'.1 o1
          rw [ble_iff] at o2
          obtain ⟨c1, n1, e1, g1⟩ := vInt_inv h
          obtain ⟨b1, g2⟩ := bIf_yes g1
          obtain ⟨b2, g3⟩ := bIf_yes g2
          obtain ⟨c2, n2, e2, g4⟩ := vInt_inv g3
          obtain ⟨b3, g5⟩ := bIf_yes g4
          obtain ⟨b4, g6⟩ := bIf_yes g5
          obtain ⟨b5, g7⟩ := bIf_yes g6
          rw [ble_iff] at b1 b3 b5
          rw [blt_iff] at b2 b4
          obtain ⟨rs, hcap, g8⟩ := withRows_inv g7
          rw [putRows_eq] at g8
          obtain ⟨i, Z, Ls, h1, h2, h3, h4, h5, h6⟩ := zc_info hz
          refine ⟨_, _, g8, rfl, fun ρ a hop => ?_⟩
          have hLl : Ls.length = s + 1 := by rw [(h4 ρ).length, o1]
          refine ⟨_, 0, _, newOk_rows (Nat.succ_pos s) (rowL_replicate (h4 ρ) o1 h5 n2) (by simp) hcap b5 (by omega), fun w => ?_⟩
          have val : ∀ (x : Operand) (g : List AV → TT → AV) (c n : Nat), cget es ds x = ⟨g⟩ → g L T = .int c n → n < 513 → 3 ≤ c → OpdOk ρ es ds L T a x → a.eval x = .int (ofKc c) n := by
            intro x g c n hg he hn hc hx
            unfold OpdOk at hx
            rw [hg] at hx
            simp only [he, VR] at hx
            obtain ⟨q1, q2, q3⟩ := hx
            rw [q3, sgn_small]
            rcases modOf_cases q1 with ⟨_, e, e'⟩ | ⟨_, e, e'⟩ | ⟨_, e, e'⟩ | ⟨_, e, e'⟩ | ⟨_, e, e'⟩ | ⟨_, e, e'⟩ | ⟨_, e, e'⟩ | ⟨_, e, e'⟩ <;> omega
          have v1 := val l gl c1 n1 hgl e1 b2 b1 (hop l (by simp [Op.operands]))
          have v2 := val c gc c2 n2 hgc e2 b4 b3 (hop c (by simp [Op.operands]))
          have hbytes : i.bytes = b := by
            unfold bytesT at hb; rw [pg_inf, h1] at hb; simpa using hb
          have wr : ∀ n : Nat, n < 513 → IntKind.i64.wrap (n : Int) = n := by
            intro n hn
            have := wrap_of_emod (c := 3) (r := n) (by decide) (by show n < 18446744073709551616; omega) (x := (n : Int)) (Int.emod_eq_of_lt (by omega) (by show (n : Int) < ((18446744073709551616 : Nat) : Int); omega))
            rw [sgn_small (by show n < 9223372036854775808; omega)] at this
            exact this
          have hbn : ∀ n : Nat, n < 513 → ¬ (((b : Int) * (n : Int)) > 2 ^ 48) := by
            intro n hn
            have : b * n ≤ 1000 * 513 := Nat.mul_le_mul o2 (by omega)
            rw [← Int.natCast_mul]
            omega
          have hs' : sizeT P e = some (s + 1) := hs
          simp only [execOp, v1, v2, Instr.makeSlice, Sem.run_bind, run_under hu, Result.andThen_ok, asInt, asIntOf_int, Sem.run_pure, typeInfo, run_program, h1, hbytes]
          rw [wr n1 b2, wr n2 b4]
          have hif : ¬ (((decide ((n2 : Int) < 0) || decide ((b : Int) * (n2 : Int) > 2 ^ 48)) || decide ((n1 : Int) < 0) || decide ((n1 : Int) > (n2 : Int))) = true) := by
            have := hbn n2 b4
            simp only [Bool.or_eq_true, decide_eq_true_eq]
            omega
          rw [if_neg hif]
          simp only [Sem.run_bind, run_askRoom, Result.andThen_ok, run_size hs', Int.toNat_natCast]
          by_cases hq : n2 * (s + 1) = 0
          · have hn0 : n2 = 0 := by
              rcases Nat.mul_eq_zero.1 hq with h | h <;> omega
            rw [if_pos hq]
            simp only [Sem.run_bind, run_newRow, Result.andThen_ok, Sem.run_pure]
            rw [hq, hn0, show Array.range 0 = #[] from rfl]; simp
          · rw [if_neg hq]
            have := range_map_zero (X := Ls) (n := n2) (by omega)
            rw [hLl] at this
            simp only [Sem.run_bind, h6, run_newRow, Result.andThen_ok, Sem.run_pure, h3, List.size_toArray, hLl, this]
        · exact absurd h Bool.false_ne_true
      · exact absurd h Bool.false_ne_true
    · exact absurd h Bool.false_ne_true
  · rename_i t
    split at h
    · refine ⟨_, _, h, rfl, fun ρ a hop => ⟨.map #[] 0, 0, fun b => .map (some b), ?_, fun w => ?_⟩⟩
      · intro ρ' w b aid hle hr hw
        exact ⟨⟨b, 0, #[], hr, hw, rfl⟩, by simp only [VR]; exact ⟨b, 0, hr, rfl⟩⟩
      · simp only [execOp, Instr.makeMap, Sem.run_bind, Option.map_none, run_newObj, Result.andThen_ok, Sem.run_pure]; rfl
    · exact absurd h Bool.false_ne_true
  · exact absurd h Bool.false_ne_true
end
end Go.Ev

namespace Go.Ev
open Go
set_option linter.unusedVariables false

section
variable {P : Program} {es : List Nat} {ds : List (Option Nat)} {L : List AV} {T : TT}
def OpOut (P : Program) (ρ : Valn) (H : Heap) (w : World) (s : Sem Next) (k : AV → Heap → Bool) : Prop :=
  ∃ ρ' H' v V w', k v H' = true ∧ VR ρ' v V ∧ Rel ρ' H' w' ∧ Step ρ H w ρ' H' w' ∧ (s.run P w = .ok (.value V) w' ∨ (s.run P w = .ok .skip w' ∧ V = undef))
def ValOut (P : Program) (ρ : Valn) (H : Heap) (w : World) (s : Sem Value) (k : AV → Heap → Bool) : Prop :=
  ∃ ρ' H' v V w', k v H' = true ∧ VR ρ' v V ∧ Rel ρ' H' w' ∧ Step ρ H w ρ' H' w' ∧ s.run P w = .ok V w'
theorem ValOut.op {ρ : Valn} {H : Heap} {w : World} {s : Sem Value} {k : AV → Heap → Bool} (h : ValOut P ρ H w s k) : OpOut P ρ H w (do pure (.value (← s))) k := by
  obtain ⟨ρ', H', v, V, w', h1, h2, h3, h4, h5⟩ := h
  exact ⟨ρ', H', v, V, w', h1, h2, h3, h4, .inl (by rw [Sem.run_bind, h5]; rfl)⟩
theorem OpOut.congr {ρ : Valn} {H : Heap} {w : World} {s s' : Sem Next} {k : AV → Heap → Bool} (h : OpOut P ρ H w s k) (e : s'.run P w = s.run P w) : OpOut P ρ H w s' k := by
  unfold OpOut at *; rw [e]; exact h

/-! ### what is copied or appended -/
structure SrcOk (P : Program) (w : World) (size : Nat) (Y : Value) (m : Nat) (news : List Value) : Prop where
  len : ∀ w', (Builtin.lenOf Y).run P w' = .ok m w'
  cells : ∀ w', w'.heap = w.heap → (Builtin.firstCells size m Y).run P w' = .ok (List.toArray news) w'
theorem srcRows_inv {z0 : Nat} {v : AV} {H : Heap} {k : Nat → List (List AV) → Bool} (h : srcRows z0 v H k = true) :
    ∃ m l, k m l = true ∧ l.length = m ∧ ∀ (ρ : Valn) (w : World) (V : Value), VR ρ v V → Rel ρ H w → ∃ Ls, RowL ρ z0 l Ls ∧ m ≤ 512 ∧ SrcOk P w z0 V m Ls.flatten ∧ ∃ a n c, V = .slice a n c := by
  unfold srcRows at h
  rcases vSliceN_inv h with ⟨e, h1⟩ | ⟨a, i, l, c, u, z, e, h1⟩
  · refine ⟨0, [], h1, rfl, fun ρ w V hV R => ⟨[], rfl, by omega, ?_, ?_⟩⟩
    all_goals
      rw [e] at hV
      simp only [VR, nilV] at hV
      subst hV
    · exact ⟨fun w' => rfl, fun w' _ => rfl⟩
    · exact ⟨_, _, _, rfl⟩
  · obtain ⟨q1, h2⟩ := bIf_yes h1
    have q1 := beq_iff'.1 q1
    rw [getO_eq] at h2
    obtain ⟨rs, n, z', el, u', ro, eo, h3⟩ := oCells_inv h2
    obtain ⟨q2, h4⟩ := bIf_yes h3
    obtain ⟨q3, h5⟩ := bIf_yes h4
    obtain ⟨q5, h5⟩ := bIf_yes h5
    rw [ble_iff] at q2 q5
    have q3 := beq_iff'.1 q3
    have h6 := rowsC_inv h5
    refine ⟨l, _, h6, Rows.range_length _ _ _, fun ρ w V hV R => ?_⟩
    rw [e] at hV
    simp only [VR] at hV
    obtain ⟨b, κ, v1, rfl, v2, v3, v4⟩ := hV
    have ho := R.obj a (VR.lt R v1)
    rw [eo] at ho
    obtain ⟨b', κ', cc, fz, o1, o2, o3, o4, o5, o6, o7⟩ := ho
    rw [v1] at o1
    cases o1
    obtain ⟨Ls, g1, g2⟩ := o6.range l i q2
    rw [← q3, q1] at g1
    have q2' : i + l ≤ n := q2
    refine ⟨Ls, g1, by omega, ⟨fun w' => rfl, fun w' hw => ?_⟩, _, _, _, rfl⟩
    have hl : Ls.flatten.length = l * z0 := by rw [g1.flat_length, Rows.range_length]
    refine run_firstCells_some w' z0 l _ l _ Ls.flatten hl fun j x hx => ?_
    rw [addr_add, cell_of_row w' b _ cc el fz (by rw [hw]; exact o2)]
    have hj : j < l * z' := by
      have := (List.getElem?_eq_some_iff.1 hx).1
      rw [hl] at this; rw [← q3, q1]; exact this
    rw [q3, g2 j hj]; exact hx
theorem byteRows_ok {ρ : Valn} : ∀ (l n : Nat), RowL ρ 1 (byteRows l n) ((strB l n).map fun b => [Value.int .u8 b.toNat])
  | 0, _ => rfl
  | l + 1, n => by
    refine ⟨[Value.int .u8 (UInt8.ofNat (n % 256)).toNat], _, rfl, VRs.cons ?_ VRs.nil, rfl, by simp [AV.isCell], byteRows_ok l (n / 256)⟩
    have hb : n % 256 < 256 := Nat.mod_lt _ (by decide)
    have := VR_int (ρ := ρ) (c := 4) (r := n % 256) (by decide) (by simpa [modOf] using hb)
    rw [sgn_small (by simpa [halfOf] using hb)] at this
    have e : (UInt8.ofNat (n % 256)).toNat = n % 256 := by simp only [UInt8.toNat_ofNat']; exact Nat.mod_eq_of_lt hb
    rw [e]; exact this
theorem byteRows_length : ∀ (l n : Nat), (byteRows l n).length = l
  | 0, _ => rfl
  | l + 1, n => by simp [byteRows, byteRows_length l]
theorem flatten_single {α β : Type} (f : α → β) : ∀ l : List α, (l.map fun b => [f b]).flatten = l.map f
  | [] => rfl
  | a :: l => by simp [flatten_single f l]
theorem src_string (w : World) (l n : Nat) : SrcOk P w 1 (.string ⟨(strB l n).toArray⟩) l (((strB l n).map fun b => [Value.int .u8 b.toNat]).flatten) := by
  refine ⟨fun w' => by simp [Builtin.lenOf, bs_size, strB_length], fun w' _ => ?_⟩
  rw [flatten_single]
  simp only [Builtin.firstCells, Sem.run_pure, bs_extract]
  congr 1
  have h : List.take l (strB l n) = strB l n := List.take_of_length_le (by rw [strB_length]; exact Nat.le_refl _)
  simp [h]

/-! ### append -/
theorem run_append_stay {t t' ty e : TypeId} {d' : TypeDesc} {size : Nat} (ht : P.underlying t = some (.slice e)) (ht' : P.underlying t' = some d') (hd : ∀ k, d' ≠ .int k) (hs : sizeT P e = some size)
    {base : Option Addr} {sLen sCap m : Nat} {Y : Value} {news : List Value} {w : World} (hY : SrcOk P w size Y m news) (hroom : sLen + m ≤ sCap) :
    (Builtin.append_ #[t, t'] ty #[.slice base sLen sCap, Y]).run P w = match base with
      | some a => ((storeCells (a.add (sLen * size)) news).run P w).andThen fun _ w' => .ok (.slice (some a) (sLen + m) sCap) w'
      | none => .ok (.slice none (sLen + m) sCap) w := by
  cases base with
  | none => simp [Builtin.append_, run_under ht, run_under ht', run_size hs, hY.len, hroom, hY.cells w rfl]
  | some a => simp [Builtin.append_, run_under ht, run_under ht', run_size hs, hY.len, hroom, hY.cells w rfl]
theorem run_append_new {t t' ty e : TypeId} {d' : TypeDesc} {i : TypeInfo} {z : Value} (ht : P.underlying t = some (.slice e)) (ht' : P.underlying t' = some d') (hd : ∀ k, d' ≠ .int k)
    (hi : P.info? e = some i) (hz : i.zero = some z) {base : Option Addr} {sLen sCap m : Nat} {Y : Value} {olds news : List Value} {w : World} (hY : SrcOk P w i.size Y m news)
    (hold : ∀ w', w'.heap = w.heap → (Builtin.firstCells i.size sLen (.slice base sLen sCap)).run P w' = .ok (List.toArray olds) w')
    (hroom : sCap < sLen + m) (h63 : ((sLen + m : Nat) : Int) ≤ 9223372036854775807) (hfit : Builtin.nextslicecap (sLen + m) sCap * i.bytes ≤ 281474976710656) :
    (Builtin.append_ #[t, t'] ty #[.slice base sLen sCap, Y]).run P w = .ok (.slice (some ⟨w.heap.size, 0, none⟩) (sLen + m) (grownCap w (sLen + m) sCap e))
      (w.drew.alloc (.cells (List.toArray (olds ++ news) ++ Builtin.zeroCells z.cells (grownCap w (sLen + m) sCap e - (sLen + m))) e)) := by
  have hn : ¬ (sLen + m ≤ sCap) := by omega
  have h63' : ¬ (9223372036854775807 < ((sLen : Int) + (m : Int))) := by omega
  have h48' : ¬ (281474976710656 < Builtin.nextslicecap (sLen + m) sCap * i.bytes) := by omega
  simp [Builtin.append_, run_under ht, run_under ht', sizeOf, typeInfo, zeroValue, hi, hz, hY.len, hn, h63', h48', Question.forced, hY.cells w.drew rfl, hold w.drew rfl, newRow, grownCap]
  congr 2
  apply Array.ext'
  simp [List.append_assoc]
/-- a new row of unknown room, with the elements that are known -/
theorem new_grown {ρ : Valn} {H : Heap} {w : World} (R : Rel ρ H w) {e z n : Nat} {l : List (List AV)} {Ls : List (List Value)} {rest : Array Value} {κ : Nat} (hz : 0 < z) (hl : RowL ρ z l Ls) (hn : l.length = n)
    (hb : n ≤ 2147483647) (hκ : n ≤ κ) (hsz : rest.size = (κ - n) * z) {k : AV → Heap → Bool} (h : newRows e z n l H k = true) {V : Value} (hV : V = .slice (some ⟨w.heap.size, 0, none⟩) n κ) :
    ∃ ρ' H' v, k v H' = true ∧ VR ρ' v V ∧ Rel ρ' H' (w.drew.alloc (.cells (List.toArray Ls.flatten ++ rest) e)) ∧ Step ρ H w ρ' H' (w.drew.alloc (.cells (List.toArray Ls.flatten ++ rest) e)) := by
  unfold newRows at h
  obtain ⟨rs, hcap, h1⟩ := withRows_inv h
  rw [putRows_eq] at h1
  have hnew : NewOk ρ (.cells (rs.setRows l 0) n z e true false) (.cells (List.toArray Ls.flatten ++ rest) e) κ (fun a => .slice a 0 n 0 true z) (fun b => .slice (some ⟨b, 0, none⟩) n κ) := by
    intro ρ' w b aid hle hr hw
    have hfl : Ls.flatten.length = n * z := by rw [hl.flat_length, hn]
    refine ⟨⟨b, κ, _, (0, 0), hr, hw, fun _ => rfl, hz, by rw [Rows.cap_setRows]; exact hcap, ?_, ?_⟩, by simp only [VR]; exact ⟨b, κ, hr, by simp, hb, by simpa using hκ, by simp⟩⟩
    · refine RowsR.setRows (n := 0) (c := #[]) RowsR.none (hl.mono hle) hcap (by omega) (fun r hr => .inr (by omega)) (fun k hk => ?_) (fun r j hr => by omega)
      rw [Nat.zero_mul, Nat.zero_add, Array.getElem?_append_left (by simp only [List.size_toArray]; rw [hl.flat_length]; exact hk)]
      simp
    · have hs : (List.toArray Ls.flatten ++ rest).size = κ * z := by
        simp only [Array.size_append, List.size_toArray, hfl, hsz, ← Nat.add_mul]
        congr 1; omega
      rw [if_pos rfl, hs]
      exact ⟨rfl, Nat.mul_le_mul_right z hκ⟩
  obtain ⟨ρ', H', g1, g2, g3, g4⟩ := alloc_step R.drew hnew h1
  subst hV
  exact ⟨ρ', H', _, g1, g2, g3, (Step.drew ρ H w).trans g4⟩
end
end Go.Ev

namespace Go.Ev
open Go
set_option linter.unusedVariables false

section
variable {P : Program} {es : List Nat} {ds : List (Option Nat)} {L : List AV} {T : TT}
theorem kill_get (H : Heap) {a a' : Nat} (ha : a < 32768) (h' : a' < 32768) : (H.put a .dead).get a' = if a' = a then .dead else H.get a' := Heap.get_put H a a' .dead ha h'
theorem kill_owns {ρ : Valn} {H : Heap} {a : Nat} (ha : a < 32768) {k : Nat} (h : Owns ρ (H.put a .dead) k) : Owns ρ H k := by
  obtain ⟨a', h', hl, κ, hr⟩ := h
  rw [kill_get H ha h'] at hl
  by_cases e : a' = a
  · rw [if_pos e] at hl; exact absurd hl Bool.false_ne_true
  · rw [if_neg e] at hl; exact ⟨a', h', hl, κ, hr⟩
theorem kill_rel {ρ : Valn} {H : Heap} {w : World} (R : Rel ρ H w) {a : Nat} (ha : a < 32768) : Rel ρ (H.put a .dead) w := by
  refine ⟨R.next, R.dom, fun a' h' => ?_, fun a1 a2 h1 h2 l1 l2 b κ κ' r1 r2 => ?_⟩
  · rw [kill_get H ha h']
    by_cases e : a' = a
    · rw [if_pos e]; trivial
    · rw [if_neg e]; exact R.obj a' h'
  · rw [kill_get H ha h1] at l1
    rw [kill_get H ha h2] at l2
    by_cases e1 : a1 = a
    · rw [if_pos e1] at l1; exact absurd l1 Bool.false_ne_true
    · by_cases e2 : a2 = a
      · rw [if_pos e2] at l2; exact absurd l2 Bool.false_ne_true
      · rw [if_neg e1] at l1
        rw [if_neg e2] at l2
        exact R.inj a1 a2 h1 h2 l1 l2 b κ κ' r1 r2
theorem kill_free {ρ : Valn} {H : Heap} {w : World} (R : Rel ρ H w) {a b κ : Nat} (ha : a < 32768) (hl : (H.get a).live = true) (hr : ρ a = some (b, κ)) : ¬ Owns ρ (H.put a .dead) b := by
  rintro ⟨a', h', hl', κ', hr'⟩
  rw [kill_get H ha h'] at hl'
  by_cases e : a' = a
  · rw [if_pos e] at hl'; exact absurd hl' Bool.false_ne_true
  · rw [if_neg e] at hl'
    exact e (R.inj a' a h' ha hl' hl b κ' κ hr' hr)
/-- an object is done with, and another stands for its row, or for a row that was made of it -/
theorem succeed_step {ρ : Valn} {H : Heap} {w w' : World} (R : Rel ρ H w) {a b κ b' κ' : Nat} {e z n : Nat} {rs : Rows} {c : Array Value} (ha : a < 32768) (hl : (H.get a).live = true) (hr : ρ a = some (b, κ))
    (hb : b' = b ∨ w.heap.size ≤ b') (hsz : w.heap.size ≤ w'.heap.size) (hk : ∀ k, k < w.heap.size → k ≠ b → w'.heap[k]? = w.heap[k]?) (ht : w'.tape = w.tape) (hos : w'.os = w.os) (hout : w'.output = w.output)
    (hw : w'.heap[b']? = some (.cells c e (0, 0))) (hz : 0 < z) (hn : n ≤ rs.cap) (hn2 : n ≤ 2147483647) (hrows : RowsR ρ rs n z c) (hc : c.size = κ' * z) (hnκ : n ≤ κ')
    {k : Nat → Heap → Bool} (h : newO (H.put a .dead) (.cells rs n z e true false) k = true) :
    ∃ ρ' H', k H.next H' = true ∧ VR ρ' (.slice H.next 0 n 0 true z) (.slice (some ⟨b', 0, none⟩) n κ') ∧ Rel ρ' H' w' ∧ Step ρ H w ρ' H' w' := by
  obtain ⟨h1, h2⟩ := newO_inv h
  have R1 := kill_rel R ha
  have hfree := kill_free R ha hl hr
  have hnone : ρ H.next = none := by
    cases h : ρ H.next with
    | none => rfl
    | some x => exact absurd (R.dom _ _ h) (Nat.lt_irrefl _)
  have hle : ρ.le (ρ.set H.next (b', κ')) := Valn.le_set _ hnone
  have hset : (ρ.set H.next (b', κ')) H.next = some (b', κ') := Valn.set_same _ _ _
  have ho : ObjR (ρ.set H.next (b', κ')) w' H.next (.cells rs n z e true false) := by
    refine ⟨b', κ', c, (0, 0), hset, hw, fun _ => rfl, hz, hn, hrows.mono hle, ?_⟩
    rw [if_pos rfl, hc]
    exact ⟨rfl, Nat.mul_le_mul_right z hnκ⟩
  have R2 : Rel (ρ.set H.next (b', κ')) _ w' := fresh_rel (H := H.put a .dead) (b := b') (κ := κ') R1 h1 hsz ?_ ?_ ho
  · refine ⟨_, _, h2, ?_, R2, Valn.le_set _ hnone, fun a' ha' => Valn.set_ne _ _ (by omega), by show H.next ≤ H.next + 1; omega, hsz, ?_, ?_, ?_, ht, hos, hout⟩
    · simp only [VR]
      exact ⟨b', κ', hset, by simp, hn2, by simpa using hnκ, by simp⟩
    · intro k' hk' hno
      exact hk k' hk' fun e => hno (by rw [e]; exact ⟨a, ha, hl, κ, hr⟩)
    · rintro k' ⟨a', h', hl', κ1, hr'⟩
      have get : ({ ((H.put a .dead).put H.next (.cells rs n z e true false)) with next := H.next + 1 } : Heap).get a' = if a' = H.next then .cells rs n z e true false else (H.put a .dead).get a' :=
        Heap.get_put (H.put a .dead) H.next a' _ h1 h'
      have hl2 := hl'
      rw [show (H.put a .dead).next = H.next from rfl] at hl2
      rw [get] at hl2
      by_cases e : a' = H.next
      · rw [e, hset] at hr'
        cases hr'
        rcases hb with hb | hb
        · rw [hb]; exact .inr ⟨a, ha, hl, κ, hr⟩
        · exact .inl hb
      · rw [if_neg e] at hl2
        rw [Valn.set_ne _ _ e] at hr'
        exact .inr (kill_owns ha ⟨a', h', hl2, κ1, hr'⟩)
    · intro x hx hd
      have hx' : x < 32768 := Nat.lt_of_lt_of_le hx R.next
      have get : ({ ((H.put a .dead).put H.next (.cells rs n z e true false)) with next := H.next + 1 } : Heap).get x = if x = H.next then .cells rs n z e true false else (H.put a .dead).get x :=
        Heap.get_put (H.put a .dead) H.next x _ h1 hx'
      have goal : (({ ((H.put a .dead).put H.next (.cells rs n z e true false)) with next := H.next + 1 } : Heap).get x).live = false := by
        rw [get, if_neg (by omega), kill_get H ha hx']
        by_cases e : x = a
        · rw [if_pos e]; rfl
        · rw [if_neg e]; exact hd
      exact goal
  · rcases hb with hb | hb
    · rw [hb]; exact .inr hfree
    · exact .inl hb
  · intro k' hk' ho'
    exact hk k' hk' fun e => hfree (e ▸ ho')
theorem mul_bound {n b q : Nat} (h : n * (b + 1) ≤ q) : n ≤ q := by
  have : n * 1 ≤ n * (b + 1) := Nat.mul_le_mul_left n (by omega)
  omega
theorem appendTo_sound {ρ : Valn} {H : Heap} {w : World} (R : Rel ρ H w) {t t' ty e : TypeId} {d' : TypeDesc} {i : TypeInfo} {Z : Value} {s b : Nat} (ht : P.underlying t = some (.slice e)) (ht' : P.underlying t' = some d') (hd : ∀ k, d' ≠ .int k)
    (hi : P.info? e = some i) (hz : i.zero = some Z) (hs : i.size = s + 1) (hb : i.bytes = b + 1) (hZ : Z.cells.size = s + 1) {x : AV} {X Y : Value} {m : Nat} {l : List (List AV)} {Ls : List (List Value)}
    (hx : VR ρ x X) (hl : RowL ρ (s + 1) l Ls) (hm : l.length = m) (hm2 : m ≤ 2147483647) (hY : SrcOk P w (s + 1) Y m Ls.flatten) {k : AV → Heap → Bool} (h : appendTo e (s + 1) (b + 1) x m l H k = true) :
    ValOut P ρ H w (Builtin.append_ #[t, t'] ty #[X, Y]) k := by
  have hsize : sizeT P e = some (s + 1) := by simp [sizeT, pg_inf, hi, hs]
  have hfl : Ls.flatten.length = m * (s + 1) := by rw [hl.flat_length, hm]
  have hY' : SrcOk P w i.size Y m Ls.flatten := by rw [hs]; exact hY
  unfold appendTo at h
  rcases vSliceN_inv h with ⟨e0, h1⟩ | ⟨a, i0, len, c, u, z', e0, h1⟩
  · rw [e0] at hx
    simp only [VR, nilV] at hx
    subst hx
    rcases bIf_inv h1 with ⟨q, h2⟩ | ⟨q, h2⟩
    · have q := beq_iff'.1 q
      subst q
      refine ⟨ρ, H, .nil .s, .slice none 0 0, w, h2, by simp only [VR, nilV], R, Step.refl _ _ _, ?_⟩
      have := run_append_stay (base := none) (sLen := 0) (sCap := 0) (ty := ty) ht ht' hd hsize hY (by omega)
      exact this
    · have q := beq_not q
      obtain ⟨q2, h3⟩ := bIf_yes h2
      rw [ble_iff] at q2
      have hfit : m * (b + 1) ≤ 100000 := q2
      have hm3 := mul_bound hfit
      have hrun := run_append_new (base := none) (sLen := 0) (sCap := 0) (olds := []) (ty := ty) ht ht' hd hi hz hY' (fun w' _ => rfl) (by omega) (by omega) (growslice_fits (by omega) (by rw [Nat.zero_add, hb]; omega))
      simp only [Nat.zero_add, List.nil_append] at hrun
      obtain ⟨ρ', H', v, g1, g2, g3, g4⟩ := new_grown R (Nat.succ_pos s) hl hm hm2 (grownCap_ge w m 0 e) (by rw [size_zeroCells, hZ]) h3 rfl
      exact ⟨ρ', H', v, _, _, g1, g2, g3, g4, hrun⟩
  · rw [e0] at hx
    simp only [VR] at hx
    obtain ⟨bl, κ, v1, rfl, v2, v3, v4⟩ := hx
    have ha := VR.lt R v1
    have ho := R.obj a ha
    rw [getO_eq] at h1
    obtain ⟨rs, n, z'', el, u', ro, eo, h2⟩ := oCells_inv h1
    obtain ⟨q1, h3⟩ := bIf_no h2
    obtain ⟨q2, h4⟩ := bIf_yes h3
    obtain ⟨q3, h5⟩ := bIf_yes h4
    obtain ⟨q4, h6⟩ := bIf_yes h5
    rw [forceNat_eq] at h6
    obtain ⟨q5, h7⟩ := bIf_yes h6
    have q2 := beq_iff'.1 q2
    have q3 := beq_iff'.1 q3
    have q4 := beq_iff'.1 q4
    rw [ble_iff] at q5
    have q5 : (len + m) * (b + 1) ≤ 100000 := q5
    have hnl := mul_bound q5
    clear h h1 h2 h3 h4 h5 h6
    subst q1
    subst q2
    subst q3
    subst q4
    have hlive : (H.get a).live = true := by rw [eo]; rfl
    rw [eo] at ho
    obtain ⟨bl', κ', cc, fz, o1, o2, o3, o4, o5, o6, o7⟩ := ho
    rw [v1] at o1
    cases o1
    rw [o3 rfl] at o2
    have hgrow : ∀ sCap, sCap < len + m → Builtin.nextslicecap (len + m) sCap * i.bytes ≤ 281474976710656 := fun sCap h => growslice_fits h (by rw [hb]; omega)
    rcases bIf_inv h7 with ⟨hu, h8⟩ | ⟨hu, h8⟩
    · subst hu
      simp only [if_true] at v3 v4
      obtain ⟨hu', h9⟩ := bIf_yes h8
      subst hu'
      simp only [if_true] at o7
      obtain ⟨p1, h10⟩ := bIf_yes h9
      obtain ⟨p2, h11⟩ := bIf_yes h10
      obtain ⟨p3, h12⟩ := bIf_yes h11
      have p1 := beq_iff'.1 p1
      have p2 := beq_iff'.1 p2
      have p3 := beq_iff'.1 p3
      clear h7 h8 h9 h10 h11
      subst p1
      subst p2
      subst p3
      obtain ⟨rs', h13, g1, g2, g3⟩ := grow_inv h12
      rw [putRows_eq, putO_eq] at h13
      have hrs' : RowsR ρ rs' len (s + 1) cc := fun r hr => by
        obtain ⟨X', x1, x2, x3, x4⟩ := o6 r hr
        rw [g3 r (by omega)]
        exact ⟨X', x1, x2, x3, x4⟩
      have hcap' : len + m ≤ (rs'.setRows l len).cap := by rw [Rows.cap_setRows]; exact g1
      by_cases hroom : len + m ≤ κ
      · have hfit : 0 + len * (s + 1) + Ls.flatten.length ≤ cc.size := by
          rw [hfl, o7.1, Nat.zero_add, ← Nat.add_mul]; exact Nat.mul_le_mul_right _ hroom
        have hst := run_storeCells_at P bl (0 + len * (s + 1)) el Ls.flatten 0 cc w o2 (by simpa using hfit) hl.oneCells
        simp only [Nat.add_zero] at hst
        have hrun := run_append_stay (base := some ⟨bl, 0 * (s + 1), none⟩) (sLen := len) (sCap := κ - 0) (ty := ty) ht ht' hd hsize hY (by omega)
        simp only [addr_add, Nat.zero_mul] at hrun
        rw [hst] at hrun
        simp only [Result.andThen_ok] at hrun
        generalize hc' : (List.toArray (cc.toList.take (0 + len * (s + 1)) ++ Ls.flatten ++ cc.toList.drop (0 + len * (s + 1) + Ls.flatten.length))) = c' at *
        have hget : ∀ q, c'[q]? = if 0 + len * (s + 1) ≤ q ∧ q < 0 + len * (s + 1) + Ls.flatten.length then Ls.flatten[q - (0 + len * (s + 1))]? else cc[q]? := by
          intro q
          rw [← hc', List.getElem?_toArray, seg_get _ _ _ _ (by simpa using hfit)]; simp
        have hsz' : c'.size = cc.size := by
          rw [← hc']
          simp only [List.size_toArray, List.length_append, List.length_take, List.length_drop, Array.length_toList]; omega
        have hrows : RowsR ρ (rs'.setRows l len) (len + m) (s + 1) c' := by
          refine RowsR.setRows hrs' hl g1 (by omega) (fun r hr => by omega) (fun q hq => ?_) (fun r j hr hj hq => ?_)
          · rw [hget, if_pos (by rw [hfl]; rw [hm] at hq; omega)]
            congr 1; omega
          · have := idx_lt hj hr
            rw [hget, if_neg (by omega)]
        obtain ⟨ρ', H', k1, k2, k3, k4⟩ := succeed_step R (b' := bl) (κ' := κ) ha hlive v1 (.inl rfl) (by rw [setRow_size]; exact Nat.le_refl _) (fun q _ hq => setRow_other w bl q c' hq) rfl rfl rfl
          (setRow_heap w bl cc c' el (0, 0) o2) (Nat.succ_pos s) hcap' (by omega) hrows (by rw [hsz', o7.1]) hroom h13
        exact ⟨ρ', H', _, _, _, k1, k2, k3, k4, by simpa using hrun⟩
      · obtain ⟨Lo, r1, r2⟩ := o6.range len 0 (by omega)
        have hLo : Lo.flatten.length = len * (s + 1) := by rw [r1.flat_length, Rows.range_length]
        have hold : ∀ w', w'.heap = w.heap → (Builtin.firstCells i.size len (.slice (some ⟨bl, 0 * (s + 1), none⟩) len (κ - 0))).run P w' = .ok (List.toArray Lo.flatten) w' := by
          intro w' hw
          refine run_firstCells_some w' i.size len _ len _ Lo.flatten (by rw [hs, hLo]) fun j x hx => ?_
          rw [addr_add, cell_of_row w' bl _ cc el (0, 0) (by rw [hw]; exact o2), r2 j (by rw [← hLo]; exact (List.getElem?_eq_some_iff.1 hx).1)]
          exact hx
        have hrun := run_append_new (base := some ⟨bl, 0 * (s + 1), none⟩) (sLen := len) (sCap := κ - 0) (ty := ty) ht ht' hd hi hz hY' hold (by omega) (by omega) (hgrow _ (by omega))
        have hge := grownCap_ge w (len + m) (κ - 0) el
        generalize grownCap w (len + m) (κ - 0) el = cap at *
        have hflat : (Lo.flatten ++ Ls.flatten).length = (len + m) * (s + 1) := by rw [List.length_append, hLo, hfl, Nat.add_mul]
        have hrows : RowsR ρ (rs'.setRows l len) (len + m) (s + 1) (List.toArray (Lo.flatten ++ Ls.flatten) ++ Builtin.zeroCells Z.cells (cap - (len + m))) := by
          refine RowsR.setRows hrs' hl g1 (by omega) (fun r hr => by omega) (fun q hq => ?_) (fun r j hr hj hq => ?_)
          · rw [hm] at hq
            rw [Array.getElem?_append_left (by simp only [List.size_toArray, hflat, Nat.add_mul]; omega), List.getElem?_toArray, List.getElem?_append_right (by omega), hLo]
            congr 1; omega
          · have := idx_lt hj hr
            rw [Array.getElem?_append_left (by simp only [List.size_toArray, hflat, Nat.add_mul]; omega), List.getElem?_toArray, List.getElem?_append_left (by omega)]
            have := r2 (r * (s + 1) + j) (by omega)
            rw [Nat.zero_mul, Nat.zero_add] at this
            exact this.symm
        have hcs : (List.toArray (Lo.flatten ++ Ls.flatten) ++ Builtin.zeroCells Z.cells (cap - (len + m))).size = cap * (s + 1) := by
          simp only [Array.size_append, List.size_toArray, hflat, size_zeroCells, hZ, ← Nat.add_mul]
          congr 1; omega
        obtain ⟨ρ', H', k1, k2, k3, k4⟩ := succeed_step R (b' := w.heap.size) (κ' := cap) (w' := w.drew.alloc (.cells (List.toArray (Lo.flatten ++ Ls.flatten) ++ Builtin.zeroCells Z.cells (cap - (len + m))) el)) ha hlive v1 (.inr (Nat.le_refl _))
          (by rw [World.size_alloc]; simp) (fun q hq _ => heap_alloc_lt w.drew _ hq) rfl rfl rfl
          (heap_alloc_at w.drew _) (Nat.succ_pos s) hcap' (by omega) hrows hcs hge h13
        exact ⟨ρ', H', _, _, _, k1, k2, k3, k4, hrun⟩
    · subst hu
      simp only [Bool.false_eq_true, if_false] at v3 v4
      obtain ⟨hu', h9⟩ := bIf_no h8
      subst hu'
      simp only [Bool.false_eq_true, if_false] at o7
      rcases bIf_inv h9 with ⟨p1, h10⟩ | ⟨p1, h10⟩
      · rw [ble_iff] at p1
        have p1 : len + m ≤ c := p1
        obtain ⟨p2, h11⟩ := bIf_yes h10
        rw [ble_iff] at p2
        have p2 : i0 + (len + m) ≤ n := p2
        rw [putRows_eq, putO_eq] at h11
        have hle : (i0 + (len + m)) * (s + 1) ≤ n * (s + 1) := Nat.mul_le_mul_right _ p2
        have hfit : i0 * (s + 1) + len * (s + 1) + Ls.flatten.length ≤ cc.size := by
          rw [hfl, o7, Nat.add_assoc, ← Nat.add_mul, ← Nat.add_mul]; exact hle
        have hst := run_storeCells_at P bl (i0 * (s + 1) + len * (s + 1)) el Ls.flatten 0 cc w o2 (by simpa using hfit) hl.oneCells
        simp only [Nat.add_zero] at hst
        have hrun := run_append_stay (base := some ⟨bl, i0 * (s + 1), none⟩) (sLen := len) (sCap := c) (ty := ty) ht ht' hd hsize hY p1
        simp only [addr_add] at hrun
        rw [hst] at hrun
        simp only [Result.andThen_ok] at hrun
        generalize hc' : (List.toArray (cc.toList.take (i0 * (s + 1) + len * (s + 1)) ++ Ls.flatten ++ cc.toList.drop (i0 * (s + 1) + len * (s + 1) + Ls.flatten.length))) = c' at *
        have hget : ∀ q, c'[q]? = if i0 * (s + 1) + len * (s + 1) ≤ q ∧ q < i0 * (s + 1) + len * (s + 1) + Ls.flatten.length then Ls.flatten[q - (i0 * (s + 1) + len * (s + 1))]? else cc[q]? := by
          intro q
          rw [← hc', List.getElem?_toArray, seg_get _ _ _ _ (by simpa using hfit)]; simp
        have hsz' : c'.size = cc.size := by
          rw [← hc']
          simp only [List.size_toArray, List.length_append, List.length_take, List.length_drop, Array.length_toList]; omega
        have hmul : (i0 + len) * (s + 1) = i0 * (s + 1) + len * (s + 1) := Nat.add_mul _ _ _
        have hrows : RowsR ρ (rs.setRows l (i0 + len)) n (s + 1) c' := by
          refine RowsR.setRows o6 hl o5 (by omega) (fun r hr => .inl hr) (fun q hq => ?_) (fun r j hr hj hq => ?_)
          · rw [hm] at hq
            rw [hget, if_pos (by rw [hfl, hmul]; omega), hmul]
            congr 1; omega
          · rw [hget, if_neg ?_]
            rcases hq with hq | hq
            · have := idx_lt hj hq
              omega
            · have hq' : (i0 + len + m) * (s + 1) ≤ r * (s + 1) := Nat.mul_le_mul_right _ (by omega)
              rw [Nat.add_mul, Nat.add_mul] at hq'
              rw [hfl]; omega
        obtain ⟨k2, k3⟩ := put_rel R ha hlive v1 (o := .cells (rs.setRows l (i0 + len)) n (s + 1) el false false) (w' := w.setRow bl c') (setRow_size _ _ _) (fun q hq => setRow_other w bl q c' hq) rfl rfl rfl
          ⟨bl, κ, c', (0, 0), v1, setRow_heap w bl cc c' el (0, 0) o2, fun _ => rfl, o4, by rw [Rows.cap_setRows]; exact o5, hrows, by rw [hsz']; exact o7⟩
        refine ⟨ρ, _, _, _, _, h11, ?_, k2, k3, hrun⟩
        simp only [VR]
        exact ⟨bl, κ, v1, rfl, by show len + m ≤ _; omega, p1, v4⟩
      · have p1 : c < len + m := ble_not p1
        obtain ⟨p2, h11⟩ := bIf_yes h10
        rw [ble_iff] at p2
        have p2 : i0 + len ≤ n := p2
        have h12 := rowsC_inv h11
        rw [appC_eq] at h12
        obtain ⟨Lo, r1, r2⟩ := o6.range len i0 p2
        have hLo : Lo.flatten.length = len * (s + 1) := by rw [r1.flat_length, Rows.range_length]
        have hold : ∀ w', w'.heap = w.heap → (Builtin.firstCells i.size len (.slice (some ⟨bl, i0 * (s + 1), none⟩) len c)).run P w' = .ok (List.toArray Lo.flatten) w' := by
          intro w' hw
          refine run_firstCells_some w' i.size len _ len _ Lo.flatten (by rw [hs, hLo]) fun j x hx => ?_
          rw [addr_add, cell_of_row w' bl _ cc el (0, 0) (by rw [hw]; exact o2), r2 j (by rw [← hLo]; exact (List.getElem?_eq_some_iff.1 hx).1)]
          exact hx
        have hrun := run_append_new (base := some ⟨bl, i0 * (s + 1), none⟩) (sLen := len) (sCap := c) (ty := ty) ht ht' hd hi hz hY' hold p1 (by omega) (hgrow _ p1)
        have hR := r1.append hl
        rw [← List.flatten_append] at hrun
        obtain ⟨ρ', H', v, g1, g2, g3, g4⟩ := new_grown R (Nat.succ_pos s) hR (by rw [List.length_append, Rows.range_length, hm]) (by omega) (grownCap_ge w (len + m) c el) (by rw [size_zeroCells, hZ]) h12 rfl
        exact ⟨ρ', H', v, _, _, g1, g2, g3, g4, hrun⟩
end
end Go.Ev

namespace Go.Ev
open Go
set_option linter.unusedVariables false

section
variable {P : Program} {es : List Nat} {ds : List (Option Nat)} {L : List AV} {T : TT}
theorem zc_size {e : TypeId} {q : Nat} (h : (zc P e).map (·.length) = some q) : ∃ (i : TypeInfo) (Z : Value), P.info? e = some i ∧ i.zero = some Z ∧ Z.cells.size = q := by
  cases hz : zc P e with
  | none => rw [hz] at h; cases h
  | some l =>
    rw [hz] at h
    obtain ⟨i, Z, Ls, h1, h2, h3, h4, h5, h6⟩ := zc_info hz
    refine ⟨i, Z, h1, h2, ?_⟩
    have := (h4 fun _ => none).length
    simp only [Option.map_some, Option.some.injEq] at h
    rw [h3, List.size_toArray, this, h]
theorem cappend_sound {ρ : Valn} {H : Heap} {w : World} (R : Rel ρ H w) {call : CallK} {t t' ty : TypeId} {gx gy : Get} {X Y : Value} {k kp : AV → Heap → Bool} (h : (cappend P t t' gx gy).f call L T H k kp = true)
    (hx : VR ρ (gx.g L T) X) (hy : VR ρ (gy.g L T) Y) : ValOut P ρ H w (Builtin.append_ #[t, t'] ty #[X, Y]) k := by
  obtain ⟨gx⟩ := gx
  obtain ⟨gy⟩ := gy
  simp only at hx hy
  unfold cappend at h
  simp only at h
  split at h
  · rename_i e hu
    split at h
    · rename_i s b q hs hb hq
      obtain ⟨i, Z, z1, z2, z3⟩ := zc_size hq
      have hsz : i.size = s + 1 := by unfold sizeT at hs; rw [pg_inf, z1] at hs; simpa using hs
      have hby : i.bytes = b + 1 := by unfold bytesT at hb; rw [pg_inf, z1] at hb; simpa using hb
      split at h
      · rename_i t2 hq1 hu2
        split at h
        · rename_i htt
          have hq1 := beq_iff'.1 hq1
          change srcRows (s + 1) (gy L T) H (fun m l => appendTo e (s + 1) (b + 1) (gx L T) m l H k) = true at h
          obtain ⟨m, l, h1, h2, h3⟩ := srcRows_inv h
          obtain ⟨Ls, g1, g2, g3, _⟩ := h3 ρ w Y hy R
          exact appendTo_sound R hu hu2 (by simp) z1 z2 hsz hby (z3.trans hq1) hx g1 h2 (by omega) g3 h1
        · exact absurd h Bool.false_ne_true
      · rename_i hq1 hu2
        have hq1 := beq_iff'.1 hq1
        split at h
        · rename_i hu3
          obtain ⟨l, n, e1, h1⟩ := vStr_inv h
          obtain ⟨h2, h3⟩ := bIf_yes h1
          rw [ble_iff] at h2
          rw [e1] at hy
          simp only [VR] at hy
          obtain ⟨_, rfl⟩ := hy
          exact appendTo_sound R hu hu2 (by simp) z1 z2 hsz hby (z3.trans hq1) hx (byteRows_ok l n) (byteRows_length l n) (by omega) (src_string w l n) h3
        · exact absurd h Bool.false_ne_true
      · exact absurd h Bool.false_ne_true
    · exact absurd h Bool.false_ne_true
  · exact absurd h Bool.false_ne_true

/-! ### rows written into an object that stands -/
theorem write_rows {ρ : Valn} {H : Heap} {w : World} (R : Rel ρ H w) {a b κ n z el i m : Nat} {rs : Rows} {u : Bool} {l : List (List AV)} {Ls : List (List Value)} (ha : a < 32768) (eo : H.get a = .cells rs n z el u false) (hr : ρ a = some (b, κ))
    (hl : RowL ρ z l Ls) (hm : l.length = m) (hi : i + m ≤ n) :
    ∃ w', (storeCells ⟨b, i * z, none⟩ Ls.flatten).run P w = .ok () w' ∧ Rel ρ (H.put a (.cells (rs.setRows l i) n z el u false)) w' ∧ Step ρ H w ρ (H.put a (.cells (rs.setRows l i) n z el u false)) w' := by
  have hlive : (H.get a).live = true := by rw [eo]; rfl
  have ho := R.obj a ha
  rw [eo] at ho
  obtain ⟨b', κ', cc, fz, o1, o2, o3, o4, o5, o6, o7⟩ := ho
  rw [hr] at o1
  cases o1
  rw [o3 rfl] at o2
  have hfl : Ls.flatten.length = m * z := by rw [hl.flat_length, hm]
  have hle : (i + m) * z ≤ n * z := Nat.mul_le_mul_right _ hi
  rw [Nat.add_mul] at hle
  have hn : n * z ≤ cc.size := by
    cases u with
    | true => simp only [if_true] at o7; exact o7.2
    | false => simp only [Bool.false_eq_true, if_false] at o7; omega
  have hfit : i * z + Ls.flatten.length ≤ cc.size := by rw [hfl]; omega
  have hst := run_storeCells_at P b (i * z) el Ls.flatten 0 cc w o2 (by simpa using hfit) hl.oneCells
  simp only [Nat.add_zero] at hst
  generalize hc' : (List.toArray (cc.toList.take (i * z) ++ Ls.flatten ++ cc.toList.drop (i * z + Ls.flatten.length))) = c' at *
  have hget : ∀ q, c'[q]? = if i * z ≤ q ∧ q < i * z + Ls.flatten.length then Ls.flatten[q - i * z]? else cc[q]? := by
    intro q
    rw [← hc', List.getElem?_toArray, seg_get _ _ _ _ (by simpa using hfit)]; simp
  have hsz' : c'.size = cc.size := by
    rw [← hc']
    simp only [List.size_toArray, List.length_append, List.length_take, List.length_drop, Array.length_toList]; omega
  have hrows : RowsR ρ (rs.setRows l i) n z c' := by
    refine RowsR.setRows o6 hl o5 (by omega) (fun r hr => .inl hr) (fun q hq => ?_) (fun r j hr hj hq => ?_)
    · rw [hm] at hq
      rw [hget, if_pos (by rw [hfl]; omega)]
      congr 1; omega
    · rw [hget, if_neg ?_]
      rcases hq with hq | hq
      · have := idx_lt hj hq
        omega
      · have hq' : (i + m) * z ≤ r * z := Nat.mul_le_mul_right _ (by omega)
        rw [Nat.add_mul] at hq'
        rw [hfl]; omega
  obtain ⟨k2, k3⟩ := put_rel R ha hlive hr (o := .cells (rs.setRows l i) n z el u false) (w' := w.setRow b c') (setRow_size _ _ _) (fun q hq => setRow_other w b q c' hq) rfl rfl rfl
    ⟨b, κ, c', (0, 0), hr, setRow_heap w b cc c' el (0, 0) o2, fun _ => rfl, o4, by rw [Rows.cap_setRows]; exact o5, hrows, by rw [hsz']; exact o7⟩
  exact ⟨_, hst, k2, k3⟩
theorem ccopy_sound {ρ : Valn} {H : Heap} {w : World} (R : Rel ρ H w) {call : CallK} {t t' ty : TypeId} {gx gy : Get} {X Y : Value} {k kp : AV → Heap → Bool} (h : (ccopy P t t' gx gy).f call L T H k kp = true)
    (hx : VR ρ (gx.g L T) X) (hy : VR ρ (gy.g L T) Y) : ValOut P ρ H w (Builtin.copy_ #[t, t'] ty #[X, Y]) k := by
  obtain ⟨gx⟩ := gx
  obtain ⟨gy⟩ := gy
  simp only at hx hy
  unfold ccopy at h
  simp only at h
  split at h
  · rename_i e e' hu hu'
    split at h
    · rename_i s hs hee
      obtain ⟨a, i, len, c, u, z, e0, h1⟩ := vSlice_inv h
      rw [e0] at hx
      simp only [VR] at hx
      obtain ⟨b, κ, v1, rfl, v2, v3, v4⟩ := hx
      obtain ⟨m, l, h2, hm, h3⟩ := srcRows_inv (P := P) h1
      obtain ⟨Ls, g1, g2, g3, _⟩ := h3 ρ w Y hy R
      have ha := VR.lt R v1
      rw [getO_eq] at h2
      obtain ⟨rs, n, z', el, u', ro, eo, h4⟩ := oCells_inv h2
      obtain ⟨q1, h5⟩ := bIf_no h4
      obtain ⟨q2, h6⟩ := bIf_yes h5
      obtain ⟨q3, h7⟩ := bIf_yes h6
      obtain ⟨q4, h8⟩ := bIf_yes h7
      obtain ⟨q5, h9⟩ := bIf_yes h8
      have q2 := beq_iff'.1 q2
      have q3 := beq_iff'.1 q3
      rw [ble_iff] at q4 q5
      rw [putRows_eq, putO_eq] at h9
      subst q1
      rw [← q2] at eo
      rw [← q3] at g1
      obtain ⟨w', k1, k2, k3⟩ := write_rows (P := P) R ha eo v1 g1 hm q5
      refine ⟨ρ, _, .int 3 m, .int .i64 m, w', h9, VR_i64 (by omega), k2, k3, ?_⟩
      have hmin : Nat.min m len = m := Nat.min_eq_left q4
      have hs' : sizeT P e = some (s + 1) := hs
      simp only [Builtin.copy_, List.getElem?_toArray, List.getElem?_cons_zero, List.getElem?_cons_succ, Sem.run_bind, run_under hu, Result.andThen_ok, g3.len, hmin, run_size hs', g3.cells w rfl, k1, Sem.run_pure, goInt]
    · exact absurd h Bool.false_ne_true
  · exact absurd h Bool.false_ne_true
theorem zeroCells_eq {Z : Value} {X : List Value} (hZ : Z.cells = List.toArray X) (hX : 0 < X.length) (n : Nat) : (Builtin.zeroCells Z.cells n).toList = (List.replicate n X).flatten := by
  rw [hZ]
  have := range_map_zero (X := X) (n := n) hX
  unfold Builtin.zeroCells
  rw [List.size_toArray, this]
theorem cclear_sound {ρ : Valn} {H : Heap} {w : World} (R : Rel ρ H w) {call : CallK} {t ty : TypeId} {gx : Get} {X : Value} {k kp : AV → Heap → Bool} (h : (cclear P t gx).f call L T H k kp = true)
    (hx : VR ρ (gx.g L T) X) : ValOut P ρ H w (Builtin.clear_ #[t] ty #[X]) k := by
  obtain ⟨gx⟩ := gx
  simp only at hx
  unfold cclear at h
  simp only at h
  split at h
  · rename_i e hu
    split at h
    · rename_i s zv hs hz
      split at h
      · rename_i hl
        have hl := beq_iff'.1 hl
        obtain ⟨ii, Z, Ls, z1, z2, z3, z4, z5, z6⟩ := zc_info hz
        obtain ⟨a, i, len, c, u, z, e0, h1⟩ := vSlice_inv h
        rw [e0] at hx
        simp only [VR] at hx
        obtain ⟨b, κ, v1, rfl, v2, v3, v4⟩ := hx
        have ha := VR.lt R v1
        rw [getO_eq] at h1
        obtain ⟨rs, n, z', el, u', ro, eo, h4⟩ := oCells_inv h1
        obtain ⟨q1, h5⟩ := bIf_no h4
        obtain ⟨q2, h6⟩ := bIf_yes h5
        obtain ⟨q3, h7⟩ := bIf_yes h6
        obtain ⟨q4, h8⟩ := bIf_yes h7
        obtain ⟨q5, h9⟩ := bIf_yes h8
        have q2 := beq_iff'.1 q2
        have q3 := beq_iff'.1 q3
        rw [ble_iff] at q4 q5
        rw [putRows_eq, putO_eq] at h9
        subst q1
        rw [← q2] at eo
        have hLs : Ls.length = s + 1 := by rw [(z4 ρ).length, hl]
        obtain ⟨w', k1, k2, k3⟩ := write_rows (P := P) R ha eo v1 (rowL_replicate (z4 ρ) (hl.trans q3.symm) z5 len) (by simp) q4
        refine ⟨ρ, _, .undef, undef, w', h9, VR_undef, k2, k3, ?_⟩
        cases len with
        | zero =>
          simp only [List.replicate_zero, List.flatten_nil, storeCells, Sem.run_pure, Result.ok.injEq] at k1
          have := k1.2
          subst this
          simp only [Builtin.clear_, List.getElem?_toArray, List.getElem?_cons_zero, Sem.run_bind, run_under hu, Result.andThen_ok, Sem.run_pure]
          rfl
        | succ len =>
          have hzc := zeroCells_eq z3 (by omega) (len + 1)
          simp only [Builtin.clear_, List.getElem?_toArray, List.getElem?_cons_zero, Sem.run_bind, run_under hu, Result.andThen_ok, z6, hzc, k1, Sem.run_pure]
          rfl
      · exact absurd h Bool.false_ne_true
    · exact absurd h Bool.false_ne_true
  · exact absurd h Bool.false_ne_true
end
end Go.Ev

namespace Go.Ev
open Go
set_option linter.unusedVariables false

section
variable {P : Program} {es : List Nat} {ds : List (Option Nat)} {L : List AV} {T : TT}
/-! ### strings and bytes -/
theorem strB_cons (b : UInt8) (len num : Nat) : strB (len + 1) (b.toNat + 256 * num) = b :: strB len num := by
  have hb : b.toNat < 256 := b.toNat_lt
  have h1 : (b.toNat + 256 * num) % 256 = b.toNat := by omega
  have h2 : (b.toNat + 256 * num) / 256 = num := by omega
  simp only [strB, h1, h2]
  simp
theorem rowsStr_inv : ∀ {l : List (List AV)} {k : Nat → Nat → Bool}, rowsStr l k = true → ∃ num, k l.length num = true ∧ ∀ (ρ : Valn) (Ls : List (List Value)), RowL ρ 1 l Ls →
    Ls.flatten = (strB l.length num).map fun b => Value.int .u8 b.toNat
  | [], k, h => ⟨0, h, fun ρ Ls hR => by cases hR; rfl⟩
  | r :: l, k, h => by
    unfold rowsStr at h
    cases r with
    | nil => exact absurd h Bool.false_ne_true
    | cons v r =>
      obtain ⟨c, n, e, h1⟩ := vInt_inv (v := v) h
      obtain ⟨h2, h3⟩ := bIf_yes h1
      have h2 := beq_iff'.1 h2
      obtain ⟨num, h4, h5⟩ := rowsStr_inv h3
      rw [forceNat_eq] at h4
      refine ⟨n + 256 * num, h4, fun ρ Ls hR => ?_⟩
      obtain ⟨X, L', rfl, q1, q2, q3, q4⟩ := hR
      have hr : r = [] := by simpa using q2
      subst hr
      obtain ⟨V, X', rfl, q5, q6⟩ := q1.cons_inv
      simp only [VRs] at q6
      subst q6
      rw [e, h2] at q5
      simp only [VR] at q5
      obtain ⟨_, q7, rfl⟩ := q5
      have q7 : n < 256 := q7
      have hn : (UInt8.ofNat n).toNat = n := by simp only [UInt8.toNat_ofNat']; exact Nat.mod_eq_of_lt q7
      have := strB_cons (UInt8.ofNat n) l.length num
      rw [hn] at this
      simp only [List.flatten_cons, List.length_cons, this, List.map_cons, h5 ρ L' q4, hn]
      rw [sgn_small (by exact q7)]
      rfl
theorem foldl_push : ∀ (bs : List UInt8) (acc : List UInt8), (bs.map fun b => ((b.toNat : Nat) : Int)).foldl (fun (r : ByteArray) (n : Int) => r.push (UInt8.ofNat n.toNat)) ⟨acc.toArray⟩ = ⟨(acc ++ bs).toArray⟩
  | [], acc => by simp
  | b :: bs, acc => by
    rw [List.map_cons, List.foldl_cons]
    have : (⟨acc.toArray⟩ : ByteArray).push (UInt8.ofNat (((b.toNat : Nat) : Int).toNat)) = ⟨(acc ++ [b]).toArray⟩ := by
      apply ByteArray.ext
      simp [ByteArray.push]
    rw [this, foldl_push bs (acc ++ [b])]
    simp
def rowB (bs : List UInt8) (n : Nat) : Array Value := List.toArray (bs.map fun b : UInt8 => Value.int .u8 b.toNat) ++ Array.replicate n (Value.int .u8 0)
theorem freeze_new (w : World) (c : Array Value) (e : TypeId) : ((w.alloc (.cells c e)).freeze ⟨w.heap.size, c.size, none⟩ 1).heap[w.heap.size]? = some (.cells c e (c.size, c.size + 1)) ∧
    (∀ k, k < w.heap.size → ((w.alloc (.cells c e)).freeze ⟨w.heap.size, c.size, none⟩ 1).heap[k]? = w.heap[k]?) ∧ ((w.alloc (.cells c e)).freeze ⟨w.heap.size, c.size, none⟩ 1).heap.size = w.heap.size + 1 := by
  unfold World.freeze
  rw [if_neg (by decide)]
  refine ⟨?_, fun k hk => ?_, ?_⟩
  · simp only [Array.getElem?_modify, if_true, heap_alloc_at, Option.map_some]
    rfl
  · simp only [Array.getElem?_modify]
    rw [if_neg (by omega)]
    exact heap_alloc_lt w _ hk
  · show (Array.modify _ _ _).size = _
    rw [Array.size_modify]; exact World.size_alloc w _
theorem run_convert_string {s d e : TypeId} (hs : P.underlying s = some .string) (hd : P.underlying d = some (.slice e)) (hu : P.underlying e = some (.int .u8)) (bs : List UInt8) (w : World) :
    (convert s d (.string ⟨bs.toArray⟩)).run P w = .ok (.slice (some ⟨w.heap.size, 0, none⟩) bs.length (grownCap w bs.length 0 e))
      ((w.drew.alloc (.cells (rowB bs (grownCap w bs.length 0 e - bs.length)) e)).freeze ⟨w.drew.heap.size, (rowB bs (grownCap w bs.length 0 e - bs.length)).size, none⟩ 1) := by
  simp only [convert, Sem.run_bind, run_under hs, run_under hd, run_under hu, Result.andThen_ok, Conv.stringToBytes, run_choose, Question.forced, Bool.false_eq_true, if_false, bs_size, run_newRow,
    markStringish, run_shape, Sem.run_pure]
  have hsh : ∀ c : Array Value, (w.drew.alloc (.cells c e)).shape? w.heap.size = some (e, c.size) := by
    intro c
    have := heap_alloc_at w.drew (.cells c e)
    rw [World.size_drew] at this
    simp only [World.shape?, this]
  have hdr : ({ w with drawn := w.drawn + 1 } : World) = w.drew := rfl
  simp only [hdr]
  rw [hsh]
  simp only [run_freeze, Result.andThen_ok]
  simp only [rowB, grownCap, List.map_toArray]
  rfl
theorem rowB_ok {ρ : Valn} : ∀ (bs : List UInt8), RowL ρ 1 (byteRows bs.length (encB bs)) (bs.map fun b => [Value.int .u8 b.toNat]) := by
  intro bs
  have := byteRows_ok (ρ := ρ) bs.length (encB bs)
  rwa [strB_enc] at this
theorem cconvH_sound {ρ : Valn} {H : Heap} {w : World} (R : Rel ρ H w) {call : CallK} {s d : TypeId} {gx : Get} {X : Value} {k kp : AV → Heap → Bool} (h : (cconvH P s d gx).f call L T H k kp = true)
    (hx : VR ρ (gx.g L T) X) : ValOut P ρ H w (convert s d X) k := by
  obtain ⟨gx⟩ := gx
  simp only at hx
  unfold cconvH at h
  simp only at h
  split at h
  · rename_i e hs hd
    split at h
    · rename_i hu hsz
      change srcRows 1 (gx L T) H (fun _ l => rowsStr l fun len num => k (.str len num) H) = true at h
      obtain ⟨m, l, h1, hm, h2⟩ := srcRows_inv (P := P) h
      obtain ⟨num, h3, h4⟩ := rowsStr_inv h1
      obtain ⟨Ls, g1, g2, g3, a, n, c, rfl⟩ := h2 ρ w X hx R
      have hfl := h4 ρ Ls g1
      refine ⟨ρ, H, _, _, w, h3, VR_str (by omega), R, Step.refl _ _ _, ?_⟩
      have hlen := g3.len w
      simp only [Builtin.lenOf, Sem.run_pure, Result.ok.injEq, and_true] at hlen
      subst hlen
      rw [run_convert_bytes_string w s d e a n c hs hu hd]
      have hc := g3.cells w rfl
      cases a with
      | none =>
        simp only [Builtin.firstCells, Sem.run_pure, Result.ok.injEq, and_true] at hc
        have h5 : Ls.flatten = [] := by
          have := congrArg Array.toList hc; simpa using this.symm
        rw [h5] at hfl
        have h6 : l.length = 0 := by
          have := congrArg List.length hfl
          simpa [strB_length] using this.symm
        rw [h6]
        rfl
      | some ad =>
        simp only [Builtin.firstCells, Nat.mul_one] at hc
        rw [hfl] at hc
        have e1 : (strB l.length num).map (fun b => Value.int .u8 b.toNat) = ((strB l.length num).map fun b => ((b.toNat : Nat) : Int)).map (Value.int .u8) := by simp
        rw [e1] at hc
        rw [run_bytesToString w ad n c _ hc]
        have := foldl_push (strB l.length num) []
        rw [show (ByteArray.empty : ByteArray) = ⟨([] : List UInt8).toArray⟩ from rfl, this]
        simp
    · exact absurd h Bool.false_ne_true
  · rename_i e hs hd
    split at h
    · rename_i hu hsz
      obtain ⟨l, n, e1, h1⟩ := vStr_inv h
      rw [e1] at hx
      simp only [VR] at hx
      obtain ⟨hl, rfl⟩ := hx
      obtain ⟨rs, hcap, hc5, h2⟩ := withRows_inv5 h1
      rw [putRows_eq] at h2
      obtain ⟨h3, h4⟩ := newO_inv h2
      have hnone : ρ H.next = none := by
        cases h : ρ H.next with
        | none => rfl
        | some x => exact absurd (R.dom _ _ h) (Nat.lt_irrefl _)
      have hge := grownCap_ge w l 0 e
      have hrun := run_convert_string hs hd hu (strB l n) w
      rw [strB_length] at hrun
      generalize grownCap w l 0 e = cap at *
      obtain ⟨f1, f2, f3⟩ := freeze_new w.drew (rowB (strB l n) (cap - l)) e
      have hsize : (rowB (strB l n) (cap - l)).size = cap := by
        simp only [rowB, Array.size_append, List.size_toArray, List.length_map, strB_length, Array.size_replicate]; omega
      have hle : ρ.le (ρ.set H.next (w.heap.size, cap)) := Valn.le_set _ hnone
      have hset : (ρ.set H.next (w.heap.size, cap)) H.next = some (w.heap.size, cap) := Valn.set_same _ _ _
      have hcap' : l ≤ (rs.setRows (byteRows l n) 0).cap := by rw [Rows.cap_setRows]; exact hcap
      have hcap2 : (rs.setRows (byteRows l n) 0).cap ≤ 512 := by rw [Rows.cap_setRows]; exact hc5
      have ho : ∀ w' : World, w'.heap[w.heap.size]? = some (.cells (rowB (strB l n) (cap - l)) e ((rowB (strB l n) (cap - l)).size, (rowB (strB l n) (cap - l)).size + 1)) →
          ObjR (ρ.set H.next (w.heap.size, cap)) w' H.next (.cells (rs.setRows (byteRows l n) 0) l 1 e true true) := by
        intro w' hw'
        refine ⟨w.heap.size, cap, _, _, hset, hw', fun h => absurd h (by decide), Nat.one_pos, hcap', ?_, ?_⟩
        · refine RowsR.setRows (n := 0) (c := #[]) RowsR.none (byteRows_ok l n) hcap (by rw [byteRows_length]; omega) (fun r hr => .inr (by rw [byteRows_length]; omega)) (fun k hk => ?_) (fun r j hr => by omega)
          rw [byteRows_length] at hk
          rw [flatten_single, Nat.zero_mul, Nat.zero_add]
          unfold rowB
          rw [Array.getElem?_append_left (by simp only [List.size_toArray, List.length_map, strB_length]; omega)]
          simp
        · rw [if_pos rfl, hsize]; omega
      have hsz : w.heap.size ≤ ((w.drew.alloc (.cells (rowB (strB l n) (cap - l)) e)).freeze ⟨w.drew.heap.size, (rowB (strB l n) (cap - l)).size, none⟩ 1).heap.size := by
        rw [f3]; simp
      refine ⟨ρ.set H.next (w.heap.size, cap), _, _, _, _, h4, ?_, fresh_rel R h3 hsz (.inl (Nat.le_refl _)) (fun k hk _ => f2 k hk) (ho _ f1),
        fresh_step R h3 hsz (.inl (Nat.le_refl _)) (fun k hk _ => f2 k hk) ?_ ?_ ?_, hrun⟩
      · simp only [VR]
        exact ⟨w.heap.size, cap, hset, by simp, by omega, by simpa using hge, by simp⟩
      all_goals
        unfold World.freeze
        rw [if_neg (by decide)]
        rfl
    · exact absurd h Bool.false_ne_true
  · exact absurd h Bool.false_ne_true
end
end Go.Ev

namespace Go.Ev
open Go
set_option linter.unusedVariables false

section
variable {P : Program} {es : List Nat} {ds : List (Option Nat)} {L : List AV} {T : TT}
/-! ### maps -/
/-- a key of a kind -/
def keyKind : TypeDesc → AV → Prop
  | .int _, .int _ _ => True
  | .bool, .bool _ => True
  | .string, .str _ _ => True
  | _, _ => False
theorem keyOk_inv {t : TypeId} {x : AV} (h : keyOk P t x = true) : ∃ d, P.underlying t = some d ∧ keyKind d x := by
  unfold keyOk at h
  split at h
  · rename_i hu; exact ⟨_, hu, trivial⟩
  · rename_i hu; exact ⟨_, hu, trivial⟩
  · rename_i hu; exact ⟨_, hu, trivial⟩
  · exact absurd h Bool.false_ne_true
theorem bytes_beq (x y : List UInt8) : ((⟨x.toArray⟩ : ByteArray) == ⟨y.toArray⟩) = (x == y) := by
  show (x.toArray == y.toArray) = (x == y)
  simp
theorem sameNow_sound {ρ : Valn} {d : TypeDesc} {x y : AV} {X Y : Value} {b : Bool} (hk : keyKind d x) (hx : VR ρ x X) (hy : VR ρ y Y) (h : keyEq x y = some b) :
    Instr.sameNow d X Y = some b ∧ (b = true → X = Y) := by
  unfold keyEq at h
  split at h
  · rename_i c n c' m
    split at h
    · rename_i hc
      have hc := beq_iff'.1 hc
      cases h
      subst hc
      simp only [VR] at hx hy
      obtain ⟨x1, x2, rfl⟩ := hx
      obtain ⟨y1, y2, rfl⟩ := hy
      cases d <;> simp only [keyKind] at hk
      have e : (sgn c n == sgn c m) = Nat.beq n m := by rw [Bool.eq_iff_iff, beq_iff_eq, sgn_inj x1 x2 y2, beq_iff']
      refine ⟨by simp only [Instr.sameNow, if_true, e], fun hb => ?_⟩
      rw [beq_iff'.1 hb]
    · cases h
  · cases h
    simp only [VR] at hx hy
    subst hx hy
    cases d <;> simp only [keyKind] at hk
    exact ⟨rfl, fun hb => by rw [beq_iff_eq.1 hb]⟩
  · cases h
    simp only [VR] at hx hy
    obtain ⟨x1, rfl⟩ := hx
    obtain ⟨y1, rfl⟩ := hy
    cases d <;> simp only [keyKind] at hk
    refine ⟨?_, fun hb => by rw [(strEq_iff _ _ _ _).1 hb]⟩
    simp only [Instr.sameNow, bytes_beq]
    congr 1
    rw [Bool.eq_iff_iff, beq_iff_eq, strEq_iff]
  · cases h
theorem findK_sound {ρ : Valn} {d : TypeDesc} {x : AV} {X : Value} (hk : keyKind d x) (hx : VR ρ x X) : ∀ {es : List (AV × AV × Nat)} {ents : List MapEntry} {i : Nat} {r : Option (Nat × AV)}, EntR ρ es ents →
    findK x es i = some r → (r = none ∧ Instr.findNow d X ents i = some none) ∨
      ∃ j v V e, r = some (i + j, v) ∧ Instr.findNow d X ents i = some (some (i + j, V)) ∧ VR ρ v V ∧ ents[j]? = some e ∧ e.key = X ∧ j < es.length
  | [], ents, i, r, hE, h => by
    cases hE
    cases h
    exact .inl ⟨rfl, rfl⟩
  | (k, v, b) :: es, ents, i, r, hE, h => by
    obtain ⟨e, L', rfl, h1, h2, h3, h4⟩ := hE
    unfold findK at h
    split at h
    · rename_i hq
      cases h
      obtain ⟨g1, g2⟩ := sameNow_sound hk hx h1 hq
      exact .inr ⟨0, v, e.val, e, rfl, by simp only [Instr.findNow, g1, Nat.add_zero], h2, rfl, (g2 rfl).symm, by simp⟩
    · rename_i hq
      obtain ⟨g1, g2⟩ := sameNow_sound hk hx h1 hq
      rcases findK_sound hk hx h4 h with ⟨q1, q2⟩ | ⟨j, v', V, e', q1, q2, q3, q4, q5, q6⟩
      · exact .inl ⟨q1, by simp only [Instr.findNow, g1, q2]⟩
      · refine .inr ⟨j + 1, v', V, e', by rw [q1]; congr 2; omega, ?_, q3, by simpa using q4, q5, by simpa using q6⟩
        simp only [Instr.findNow, g1, q2]
        congr 3; omega
    · cases h
theorem run_checkKey {b : Bool} {t : TypeId} {d : TypeDesc} {x : AV} {ρ : Valn} {X : Value} (hu : P.underlying t = some d) (hk : keyKind d x) (hx : VR ρ x X) (w : World) : ∀ n, (Instr.checkKey b (n + 1) t X).run P w = .ok () w := by
  intro n
  cases d <;> cases x <;> simp only [keyKind] at hk <;> simp only [VR] at hx
  · subst hx
    simp only [Instr.checkKey, Sem.run_bind, run_under hu, Result.andThen_ok, Sem.run_pure]
  · obtain ⟨_, _, rfl⟩ := hx
    simp only [Instr.checkKey, Sem.run_bind, run_under hu, Result.andThen_ok, Sem.run_pure]
  · obtain ⟨_, rfl⟩ := hx
    simp only [Instr.checkKey, Sem.run_bind, run_under hu, Result.andThen_ok, Sem.run_pure]
theorem run_checkKey' {b : Bool} {t : TypeId} {d : TypeDesc} {x : AV} {ρ : Valn} {X : Value} (hu : P.underlying t = some d) (hk : keyKind d x) (hx : VR ρ x X) (w : World) : (Instr.checkKey b 10000 t X).run P w = .ok () w :=
  run_checkKey hu hk hx w 9999
theorem run_findKey {t : TypeId} {d : TypeDesc} {X : Value} {ents : List MapEntry} {r : Option (Nat × Value)} (hu : P.underlying t = some d) (h : Instr.findNow d X ents 0 = some r) (w : World) :
    (Instr.findKey t X ents).run P w = .ok r w := by
  simp only [Instr.findKey, Sem.run_bind, run_under hu, Result.andThen_ok, h, Sem.run_pure]
theorem EntR.size {ρ : Valn} : ∀ {es : List (AV × AV × Nat)} {ents : List MapEntry}, EntR ρ es ents → ents.length = es.length
  | [], _, h => by cases h; rfl
  | _ :: _, _, h => by obtain ⟨e, L', rfl, _, _, _, h4⟩ := h; simp [h4.size]
theorem run_getMap {b : Nat} {ents : Array MapEntry} {clk : Nat} {w : World} (h : w.heap[b]? = some (.map ents clk)) : (getObj b).run P w = .ok (.map ents clk) w := by
  simp only [getObj, Sem.run, h]
theorem clookup_sound {ρ : Valn} {H : Heap} {w : World} (R : Rel ρ H w) {call : CallK} {t : TypeId} {ok : Bool} {gx gi : Get} {X I : Value} {k kp : AV → Heap → Bool} (h : (clookup P t ok gx gi).f call L T H k kp = true)
    (hx : VR ρ (gx.g L T) X) (hi : VR ρ (gi.g L T) I) : ValOut P ρ H w (Instr.lookup t X I ok) k := by
  obtain ⟨gx⟩ := gx
  obtain ⟨gi⟩ := gi
  simp only at hx hi
  unfold clookup at h
  simp only at h
  split at h
  · rename_i kt et hu
    split at h
    · rename_i z hz
      obtain ⟨Z, z1, z2⟩ := run_zero hz
      have hZ := absV_sound (ρ := ρ) z1
      obtain ⟨h0, h1⟩ := bIf_yes h
      obtain ⟨d, hd, hk⟩ := keyOk_inv h0
      obtain ⟨a, e0, h2⟩ := vMap_inv h1
      rw [getO_eq] at h2
      obtain ⟨es, clk, eo, h3⟩ := oMap_inv h2
      rw [e0] at hx
      simp only [VR] at hx
      obtain ⟨b, κ, v1, rfl⟩ := hx
      have ho := R.obj a (VR.lt R v1)
      rw [eo] at ho
      obtain ⟨b', κ', ents, o1, o2, o3⟩ := ho
      rw [v1] at o1
      cases o1
      unfold lookIn at h3
      have pre : ∀ r, Instr.findNow d I ents.toList 0 = some r → (Instr.lookup t (.map (some b)) I ok).run P w =
          .ok (match r with
            | some (_, V) => if ok then .tuple #[V, .bool true] else V
            | none => if ok then .tuple #[Z, .bool false] else Z) w := by
        intro r hr
        simp only [Instr.lookup, Sem.run_bind, run_under hu, Result.andThen_ok, run_getMap o2, Sem.run_pure, run_checkKey' hd hk hi, run_findKey hd hr]
        cases r with
        | none => simp only [Sem.run_bind, z2, Result.andThen_ok, Sem.run_pure]
        | some p => simp only [Sem.run_bind, Result.andThen_ok, Sem.run_pure]
      have tup : ∀ (ok : Bool) (v : AV) (V : Value) (b : Bool), VR ρ v V → VR ρ (match ok with | true => .tup [v, .bool b] | false => v) (if ok then .tuple #[V, .bool b] else V) := by
        intro ok v V b hv
        cases ok with
        | true =>
          show VR ρ (.tup [v, .bool b]) (.tuple #[V, .bool b])
          simp only [VR]
          exact ⟨[V, .bool b], rfl, VRs.cons hv (VRs.cons (VR_bool _) VRs.nil)⟩
        | false => exact hv
      split at h3
      · rename_i j v hf
        rcases findK_sound hk hi o3 hf with ⟨q1, q2⟩ | ⟨j', v', V, e', q1, q2, q3, q4, q5, q6⟩
        · cases q1
        · cases q1
          refine ⟨ρ, H, _, _, w, h3, tup ok _ V true q3, R, Step.refl _ _ _, ?_⟩
          rw [pre _ q2]
      · rename_i hf
        rcases findK_sound hk hi o3 hf with ⟨q1, q2⟩ | ⟨j', v', V, e', q1, q2, q3, q4, q5, q6⟩
        · refine ⟨ρ, H, _, _, w, h3, tup ok _ Z false hZ, R, Step.refl _ _ _, ?_⟩
          rw [pre _ q2]
        · cases q1
      · exact absurd h3 Bool.false_ne_true
    · exact absurd h Bool.false_ne_true
  · exact absurd h Bool.false_ne_true
theorem sameBits_self {d : TypeDesc} {x : AV} {ρ : Valn} {X : Value} (hk : keyKind d x) (hx : VR ρ x X) : ∀ n, Instr.sameBits n X X = true := by
  intro n
  cases d <;> cases x <;> simp only [keyKind] at hk <;> simp only [VR] at hx
  · subst hx; cases n <;> simp [Instr.sameBits]
  · obtain ⟨_, _, rfl⟩ := hx; cases n <;> simp [Instr.sameBits]
  · obtain ⟨_, rfl⟩ := hx; cases n <;> simp [Instr.sameBits, bytes_beq]
theorem EntR.setAt {ρ : Valn} {k v : AV} {K V : Value} (hk : VR ρ k K) (hv : VR ρ v V) : ∀ {es : List (AV × AV × Nat)} {ents : List MapEntry} {j : Nat}, EntR ρ es ents → EntR ρ (setAt es j k v) (ents.modify j fun e => { e with key := K, val := V })
  | [], _, j, h => by cases h; simp [Ev.setAt, EntR]
  | (a, b, c) :: es, _, 0, h => by
    obtain ⟨e, L', rfl, h1, h2, h3, h4⟩ := h
    exact ⟨{ e with key := K, val := V }, L', by simp, hk, hv, h3, h4⟩
  | (a, b, c) :: es, _, j + 1, h => by
    obtain ⟨e, L', rfl, h1, h2, h3, h4⟩ := h
    exact ⟨e, _, by simp, h1, h2, h3, EntR.setAt hk hv h4⟩
theorem EntR.push {ρ : Valn} {k v : AV} {K V : Value} {clk : Nat} (hk : VR ρ k K) (hv : VR ρ v V) : ∀ {es : List (AV × AV × Nat)} {ents : List MapEntry}, EntR ρ es ents → EntR ρ (es ++ [(k, v, clk)]) (ents ++ [{ key := K, val := V, born := clk }])
  | [], _, h => by cases h; exact ⟨_, _, rfl, hk, hv, rfl, rfl⟩
  | (a, b, c) :: es, _, h => by
    obtain ⟨e, L', rfl, h1, h2, h3, h4⟩ := h
    exact ⟨e, _, rfl, h1, h2, h3, EntR.push hk hv h4⟩
theorem run_setMap {b : Nat} {ents : Array MapEntry} {clk : Nat} {w : World} {o : Obj} (h : w.heap[b]? = some (.map ents clk)) : (setObj b o).run P w = .ok () { w with heap := w.heap.setIfInBounds b o } := by
  simp only [setObj, Sem.run, h]
theorem cupdate_sound {ρ : Valn} {H : Heap} {w : World} (R : Rel ρ H w) {call : CallK} {t : TypeId} {gm gi gx : Get} {M I X : Value} {k kp : AV → Heap → Bool} (h : (cupdate P t gm gi gx).f call L T H k kp = true)
    (hm : VR ρ (gm.g L T) M) (hi : VR ρ (gi.g L T) I) (hx : VR ρ (gx.g L T) X) : OpOut P ρ H w (do Instr.mapUpdate t M I X; pure .skip) k := by
  obtain ⟨gm⟩ := gm
  obtain ⟨gi⟩ := gi
  obtain ⟨gx⟩ := gx
  simp only at hm hi hx
  unfold cupdate at h
  simp only at h
  split at h
  · rename_i kt et hu
    obtain ⟨h0, h1⟩ := bIf_yes h
    obtain ⟨d, hd, hk⟩ := keyOk_inv h0
    obtain ⟨a, e0, h2⟩ := vMap_inv h1
    rw [getO_eq] at h2
    obtain ⟨es, clk, eo, h3⟩ := oMap_inv h2
    rw [e0] at hm
    simp only [VR] at hm
    obtain ⟨b, κ, v1, rfl⟩ := hm
    have ha := VR.lt R v1
    have ho := R.obj a ha
    rw [eo] at ho
    obtain ⟨b', κ', ents, o1, o2, o3⟩ := ho
    rw [v1] at o1
    cases o1
    have hlive : (H.get a).live = true := by rw [eo]; rfl
    have hlt : b < w.heap.size := (Array.getElem?_eq_some_iff.1 o2).1
    have fin : ∀ (es' : List (AV × AV × Nat)) (clk' : Nat) (ents' : Array MapEntry), EntR ρ es' ents'.toList → k .undef (H.put a (.map es' clk')) = true →
        (Instr.mapUpdate t (.map (some b)) I X).run P w = .ok () { w with heap := w.heap.setIfInBounds b (.map ents' clk') } → OpOut P ρ H w (do Instr.mapUpdate t (.map (some b)) I X; pure .skip) k := by
      intro es' clk' ents' hE hk' hrun
      obtain ⟨k2, k3⟩ := put_rel R ha hlive v1 (o := .map es' clk') (w' := { w with heap := w.heap.setIfInBounds b (.map ents' clk') }) (by simp) (fun q hq => by simp [Array.getElem?_setIfInBounds_ne (Ne.symm hq)]) rfl rfl rfl
        ⟨b, κ, ents', v1, by simp [hlt], hE⟩
      refine ⟨ρ, _, _, undef, _, hk', VR_undef, k2, k3, .inr ⟨?_, rfl⟩⟩
      rw [Sem.run_bind, hrun]; rfl
    unfold updIn at h3
    split at h3
    · rename_i j v hf
      rcases findK_sound hk hi o3 hf with ⟨q1, q2⟩ | ⟨j', v', V, e', q1, q2, q3, q4, q5, q6⟩
      · cases q1
      · cases q1
        rw [Nat.zero_add] at q2 h3
        simp only at h3
        rw [putO_eq] at h3
        refine fin _ _ (ents.modify j' fun e => { e with key := I, val := X }) ?_ h3 ?_
        · rw [Array.toList_modify]
          exact EntR.setAt hi hx o3
        · have hkey : ((ents[j']?).map (·.key)).getD I = I := by
            have : ents[j']? = some e' := by rw [← Array.getElem?_toList]; exact q4
            rw [this]; exact q5
          simp only [Instr.mapUpdate, Sem.run_bind, run_under hu, Result.andThen_ok, run_getMap o2, run_checkKey' hd hk hi, run_findKey hd q2, hkey, Instr.keyThatStays, sameBits_self hk hi, if_true, Sem.run_pure, run_setMap o2]
    · rename_i hf
      rcases findK_sound hk hi o3 hf with ⟨q1, q2⟩ | ⟨j', v', V, e', q1, q2, q3, q4, q5, q6⟩
      · simp only at h3
        rw [putO_eq] at h3
        refine fin _ _ (ents.push { key := I, val := X, born := clk }) ?_ h3 ?_
        · rw [Array.toList_push]
          exact EntR.push hi hx o3
        · simp only [Instr.mapUpdate, Sem.run_bind, run_under hu, Result.andThen_ok, run_getMap o2, run_checkKey' hd hk hi, run_findKey hd q2, run_setMap o2]
      · cases q1
    · exact absurd h3 Bool.false_ne_true
  · exact absurd h Bool.false_ne_true
theorem clenMap_sound {ρ : Valn} {H : Heap} {w : World} (R : Rel ρ H w) {call : CallK} {t ty : TypeId} {gx : Get} {X : Value} {k kp : AV → Heap → Bool} (h : (clenMap P t gx).f call L T H k kp = true)
    (hx : VR ρ (gx.g L T) X) : ValOut P ρ H w (Builtin.len_ #[t] ty #[X]) k := by
  obtain ⟨gx⟩ := gx
  simp only at hx
  unfold clenMap at h
  simp only at h
  split at h
  · rename_i kt et hu
    obtain ⟨a, e0, h2⟩ := vMap_inv h
    rw [getO_eq] at h2
    obtain ⟨es, clk, eo, h3⟩ := oMap_inv h2
    rw [e0] at hx
    simp only [VR] at hx
    obtain ⟨b, κ, v1, rfl⟩ := hx
    have ho := R.obj a (VR.lt R v1)
    rw [eo] at ho
    obtain ⟨b', κ', ents, o1, o2, o3⟩ := ho
    rw [v1] at o1
    cases o1
    rw [forceNat_eq] at h3
    obtain ⟨h4, h5⟩ := bIf_yes h3
    rw [blt_iff] at h4
    refine ⟨ρ, H, _, _, w, h5, VR_i64 (by omega), R, Step.refl _ _ _, ?_⟩
    have : ents.size = es.length := by rw [← o3.size]; simp
    simp only [Builtin.len_, List.getElem?_toArray, List.getElem?_cons_zero, Sem.run_bind, run_under hu, Result.andThen_ok, run_getMap o2, Sem.run_pure, goInt, this]
  · exact absurd h Bool.false_ne_true
end
end Go.Ev
