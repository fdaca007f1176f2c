/- From the evaluator to a law of plain arguments. This holds of every program of the model, at any numbering. -/
import Derived.Test.YtflcaknepncbaaaGreatEvF
import Derived.Lib.Index
import Derived.RowKit3
import Derived.ProofKit
import Derived.Handed
import Derived.LaidMore
namespace Go.Ev
open Go
set_option linter.unusedVariables false

/-! ### a program's tables, read by recursion on their lists -/
noncomputable def getN {α : Type} (l : List α) : Nat → Option α :=
  List.rec (motive := fun _ => Nat → Option α) (fun _ => none) (fun a _ ih n => Nat.rec (motive := fun _ => Option α) (some a) (fun n _ => ih n) n) l
theorem getN_eq {α : Type} : ∀ (l : List α) (n : Nat), getN l n = l[n]?
  | [], n => by simp [getN]
  | a :: l, 0 => rfl
  | a :: l, n + 1 => by
    have : getN (a :: l) (n + 1) = getN l n := rfl
    rw [this, getN_eq l n]; simp
noncomputable def infF (P : Program) (t : TypeId) : Option TypeInfo := match getN P.types.toList t with
  | some i => some i
  | none => P.info? t
theorem infF_eq (P : Program) (t : TypeId) : infF P t = P.info? t := by
  unfold infF
  rw [getN_eq, Array.getElem?_toList]
  split
  · rename_i i hi
    have hlt : t < P.types.size := (Array.getElem?_eq_some_iff.1 hi).1
    unfold Tables.info?
    rw [if_pos hlt, hi]
  · rfl
noncomputable def undF (P : Program) (t : TypeId) : Option TypeDesc :=
  match infF P t with
  | some { desc := .named _ u, .. } => (infF P u).map (·.desc)
  | some i => some i.desc
  | none => none
theorem undF_eq (P : Program) (t : TypeId) : undF P t = P.underlying t := by
  unfold undF Program.underlying
  simp only [infF_eq]
  rfl
noncomputable def pgF (P : Program) : Pg := ⟨undF P, infF P, getN P.funcs.toList⟩
theorem pgF_eq (P : Program) : pgF P = pgOf P := by
  unfold pgF pgOf
  congr 1
  · funext t; exact undF_eq P t
  · funext t; exact infF_eq P t
  · funext f; rw [getN_eq, Array.getElem?_toList]
/-- the lasting temporaries, by a table -/
noncomputable def esAt (tab : List (List Nat)) (f : Nat) : List Nat :=
  List.rec (motive := fun _ => Nat → List Nat) (fun _ => []) (fun a _ ih n => Nat.rec (motive := fun _ => List Nat) a (fun n _ => ih n) n) tab f
end Go.Ev

namespace Go.Ev
open Go
set_option linter.unusedVariables false

/-! ### two functions of the library by their contracts -/
def m1 : AV := .int 3 18446744073709551615
theorem VR_m1 {ρ : Valn} : VR ρ m1 (.int .i64 (-1)) := by
  have := VR_int (ρ := ρ) (c := 3) (r := 18446744073709551615) (by decide) (by decide)
  exact this
noncomputable def findB (c : Nat) (len : Nat) : Nat → Nat → (AV → Bool) → Bool :=
  Nat.rec (motive := fun _ => Nat → Nat → (AV → Bool) → Bool) (fun _ _ k => k m1)
    (fun _ ih n i k => bIf (Nat.beq (Nat.mod n 256) c) (k (.int 3 i)) (forceNat (Nat.div n 256) fun n => forceNat (Nat.succ i) fun i => ih n i k)) len
theorem findB_zero (c n i : Nat) (k : AV → Bool) : findB c 0 n i k = k m1 := rfl
theorem findB_succ (c l n i : Nat) (k : AV → Bool) : findB c (l + 1) n i k = bIf (Nat.beq (Nat.mod n 256) c) (k (.int 3 i)) (findB c l (n / 256) (i + 1) k) := by
  show bIf _ _ (forceNat (Nat.div n 256) fun n => forceNat (Nat.succ i) fun i => findB c l n i k) = _
  rw [forceNat_eq, forceNat_eq]; rfl
theorem findB_spec {c : Nat} (hc : c < 256) : ∀ (l n i : Nat), (Lib.indexByte (strB l n) (UInt8.ofNat c) = -1 ∧ ∀ k, findB c l n i k = k m1) ∨ ∃ j, j < l ∧ Lib.indexByte (strB l n) (UInt8.ofNat c) = j ∧ ∀ k, findB c l n i k = k (.int 3 (i + j))
  | 0, n, i => .inl ⟨rfl, fun k => rfl⟩
  | l + 1, n, i => by
    have hu : Lib.indexByte (strB (l + 1) n) (UInt8.ofNat c) = if UInt8.ofNat (n % 256) == UInt8.ofNat c then 0 else if Lib.indexByte (strB l (n / 256)) (UInt8.ofNat c) == -1 then -1 else Lib.indexByte (strB l (n / 256)) (UInt8.ofNat c) + 1 := rfl
    by_cases hq : n % 256 = c
    · refine .inr ⟨0, by omega, ?_, fun k => ?_⟩
      · rw [hu, if_pos (by rw [hq]; simp)]; rfl
      · rw [findB_succ, beq_iff'.2 (show Nat.mod n 256 = c from hq)]; rfl
    · have hne : Nat.beq (Nat.mod n 256) c = false := by
        cases hb : Nat.beq (Nat.mod n 256) c with
        | false => rfl
        | true => exact absurd (beq_iff'.1 hb) hq
      have hne2 : ¬ (UInt8.ofNat (n % 256) == UInt8.ofNat c) = true := by
        rw [beq_iff_eq, ofNat_eq (Nat.mod_lt _ (by decide)) hc]; exact hq
      rcases findB_spec hc l (n / 256) (i + 1) with ⟨h1, h2⟩ | ⟨j, hj, h1, h2⟩
      · refine .inl ⟨?_, fun k => ?_⟩
        · rw [hu, if_neg hne2, h1]; rfl
        · rw [findB_succ, hne, bIf_false, h2]
      · refine .inr ⟨j + 1, by omega, ?_, fun k => ?_⟩
        · rw [hu, if_neg hne2, h1, if_neg (by rw [beq_iff_eq]; omega)]; rfl
        · rw [findB_succ, hne, bIf_false, h2, show i + 1 + j = i + (j + 1) by omega]
noncomputable def findS (l' n' : Nat) (len : Nat) : Nat → Nat → (AV → Bool) → Bool :=
  Nat.rec (motive := fun _ => Nat → Nat → (AV → Bool) → Bool) (fun _ i k => bIf (Nat.beq l' 0) (k (.int 3 i)) (k m1))
    (fun r ih n i k => bIf (bIf (Nat.ble l' (Nat.succ r)) (Nat.beq (Nat.mod n (p8 l')) (Nat.mod n' (p8 l'))) false) (k (.int 3 i)) (forceNat (Nat.div n 256) fun n => forceNat (Nat.succ i) fun i => ih n i k)) len
theorem findS_zero (l' n' n i : Nat) (k : AV → Bool) : findS l' n' 0 n i k = bIf (Nat.beq l' 0) (k (.int 3 i)) (k m1) := rfl
theorem findS_succ (l' n' l n i : Nat) (k : AV → Bool) : findS l' n' (l + 1) n i k =
    bIf (bIf (Nat.ble l' (l + 1)) (Nat.beq (Nat.mod n (p8 l')) (Nat.mod n' (p8 l'))) false) (k (.int 3 i)) (findS l' n' l (n / 256) (i + 1) k) := by
  show bIf _ _ (forceNat (Nat.div n 256) fun n => forceNat (Nat.succ i) fun i => findS l' n' l n i k) = _
  rw [forceNat_eq, forceNat_eq]; rfl
theorem prefix_iff (l' n' l n : Nat) : (strB l' n').isPrefixOf (strB l n) = bIf (Nat.ble l' l) (Nat.beq (Nat.mod n (p8 l')) (Nat.mod n' (p8 l'))) false := by
  rw [Bool.eq_iff_iff, List.isPrefixOf_iff_prefix]
  constructor
  · intro h
    have hl := h.length_le
    rw [strB_length, strB_length] at hl
    rw [ble_iff.2 hl, bIf_true, beq_iff']
    have ht := List.prefix_iff_eq_take.1 h
    rw [strB_length, ← strB_take _ _ _ hl] at ht
    exact ((strB_eq l' n' n).1 ht).symm
  · intro h
    obtain ⟨h1, h2⟩ := bIf_yes h
    have hl := ble_iff.1 h1
    rw [List.prefix_iff_eq_take, strB_length, ← strB_take _ _ _ hl]
    exact (strB_eq l' n' n).2 (beq_iff'.1 h2).symm
theorem findS_spec (l' n' : Nat) : ∀ (l n i : Nat), (Lib.index (strB l n) (strB l' n') = -1 ∧ ∀ k, findS l' n' l n i k = k m1) ∨ ∃ j, j ≤ l ∧ Lib.index (strB l n) (strB l' n') = j ∧ ∀ k, findS l' n' l n i k = k (.int 3 (i + j))
  | 0, n, i => by
    have hu : Lib.index (strB 0 n) (strB l' n') = if (strB l' n').isEmpty then 0 else -1 := rfl
    cases l' with
    | zero => exact .inr ⟨0, Nat.le_refl _, by rw [hu]; rfl, fun k => rfl⟩
    | succ l' => exact .inl ⟨by rw [hu]; rfl, fun k => rfl⟩
  | l + 1, n, i => by
    have hu : Lib.index (strB (l + 1) n) (strB l' n') = if (strB l' n').isPrefixOf (strB (l + 1) n) then 0 else if Lib.index (strB l (n / 256)) (strB l' n') == -1 then -1 else Lib.index (strB l (n / 256)) (strB l' n') + 1 := rfl
    rw [prefix_iff] at hu
    cases hq : bIf (Nat.ble l' (l + 1)) (Nat.beq (Nat.mod n (p8 l')) (Nat.mod n' (p8 l'))) false with
    | true =>
      refine .inr ⟨0, by omega, ?_, fun k => ?_⟩
      · rw [hu, if_pos hq]; rfl
      · rw [findS_succ, hq]; rfl
    | false =>
      rw [if_neg (by rw [hq]; exact Bool.false_ne_true)] at hu
      rcases findS_spec l' n' l (n / 256) (i + 1) with ⟨h1, h2⟩ | ⟨j, hj, h1, h2⟩
      · refine .inl ⟨?_, fun k => ?_⟩
        · rw [hu, h1]; rfl
        · rw [findS_succ, hq, bIf_false, h2]
      · refine .inr ⟨j + 1, by omega, ?_, fun k => ?_⟩
        · rw [hu, h1, if_neg (by rw [beq_iff_eq]; omega)]; rfl
        · rw [findS_succ, hq, bIf_false, h2, show i + 1 + j = i + (j + 1) by omega]
noncomputable def extB : Ext := ⟨fun args k => uncons args false fun x l => uncons l false fun y l => uncons l (vStr x fun len n => vInt y fun c b => bIf (Nat.beq c 4) (bIf (Nat.blt b 256) (findB b len n 0 k) false) false) fun _ _ => false⟩
noncomputable def extS : Ext := ⟨fun args k => uncons args false fun x l => uncons l false fun y l => uncons l (vStr x fun len n => vStr y fun len' n' => findS len' n' len n 0 k) fun _ _ => false⟩
/-- the two, at their numbers -/
noncomputable def ext2 (iB iS f : Nat) : Option Ext := match Nat.beq f iB, Nat.beq f iS with
  | true, _ => some extB
  | false, true => some extS
  | false, false => none
theorem uncons_inv {α : Type} {l : List α} {k : α → List α → Bool} (h : uncons l false k = true) : ∃ x l', l = x :: l' ∧ k x l' = true := by
  cases l with
  | nil => cases h
  | cons x l => exact ⟨x, l, rfl, h⟩
theorem uncons_nil_inv {α : Type} {l : List α} {e : Bool} (h : (uncons l e fun _ _ => false) = true) : l = [] ∧ e = true := by
  cases l with
  | nil => exact ⟨rfl, h⟩
  | cons x l => cases h
section
variable {P : Program} {w0 : World}
theorem ext2_ok {iB iS g : Nat} (fB : ∃ fn, P.funcs[iB]? = some fn ∧ fn.body.isSome = true) (fS : ∃ fn, P.funcs[iS]? = some fn ∧ fn.body.isSome = true)
    (hB : ∀ (s : ByteArray) (c : Int) (w : World), Calls P iB #[.string s, .int .u8 c] w fun e w' => e = .returned (.int .i64 (Lib.indexByte s.data.toList c.toNat.toUInt8)) ∧ w' = w)
    (hS : ∀ (s sub : ByteArray) (m : Int) (w : World), s.size < 4294967281 → w.cell? ⟨g, 0, none⟩ = some (.int .i64 m) → Calls P iS #[.string s, .string sub] w fun e w' => e = .returned (.int .i64 (Lib.index s.data.toList sub.data.toList)) ∧ w' = w)
    (hm : ∃ m, w0.cell? ⟨g, 0, none⟩ = some (.int .i64 m)) : ExtOk P w0 (ext2 iB iS) := by
  intro f e he args k h
  unfold ext2 at he
  have str : ∀ {ρ : Valn} {l n : Nat} {V : Value}, VR ρ (.str l n) V → l ≤ 1000000 ∧ V = .string ⟨(strB l n).toArray⟩ := fun h => by simpa only [VR] using h
  split at he
  · rename_i hf
    have hf := beq_iff'.1 hf
    subst hf
    cases he
    obtain ⟨x, l, rfl, h⟩ := uncons_inv h
    obtain ⟨y, l, rfl, h⟩ := uncons_inv h
    obtain ⟨rfl, h⟩ := uncons_nil_inv h
    obtain ⟨len, n, rfl, h⟩ := vStr_inv h
    obtain ⟨c, b, rfl, h⟩ := vInt_inv h
    obtain ⟨hc, h⟩ := bIf_yes h
    have hc := beq_iff'.1 hc
    subst hc
    obtain ⟨hb, h⟩ := bIf_yes h
    have hb := blt_iff.1 hb
    obtain ⟨fn, g1, g2⟩ := fB
    obtain ⟨v, hkv, hv⟩ : ∃ v, k v = true ∧ ∀ ρ : Valn, len ≤ 1000000 → VR ρ v (.int .i64 (Lib.indexByte (strB len n) (UInt8.ofNat b))) := by
      rcases findB_spec hb len n 0 with ⟨q1, q2⟩ | ⟨j, hj, q1, q2⟩
      · rw [q2] at h
        exact ⟨_, h, fun ρ _ => by rw [q1]; exact VR_m1⟩
      · rw [q2] at h
        exact ⟨_, h, fun ρ hl => by rw [q1, Nat.zero_add]; exact VR_i64 (by omega)⟩
    refine ⟨fn, v, g1, g2, hkv, fun ρ H w Args hA R => ?_⟩
    obtain ⟨X, L', rfl, hX, hA⟩ := hA.cons_inv
    obtain ⟨Y, L', rfl, hY, hA⟩ := hA.cons_inv
    simp only [VRs] at hA
    subst hA
    obtain ⟨hl, rfl⟩ := str hX
    simp only [VR] at hY
    obtain ⟨_, _, rfl⟩ := hY
    have es : sgn 4 b = (b : Int) := sgn_small hb
    rw [es]
    refine (hB _ _ w).mono fun e w' hh => ?_
    obtain ⟨rfl, rfl⟩ := hh
    have ec : ((b : Int).toNat).toUInt8 = UInt8.ofNat b := rfl
    refine ⟨_, rfl, ?_, R.rel, Step.refl _ _ _⟩
    rw [ec]
    exact hv ρ hl
  · rename_i hf
    have hf := beq_iff'.1 hf
    subst hf
    cases he
    obtain ⟨x, l, rfl, h1⟩ := uncons_inv h
    obtain ⟨y, l, rfl, h2⟩ := uncons_inv h1
    obtain ⟨rfl, h3⟩ := uncons_nil_inv h2
    obtain ⟨len, n, rfl, h4⟩ := vStr_inv h3
    obtain ⟨len', n', rfl, h5⟩ := vStr_inv h4
    obtain ⟨fn, g1, g2⟩ := fS
    obtain ⟨v, hkv, hv⟩ : ∃ v, k v = true ∧ ∀ ρ : Valn, len ≤ 1000000 → VR ρ v (.int .i64 (Lib.index (strB len n) (strB len' n'))) := by
      rcases findS_spec len' n' len n 0 with ⟨q1, q2⟩ | ⟨j, hj, q1, q2⟩
      · rw [q2] at h5
        exact ⟨_, h5, fun ρ _ => by rw [q1]; exact VR_m1⟩
      · rw [q2] at h5
        exact ⟨_, h5, fun ρ hl => by rw [q1, Nat.zero_add]; exact VR_i64 (by omega)⟩
    refine ⟨fn, v, g1, g2, hkv, fun ρ H w Args hA R => ?_⟩
    obtain ⟨X, L', rfl, hX, hA⟩ := hA.cons_inv
    obtain ⟨Y, L', rfl, hY, hA⟩ := hA.cons_inv
    simp only [VRs] at hA
    subst hA
    obtain ⟨hl, rfl⟩ := str hX
    obtain ⟨hl', rfl⟩ := str hY
    obtain ⟨m, hm⟩ := hm
    have hcell : w.cell? ⟨g, 0, none⟩ = some (.int .i64 m) := by
      rw [← hm]
      have hlt : g < w0.heap.size := by
        rcases Nat.lt_or_ge g w0.heap.size with h | h
        · exact h
        · have : w0.heap[g]? = none := Array.getElem?_eq_none h
          unfold World.cell? at hm
          rw [this] at hm
          cases hm
      have := R.above.same g hlt
      unfold World.cell?
      rw [this]
    refine (hS ⟨(strB len n).toArray⟩ ⟨(strB len' n').toArray⟩ m w ?_ hcell).mono fun e w' hh => ?_
    · show (strB len n).toArray.size < _
      rw [List.size_toArray, strB_length]; omega
    · obtain ⟨rfl, rfl⟩ := hh
      exact ⟨_, rfl, hv ρ hl, R.rel, Step.refl _ _ _⟩
  · cases he
end
end Go.Ev

namespace Go.Ev
open Go Go.ChangeAt Go.ChangeShapes Go.RowKit
set_option linter.unusedVariables false

theorem emptyHeap_get (a : Nat) : emptyHeap.get a = .none := by
  unfold Heap.get emptyHeap
  simp only [N8.get_all]
theorem start_rl (w : World) : Rl w (fun _ => none) emptyHeap w := by
  refine ⟨⟨by decide, fun a x h => absurd h (by simp), fun a _ => by rw [emptyHeap_get]; trivial, fun a a' _ _ h => by rw [emptyHeap_get] at h; cases h⟩, ⟨Nat.le_refl _, fun _ _ => rfl, fun b h => ?_, rfl, rfl, rfl⟩⟩
  obtain ⟨a, _, hl, _⟩ := h
  rw [emptyHeap_get] at hl
  cases hl
noncomputable def isT (r : Res) : Bool := resCase r (fun v => vBool v fun b => b) (fun _ => false)
/-- what the evaluator finds true at some arguments, a call returns true at, and nothing that was there turns -/
theorem law_calls {P : Program} (hm : P.follows .mixedOrders = true) (hn : Named P) {E : Nat → List Nat} {ext : Nat → Option Ext} {w : World} (hext : ExtOk P w ext) {n f : Nat} {args : List AV} {Args : List Value}
    (h : callF (pgF P) E ext n f args emptyHeap (fun r _ => isT r) = true) (hA : VRs (fun _ => none) args Args) : Calls P f (List.toArray Args) w fun e w' => e = .returned (.bool true) ∧ w.keptBut w' (fun _ => False) := by
  rw [pgF_eq] at h
  obtain ⟨fn, _, _, h3⟩ := callF_sound hm hn hext n f args emptyHeap _ h
  refine (h3 _ w Args hA (start_rl w)).mono fun e w' hR => ?_
  obtain ⟨ρ', H', r1, r2, r3⟩ := hR
  cases e with
  | returned V =>
    obtain ⟨v, r4, r5⟩ := r3
    obtain ⟨b, rfl, hb⟩ := vBool_inv (show vBool v (fun b => b) = true from r5)
    subst hb
    simp only [VR] at r4
    subst r4
    refine ⟨rfl, r1.above.os, r1.above.output, fun i hi => ?_⟩
    rw [r1.above.same i hi]
    have := (World.keptBut_refl w (fun _ => False)).2.2 i hi
    exact this
  | panicked chain =>
    obtain ⟨v, V, _, _, r5⟩ := r3
    exact absurd r5 Bool.false_ne_true
  | outgrown => exact r3.elim
/-- no function has the name that the model takes for its own -/
def namedB (P : Program) : Bool := P.funcs.toList.all fun fn => !fn.body.isSome || !(fn.name == "runtime.NumGoroutine")
theorem named_of {P : Program} (h : namedB P = true) : Named P := by
  intro f fn hf hb
  have := List.all_eq_true.1 h fn (List.mem_of_getElem? (by rw [Array.getElem?_toList]; exact hf))
  rw [hb] at this
  simpa using this
section
variable {H : Type} {enc : TypeId × Value → H}
/-- 'post' for a law whose arguments hold no memory -/
theorem post_law {P : Program} {f : Func} {s : ChangeSpec} {apart fresh handsOn again : Bool} {W W' : World} {args : Array Value} {v : Value} {ds gs : List (DataW H)} {before : List MemPlace} (hb : before = [])
    (hW : DataW.Whole enc P f.params.toList s.vars apart W args.toList ds gs before)
    (hres : ∀ (b : Nat) (sp : Nat → Bool) (hd : Bool), DataW.TrodAll enc P W' b sp hd f.resultTypes.toList (v.resultList f.resultTypes.size) (s.fn H (ds ++ gs)).results [])
    (hargs : ∀ sp : Nat → Bool, DataW.TrodAll enc P W' 0 sp true f.params.toList args.toList (s.fn H (ds ++ gs)).args [])
    (hvars : ∀ sp : Nat → Bool, DataW.TrodVars enc P W' sp s.vars (s.fn H (ds ++ gs)).vars [])
    (hk : W.keptBut W' (fun _ => False))
    (hok : ∀ (j : Nat) (t : TypeId) (r : Value), f.resultTypes[j]? = some t → (v.resultList f.resultTypes.size)[j]? = some r → Value.okWide P W' .any 0 t r) :
    s.post enc P f apart fresh handsOn again W args v W' := by
  subst hb
  refine ⟨ds, gs, [], [], [], [], hW, hres _ _ _, hargs _, hvars _, World.keptBut_mono (fun p hp => hp.elim) hk, fun _ => ?_⟩
  refine ⟨hok, _, _, ([] ++ []) ++ [], ⟨[] ++ [], [], trodAll_append (hargs _) (hres _ _ _), hvars _, rfl, ?_, ?_⟩, ?_⟩
  · intro b off hp; cases hp
  · intro _; exact List.nodup_nil
  · intro p hp _; cases hp
/-- the wrap: the row's list of variables and the world's shape -/
theorem returnsInHanded_of_law {a : Assume} {C : Checked} {os : Os} {f : FuncId} {fn : Func} {s : ChangeSpec} {conds : List PathCond} {apart fresh handsOn again : Bool} {X : World → Array Value → Prop}
    (own : ownKnob C.prog.godebug = none) (started : os.Started) (noInit : C.prog.inits.idxOf? f = none) (hfn : C.prog.funcs[f]? = some fn)
    (witness : ∃ (w : World) (tape : Tape) (i : Input), w.os = os ∧ (w.forCall tape i).Shaped C.prog ∧ i.vars = [] ∧ Input.okWide C.prog (w.forCall tape i) .any w.heap.size f i ∧
      ((s.pre enc C.prog fn conds apart (w.forCall tape i).memory i.args ∧ X (w.forCall tape i).memory i.args) ∧ sizedMet enc C.prog fn (OpenSpec.ofChange s) apart (w.forCall tape i).memory i.args) ∧ a.holds C.prog (lone (Frame.enter C.prog f i.args .normal) [] (w.forCall tape i)))
    (contract : ∀ (W : World) (base : Nat) (args : Array Value) (ds gs : List (DataW H)) (before : List MemPlace),
      (∀ (j : Nat) t v, fn.params[j]? = some t → args[j]? = some v → Value.okWide C.prog W .any base t v) →
      DataW.Whole enc C.prog fn.params.toList s.vars apart W args.toList ds gs before → W.ShapedOpen C.prog →
      Calls C.prog f args W fun e W' => ∃ v, e = .returned v ∧ s.post enc C.prog fn apart fresh handsOn again W args v W') :
    ReturnsInHanded a C os f .any (fun w args => (s.pre enc C.prog fn conds apart w args ∧ X w args) ∧ sizedMet enc C.prog fn (OpenSpec.ofChange s) apart w args) (s.post enc C.prog fn apart fresh handsOn again) := by
  refine returnsInHanded_of_calls own started noInit witness ?_
  intro w tape i _ hsh _ hok hpre hholds
  obtain ⟨_, _, _, fn', hfn', _, _, _, _, hval⟩ := hok
  have e : fn' = fn := Option.some.inj (hfn'.symm.trans hfn)
  subst e
  obtain ⟨⟨⟨ds, gs, before, hw, hc⟩, hx⟩, hz⟩ := hpre
  have hw' := DataW.Whole.of_heap (w' := w.forCall tape i) (by rfl) hw
  refine (contract (w.forCall tape i) w.heap.size i.args ds gs before hval hw' hsh).mono fun e W' ⟨v, he, hp⟩ => ?_
  subst he
  exact ChangeSpec.post_blind hp
end
end Go.Ev

namespace Go.Ev
open Go
set_option linter.unusedVariables false

/-! ### a law without arguments that was evaluated once stands for itself wherever it is called -/
noncomputable def extT : Ext := ⟨fun args k => uncons args (k (.bool true)) fun _ _ => false⟩
noncomputable def withT (iT : Nat) (ext : Nat → Option Ext) (f : Nat) : Option Ext := match Nat.beq f iT with
  | true => some extT
  | false => ext f
/-- the cell of a variable holds a number -/
def HoldsInt (w : World) (g : Nat) : Prop := ∃ m, w.cell? ⟨g, 0, none⟩ = some (.int .i64 m)
section
variable {P : Program}
theorem HoldsInt.above {w0 w : World} {g : Nat} (h : HoldsInt w0 g) (hs : ∀ b, b < w0.heap.size → w.heap[b]? = w0.heap[b]?) : HoldsInt w g := by
  obtain ⟨m, hm⟩ := h
  have hlt : g < w0.heap.size := by
    rcases Nat.lt_or_ge g w0.heap.size with h | h
    · exact h
    · have : w0.heap[g]? = none := Array.getElem?_eq_none h
      unfold World.cell? at hm
      rw [this] at hm
      cases hm
  refine ⟨m, ?_⟩
  rw [← hm]
  unfold World.cell?
  rw [hs g hlt]
theorem withT_ok (hm : P.follows .mixedOrders = true) (hn : Named P) {iT g n : Nat} {E : Nat → List Nat} {ext : Nat → Option Ext} (hext : ∀ w, HoldsInt w g → ExtOk P w ext)
    (h : callF (pgF P) E ext n iT [] emptyHeap (fun r _ => isT r) = true) : ∀ w, HoldsInt w g → ExtOk P w (withT iT ext) := by
  rw [pgF_eq] at h
  intro w0 hw0 f e he args k hk
  unfold withT at he
  split at he
  · rename_i hf
    have hf := beq_iff'.1 hf
    subst hf
    cases he
    obtain ⟨rfl, hk⟩ := uncons_nil_inv (show (uncons args (k (.bool true)) fun _ _ => false) = true from hk)
    obtain ⟨fn, h1, h2, h3⟩ := callF_sound hm hn (hext w0 hw0) n f [] emptyHeap _ h
    refine ⟨fn, .bool true, h1, h2, hk, fun ρ H w Args hA R => ?_⟩
    have hw := hw0.above R.above.same
    obtain ⟨_, _, _, h3⟩ := callF_sound hm hn (hext w hw) n f [] emptyHeap _ h
    simp only [VRs] at hA
    subst hA
    refine (h3 (fun _ => none) w [] VRs.nil (start_rl w)).mono fun e w' hR => ?_
    obtain ⟨ρ', H', r1, r2, r3⟩ := hR
    have A := r1.above
    cases e with
    | returned V =>
      obtain ⟨v, r4, r5⟩ := r3
      obtain ⟨b, rfl, hb⟩ := vBool_inv (show vBool v (fun b => b) = true from r5)
      subst hb
      simp only [VR] at r4
      subst r4
      refine ⟨_, rfl, VR_bool true, ⟨R.rel.next, R.rel.dom, fun a ha => (R.rel.obj a ha).mono (Valn.le_refl _) fun b κ hl hr => A.same b (R.rel.owns_lt ⟨a, ha, hl, κ, hr⟩), R.rel.inj⟩, ?_⟩
      exact ⟨Valn.le_refl _, fun _ _ => rfl, Nat.le_refl _, A.size, fun b hb _ => A.same b hb, fun b hb => .inr hb, fun _ _ hd => hd, A.tape, A.os, A.output⟩
    | panicked chain =>
      obtain ⟨v, V, _, _, r5⟩ := r3
      exact absurd r5 Bool.false_ne_true
    | outgrown => exact r3.elim
  · exact hext w0 hw0 f e he args k hk
end
end Go.Ev

namespace Go.Ev
open Go
set_option linter.unusedVariables false

/-! ### a residue of a number, by a function of the program -/
theorem tmod_pos {x m : Int} (hx : ¬ Int.tmod x m < 0) (hm : 0 < m) : Int.tmod x m = x % m := by
  have h2 : x % m = Int.tmod x m % m := by
    conv => lhs; rw [← Int.mul_tdiv_add_tmod x m]
    rw [Int.add_comm, Int.add_mul_emod_self_left]
  have h3 : Int.tmod x m < m := Int.tmod_lt_of_pos x hm
  rw [h2, Int.emod_eq_of_lt (by omega) h3]
theorem tmod_neg {x m : Int} (hx : Int.tmod x m < 0) (hm : 0 < m) : Int.tmod x m + m = x % m := by
  have h2 : x % m = Int.tmod x m % m := by
    conv => lhs; rw [← Int.mul_tdiv_add_tmod x m]
    rw [Int.add_comm, Int.add_mul_emod_self_left]
  have h3 : - m < Int.tmod x m := by
    have := Int.lt_tmod_of_pos x hm
    omega
  rw [h2, ← Int.add_emod_right, Int.emod_eq_of_lt (by omega) (by omega)]
noncomputable def extM : Ext := ⟨fun args k => uncons args false fun x l => uncons l false fun y l => uncons l (vInt y fun c2 b => bIf (Nat.beq c2 3) (bIf (Nat.blt 0 b) (bIf (Nat.blt b 2147483648)
  (vIntR x (fun c a => bIf (Nat.beq c 3) (bIf (Nat.blt a 9223372036854775808) (forceNat (Nat.mod a b) fun r => k (.int 3 r)) false) false)
    fun c m r => bIf (Nat.beq c 3) (bIf (Nat.beq b m) (k (.int 3 r)) false) false) false) false) false) fun _ _ => false⟩
noncomputable def withM (iM : Nat) (ext : Nat → Option Ext) (f : Nat) : Option Ext := match Nat.beq f iM with
  | true => some extM
  | false => ext f
section
variable {P : Program} {w0 : World}
theorem withM_ok {iM : Nat} {ext : Nat → Option Ext} (hext : ExtOk P w0 ext) (fM : ∃ fn, P.funcs[iM]? = some fn ∧ fn.body.isSome = true)
    (hM : ∀ (x m : Int) (w : World), 0 < m → m < 2147483648 → Calls P iM #[.int .i64 x, .int .i64 m] w fun e w' => e = .returned (.int .i64 (x % m)) ∧ w' = w) : ExtOk P w0 (withM iM ext) := by
  intro f e he args k h
  unfold withM at he
  split at he
  · rename_i hf
    have hf := beq_iff'.1 hf
    subst hf
    cases he
    obtain ⟨x, l, rfl, h1⟩ := uncons_inv h
    obtain ⟨y, l, rfl, h2⟩ := uncons_inv h1
    obtain ⟨rfl, h3⟩ := uncons_nil_inv h2
    obtain ⟨c2, b, rfl, h4⟩ := vInt_inv h3
    obtain ⟨h5, h6⟩ := bIf_yes h4
    obtain ⟨h7, h8⟩ := bIf_yes h6
    obtain ⟨h9, h10⟩ := bIf_yes h8
    have h5 := beq_iff'.1 h5
    have h7 := blt_iff.1 h7
    have h9 := blt_iff.1 h9
    subst h5
    obtain ⟨fn, g1, g2⟩ := fM
    obtain ⟨v, hkv, hv⟩ : ∃ v, k v = true ∧ ∀ (ρ : Valn) (X : Value), VR ρ x X → ∃ z : Int, X = .int .i64 z ∧ VR ρ v (.int .i64 (z % (b : Int))) := by
      rcases vIntR_inv h10 with ⟨c, a, rfl, q⟩ | ⟨c, m, r, rfl, q⟩
      · obtain ⟨q1, q2⟩ := bIf_yes q
        obtain ⟨q3, q4⟩ := bIf_yes q2
        have q1 := beq_iff'.1 q1
        have q3 := blt_iff.1 q3
        subst q1
        rw [forceNat_eq] at q4
        refine ⟨_, q4, fun ρ X hX => ?_⟩
        simp only [VR] at hX
        obtain ⟨_, _, rfl⟩ := hX
        refine ⟨_, rfl, ?_⟩
        rw [sgn_small (show a < halfOf 3 from q3)]
        have e : ((a : Int) % (b : Int)) = ((Nat.mod a b : Nat) : Int) := (Int.natCast_emod a b).symm
        rw [e]
        exact VR_i64 (Nat.lt_of_lt_of_le (Nat.mod_lt a h7) (by omega))
      · obtain ⟨q1, q2⟩ := bIf_yes q
        obtain ⟨q3, q4⟩ := bIf_yes q2
        have q1 := beq_iff'.1 q1
        have q3 := beq_iff'.1 q3
        subst q1
        subst q3
        refine ⟨_, q4, fun ρ X hX => ?_⟩
        simp only [VR] at hX
        obtain ⟨n, _, hn, rfl, _⟩ := hX
        refine ⟨_, rfl, ?_⟩
        rw [hn]
        refine VR_i64 ?_
        have := Int.emod_lt_of_pos (sgn (3 % 8) n) (by omega : (0 : Int) < (b : Int))
        rw [hn] at this
        omega
    refine ⟨fn, v, g1, g2, hkv, fun ρ H w Args hA R => ?_⟩
    obtain ⟨X, L', rfl, hX, hA⟩ := hA.cons_inv
    obtain ⟨Y, L', rfl, hY, hA⟩ := hA.cons_inv
    simp only [VRs] at hA
    subst hA
    obtain ⟨z, rfl, hz⟩ := hv ρ X hX
    simp only [VR] at hY
    obtain ⟨_, _, rfl⟩ := hY
    have es : sgn 3 b = (b : Int) := sgn_small (show b < halfOf 3 from Nat.lt_of_lt_of_le h9 (by decide))
    rw [es]
    refine (hM z b w (by omega) (by omega)).mono fun e w' hh => ?_
    obtain ⟨rfl, rfl⟩ := hh
    exact ⟨_, rfl, hz, R.rel, Step.refl _ _ _⟩
  · exact hext f e he args k h
end
/-- a number, as a residue -/
theorem VR_resid {ρ : Valn} {x : Int} {m : Nat} (hm : 0 < m) (h1 : -9223372036854775808 ≤ x) (h2 : x ≤ 9223372036854775807) : VR ρ (.resid 3 m (x % (m : Int)).toNat) (.int .i64 x) := by
  simp only [VR]
  refine ⟨(x % 18446744073709551616).toNat, ?_, ?_, ?_, fun h => absurd h (by decide)⟩
  · show _ < 18446744073709551616
    omega
  · have e : sgn (3 % 8) (x % 18446744073709551616).toNat = x := by
      show (if (x % 18446744073709551616).toNat < 9223372036854775808 then _ else _ - (18446744073709551616 : Int)) = x
      split <;> omega
    rw [e]
    have := Int.emod_nonneg x (by omega : (m : Int) ≠ 0)
    omega
  · have e : sgn (3 % 8) (x % 18446744073709551616).toNat = x := by
      show (if (x % 18446744073709551616).toNat < 9223372036854775808 then _ else _ - (18446744073709551616 : Int)) = x
      split <;> omega
    rw [e]; rfl
/-- a byte, as a residue -/
theorem VR_resid8 {ρ : Valn} {n m : Nat} (hn : n < 256) : VR ρ (.resid 4 m (n % m)) (.int .u8 n) := by
  simp only [VR]
  refine ⟨n, hn, ?_, ?_, fun h => absurd h (by decide)⟩
  · rw [sgn_small (show n < halfOf (4 % 8) from hn)]; exact (Int.natCast_emod n m).symm
  · rw [sgn_small (show n < halfOf (4 % 8) from hn)]; rfl
end Go.Ev

namespace Go.Ev
open Go
set_option linter.unusedVariables false

/-! ### a function from a string to a bool, by a table of what was evaluated -/
noncomputable def isB (b : Bool) (r : Res) : Bool := resCase r (fun v => vBool v fun c => bIf b c (bIf c false true)) (fun _ => false)
theorem isB_inv {b : Bool} {r : Res} (h : isB b r = true) : r = .val (.bool b) := by
  cases r with
  | pan v => exact absurd h Bool.false_ne_true
  | val v =>
    obtain ⟨c, rfl, hc⟩ := vBool_inv (show vBool v (fun c => bIf b c (bIf c false true)) = true from h)
    cases b <;> cases c <;> first | rfl | cases hc
section
variable {P : Program} {w0 : World}
/-- a call that was evaluated in an empty heap does the same in any, and leaves what is there -/
theorem pure_call (hm : P.follows .mixedOrders = true) (hn : Named P) {E : Nat → List Nat} {ext : Nat → Option Ext} {n f : Nat} {args : List AV} {b : Bool} {w : World} (hext : ExtOk P w ext) (h : callF (pgF P) E ext n f args emptyHeap (fun r _ => isB b r) = true) :
    ∃ fn, P.funcs[f]? = some fn ∧ fn.body.isSome = true ∧ ∀ (ρ : Valn) (H : Heap) (Args : List Value), VRs (fun _ => none) args Args → Rl w0 ρ H w →
      Calls P f (List.toArray Args) w fun e w' => e = .returned (.bool b) ∧ Rel ρ H w' ∧ Step ρ H w ρ H w' := by
  rw [pgF_eq] at h
  obtain ⟨fn, h1, h2, h3⟩ := callF_sound hm hn hext n f args emptyHeap _ h
  refine ⟨fn, h1, h2, fun ρ H Args hA R => (h3 (fun _ => none) w Args hA (start_rl w)).mono fun e w' hR => ?_⟩
  obtain ⟨ρ', H', r1, r2, r3⟩ := hR
  have A := r1.above
  cases e with
  | returned V =>
    obtain ⟨v, r4, r5⟩ := r3
    have hv := isB_inv r5
    cases hv
    simp only [VR] at r4
    subst r4
    refine ⟨rfl, ⟨R.rel.next, R.rel.dom, fun a ha => (R.rel.obj a ha).mono (Valn.le_refl _) fun b κ hl hr => A.same b (R.rel.owns_lt ⟨a, ha, hl, κ, hr⟩), R.rel.inj⟩, ?_⟩
    exact ⟨Valn.le_refl _, fun _ _ => rfl, Nat.le_refl _, A.size, fun b hb _ => A.same b hb, fun b hb => .inr hb, fun _ _ hd => hd, A.tape, A.os, A.output⟩
  | panicked chain =>
    obtain ⟨v, V, _, _, r5⟩ := r3
    exact absurd r5 Bool.false_ne_true
  | outgrown => exact r3.elim
noncomputable def lookB (tab : List (Nat × Nat × Bool)) (l m : Nat) (k : Bool → Bool) : Bool :=
  List.rec (motive := fun _ => Bool) false (fun e _ ih => bIf (Nat.beq e.1 l) (bIf (Nat.beq e.2.1 m) (k e.2.2) ih) ih) tab
theorem lookB_inv {l m : Nat} {k : Bool → Bool} : ∀ {tab : List (Nat × Nat × Bool)}, lookB tab l m k = true → ∃ e ∈ tab, e.1 = l ∧ e.2.1 = m ∧ k e.2.2 = true
  | [], h => absurd h Bool.false_ne_true
  | e :: tab, h => by
    have h : bIf (Nat.beq e.1 l) (bIf (Nat.beq e.2.1 m) (k e.2.2) (lookB tab l m k)) (lookB tab l m k) = true := h
    have next : lookB tab l m k = true → ∃ x ∈ e :: tab, x.1 = l ∧ x.2.1 = m ∧ k x.2.2 = true := fun h => by
      obtain ⟨x, h1, h2⟩ := lookB_inv h
      exact ⟨x, by simp [h1], h2⟩
    rcases bIf_inv h with ⟨h1, h⟩ | ⟨_, h⟩
    · rcases bIf_inv h with ⟨h2, h⟩ | ⟨_, h⟩
      · exact ⟨e, by simp, beq_iff'.1 h1, beq_iff'.1 h2, h⟩
      · exact next h
    · exact next h
noncomputable def extTab (tab : List (Nat × Nat × Bool)) : Ext := ⟨fun args k => uncons args false fun x l => uncons l (vStr x fun len n => forceNat (Nat.mod n (p8 len)) fun m => lookB tab len m fun b => k (.bool b)) fun _ _ => false⟩
noncomputable def withTab (iR : Nat) (tab : List (Nat × Nat × Bool)) (ext : Nat → Option Ext) (f : Nat) : Option Ext := match Nat.beq f iR with
  | true => some (extTab tab)
  | false => ext f
theorem withTab_ok (hm : P.follows .mixedOrders = true) (hn : Named P) {iR g n : Nat} {tab : List (Nat × Nat × Bool)} {E : Nat → List Nat} {ext ext1 : Nat → Option Ext} (hext : ∀ w, HoldsInt w g → ExtOk P w ext) (hext1 : ∀ w, HoldsInt w g → ExtOk P w ext1)
    (h : tab.all (fun e => callF (pgF P) E ext1 n iR [.str e.1 e.2.1] emptyHeap (fun r _ => isB e.2.2 r)) = true) : ∀ w, HoldsInt w g → ExtOk P w (withTab iR tab ext) := by
  intro w0 hw0 f e he args k hk
  unfold withTab at he
  split at he
  · rename_i hf
    have hf := beq_iff'.1 hf
    subst hf
    cases he
    obtain ⟨x, l, rfl, h1⟩ := uncons_inv hk
    obtain ⟨rfl, h2⟩ := uncons_nil_inv h1
    obtain ⟨len, n', rfl, h3⟩ := vStr_inv h2
    rw [forceNat_eq] at h3
    obtain ⟨e, he, e1, e2, hk⟩ := lookB_inv h3
    have hev := List.all_eq_true.1 h e he
    obtain ⟨fn, g1, g2, _⟩ := pure_call (w0 := w0) hm hn (hext1 w0 hw0) hev
    refine ⟨fn, .bool e.2.2, g1, g2, hk, fun ρ H w Args hA R => ?_⟩
    obtain ⟨_, _, _, g3⟩ := pure_call (w0 := w0) hm hn (hext1 w (hw0.above R.above.same)) hev
    have hA' : VRs (fun _ => none) [.str e.1 e.2.1] Args := by
      obtain ⟨X, L', rfl, hX, hA⟩ := hA.cons_inv
      simp only [VRs] at hA
      subst hA
      refine VRs.cons ?_ VRs.nil
      simp only [VR] at hX ⊢
      obtain ⟨hl, rfl⟩ := hX
      refine ⟨by rw [e1]; exact hl, ?_⟩
      rw [e1, e2]
      have : strB len (n'.mod (p8 len)) = strB len n' := (strB_eq _ _ _).2 (Nat.mod_mod n' (p8 len))
      rw [this]
    refine (g3 ρ H Args hA' R).mono fun e' w' hh => ?_
    obtain ⟨rfl, r1, r2⟩ := hh
    exact ⟨_, rfl, VR_bool _, r1, r2⟩
  · exact hext w0 hw0 f e he args k hk
end
end Go.Ev

namespace Go.Ev
open Go
set_option linter.unusedVariables false

/-! ### a call whose outcome, memory and all, was found once -/
/-- at some arguments and heap another way to a call's outcome; else the call itself -/
structure XExt where
  f : List AV → Heap → (AV → Heap → Bool) → Bool → Bool
noncomputable def callX (P : Pg) (E : Nat → List Nat) (ext : Nat → Option Ext) (X : Nat → Option XExt) : Nat → CallK :=
  callRec fun n call f args H k => match X f with
    | some ⟨x⟩ => x args H (fun v H => k (.val v) H) ((cfn P E ext f).f n call args H k)
    | none => (cfn P E ext f).f n call args H k
def XOk (P : Program) (w0 : World) (X : Nat → Option XExt) : Prop := ∀ (f : Nat) (e : XExt), X f = some e → ∀ (args : List AV) (H : Heap) (k : AV → Heap → Bool) (fb : Bool), e.f args H k fb = true →
  fb = true ∨ ∃ fn v H1, P.funcs[f]? = some fn ∧ fn.body.isSome = true ∧ k v H1 = true ∧ ∀ (ρ : Valn) (w : World) (Args : List Value), VRs ρ args Args → Rl w0 ρ H w →
    Calls P f (List.toArray Args) w fun e w' => ∃ V ρ', e = .returned V ∧ VR ρ' v V ∧ Rel ρ' H1 w' ∧ Step ρ H w ρ' H1 w'
section
variable {P : Program} {E : Nat → List Nat} {w0 : World}
theorem callX_sound (hm : P.follows .mixedOrders = true) (hn : Named P) {ext : Nat → Option Ext} (hext : ExtOk P w0 ext) {X : Nat → Option XExt} (hX : XOk P w0 X) : ∀ n, CallOk P w0 (callX P E ext X n)
  | 0 => fun f args H k h => absurd h Bool.false_ne_true
  | n + 1 => by
    have base := cfn_sound (E := E) hm hn hext (n := n) (callX_sound hm hn hext hX n)
    intro f args H k h
    unfold callX at h
    rw [callRec_succ] at h
    have base : (cfn P E ext f).f n (callX P E ext X n) args H k = true → _ := base f args H k
    cases hx : X f with
    | none =>
      rw [hx] at h
      exact base h
    | some e =>
      rw [hx] at h
      rcases hX f e hx args H (fun v H => k (.val v) H) _ h with h | ⟨fn, v, H1, h1, h2, h3, h4⟩
      · exact base h
      · refine ⟨fn, h1, h2, fun ρ w Args hA R => (h4 ρ w Args hA R).mono fun e w' hR => ?_⟩
        obtain ⟨V, ρ', rfl, hv, r1, r2⟩ := hR
        exact ⟨ρ', H1, ⟨r1, R.above.step r2⟩, r2, v, hv, h3⟩
end

/-! #### values and objects under other numbers -/
/-- where a number stands in a list -/
def nth0 : List Nat → Nat → Option Nat
  | [], _ => none
  | a :: _, 0 => some a
  | _ :: l, n + 1 => nth0 l n
theorem nth0_eq : ∀ (l : List Nat) (n : Nat), nth0 l n = l[n]?
  | [], n => by simp [nth0]
  | a :: l, 0 => by simp [nth0]
  | a :: l, n + 1 => by simp [nth0, nth0_eq l n]
/-- object a' is, under the new numbers, object a -/
def mId (ids : List Nat) (n0 a a' : Nat) : Bool := Nat.ble n0 a' && (match nth0 ids (a' - n0) with
  | some b => Nat.beq a b
  | none => false)
mutual
noncomputable def mV (ids : List Nat) (n0 : Nat) : AV → AV → Bool
  | .undef, .undef => true
  | .bool a, .bool b => a == b
  | .int c a, .int c' b => Nat.beq c c' && Nat.beq a b
  | .str l n, .str l' n' => strEq l n l' n'
  | .nil a, .nil b => decide (a = b)
  | .ptr a r s z, .ptr a' r' s' z' => mId ids n0 a a' && Nat.beq r r' && Nat.beq s s' && Nat.beq z z'
  | .slice a i l c u z, .slice a' i' l' c' u' z' => mId ids n0 a a' && Nat.beq i i' && Nat.beq l l' && Nat.beq c c' && (u == u') && Nat.beq z z'
  | .map a, .map b => mId ids n0 a b
  | .fn f x y, .fn f' x' y' => Nat.beq f f' && mVs ids n0 x x' && mVs ids n0 y y'
  | .iface t v, .iface t' v' => Nat.beq t t' && mV ids n0 v v'
  | .agg n l, .agg n' l' => Nat.beq n n' && mVs ids n0 l l'
  | .tup l, .tup l' => mVs ids n0 l l'
  | _, _ => false
noncomputable def mVs (ids : List Nat) (n0 : Nat) : List AV → List AV → Bool
  | [], [] => true
  | a :: l, b :: l' => mV ids n0 a b && mVs ids n0 l l'
  | _, _ => false
end
noncomputable def mRows (ids : List Nat) (n0 : Nat) : List (List AV) → List (List AV) → Bool
  | [], [] => true
  | a :: l, b :: l' => mVs ids n0 a b && mRows ids n0 l l'
  | _, _ => false
def capOf : Rows → Nat
  | .r0 _ => 1
  | .r1 _ => 8
  | .r2 _ => 64
  | .r3 _ => 512
/-- live objects alone -/
noncomputable def mO (ids : List Nat) (n0 : Nat) : AObj → AObj → Bool
  | .cells rs n z el u ro, .cells rs' n' z' el' u' ro' => Nat.beq n n' && Nat.beq z z' && Nat.beq el el' && (u == u') && (ro == ro') && Nat.ble n (capOf rs) && Nat.ble n (capOf rs') &&
      rowsC rs n 0 (fun l => rowsC rs' n 0 fun l' => mRows ids n0 l l')
  | _, _ => false
/-- how the valuation goes on -/
def Valn.over (ρ ρ' : Valn) (ids : List Nat) (n0 : Nat) : Valn := fun a => if n0 ≤ a ∧ a < n0 + ids.length then (ids[a - n0]?).bind ρ' else ρ a
section
variable {ids : List Nat} {n0 : Nat} {ρ ρ' : Valn}
theorem mId_sound {a a' : Nat} (h : mId ids n0 a a' = true) : (ρ.over ρ' ids n0) a' = ρ' a := by
  unfold mId at h
  rw [Bool.and_eq_true] at h
  obtain ⟨h1, h2⟩ := h
  have h1 := ble_iff.1 h1
  rw [nth0_eq] at h2
  cases hq : ids[a' - n0]? with
  | none => rw [hq] at h2; cases h2
  | some b =>
    rw [hq] at h2
    have h2 := beq_iff'.1 h2
    have hlt := (List.getElem?_eq_some_iff.1 hq).1
    unfold Valn.over
    rw [if_pos ⟨h1, by omega⟩, hq, h2]; rfl
mutual
theorem mV_sound : ∀ (v v' : AV) (V : Value), mV ids n0 v v' = true → VR ρ' v V → VR (ρ.over ρ' ids n0) v' V ∧ v'.isCell = v.isCell := by
  intro v v' V h hv
  cases v <;> cases v' <;> simp only [mV] at h <;> try (exact absurd h Bool.false_ne_true)
  case undef.undef => exact ⟨by simpa only [VR] using hv, rfl⟩
  case bool.bool a b =>
    have : a = b := by simpa using h
    subst this
    exact ⟨by simpa only [VR] using hv, rfl⟩
  case int.int c a c' b =>
    simp only [Bool.and_eq_true, beq_iff'] at h
    obtain ⟨rfl, rfl⟩ := h
    exact ⟨by simpa only [VR] using hv, rfl⟩
  case str.str l n l' n' =>
    have h := (strEq_iff l n l' n').1 h
    have hl : l = l' := by
      have := congrArg List.length h
      rwa [strB_length, strB_length] at this
    subst hl
    simp only [VR] at hv ⊢
    rw [← h]
    exact ⟨hv, rfl⟩
  case nil.nil a b =>
    have : a = b := by simpa using h
    subst this
    exact ⟨by simpa only [VR] using hv, rfl⟩
  case ptr.ptr a r s z a' r' s' z' =>
    simp only [Bool.and_eq_true, beq_iff'] at h
    obtain ⟨⟨⟨h1, rfl⟩, rfl⟩, rfl⟩ := h
    simp only [VR] at hv ⊢
    rw [mId_sound h1]
    exact ⟨hv, rfl⟩
  case slice.slice a i l c u z a' i' l' c' u' z' =>
    simp only [Bool.and_eq_true, beq_iff', beq_iff_eq] at h
    obtain ⟨⟨⟨⟨⟨h1, rfl⟩, rfl⟩, rfl⟩, rfl⟩, rfl⟩ := h
    simp only [VR] at hv ⊢
    rw [mId_sound h1]
    exact ⟨hv, rfl⟩
  case map.map a b =>
    simp only [VR] at hv ⊢
    rw [mId_sound h]
    exact ⟨hv, rfl⟩
  case fn.fn f x y f' x' y' =>
    simp only [Bool.and_eq_true, beq_iff'] at h
    obtain ⟨⟨rfl, h2⟩, h3⟩ := h
    simp only [VR] at hv ⊢
    obtain ⟨Xs, Ys, e, q1, q2⟩ := hv
    exact ⟨⟨Xs, Ys, e, (mVs_sound x x' Xs h2 q1).1, (mVs_sound y y' Ys h3 q2).1⟩, rfl⟩
  case iface.iface t v t' v' =>
    simp only [Bool.and_eq_true, beq_iff'] at h
    obtain ⟨rfl, h2⟩ := h
    simp only [VR] at hv ⊢
    obtain ⟨X, e, q1⟩ := hv
    exact ⟨⟨X, e, (mV_sound v v' X h2 q1).1⟩, rfl⟩
  case agg.agg n l n' l' =>
    simp only [Bool.and_eq_true, beq_iff'] at h
    obtain ⟨rfl, h2⟩ := h
    simp only [VR] at hv ⊢
    obtain ⟨L, e, q1, q2, q3⟩ := hv
    obtain ⟨g1, g2, g3⟩ := mVs_sound l l' L h2 q1
    exact ⟨⟨L, e, g1, g2.trans q2, fun x hx => g3 q3 x hx⟩, rfl⟩
  case tup.tup l l' =>
    simp only [VR] at hv ⊢
    obtain ⟨L, e, q1⟩ := hv
    exact ⟨⟨L, e, (mVs_sound l l' L h q1).1⟩, rfl⟩
theorem mVs_sound : ∀ (l l' : List AV) (L : List Value), mVs ids n0 l l' = true → VRs ρ' l L → VRs (ρ.over ρ' ids n0) l' L ∧ l'.length = l.length ∧ ((∀ x ∈ l, x.isCell = true) → ∀ x ∈ l', x.isCell = true)
  | [], [], L, _, h => ⟨by simpa only [VRs] using h, rfl, fun h => h⟩
  | [], _ :: _, L, h, _ => by simp only [mVs] at h; exact absurd h Bool.false_ne_true
  | _ :: _, [], L, h, _ => by simp only [mVs] at h; exact absurd h Bool.false_ne_true
  | a :: l, b :: l', L, h, hL => by
    simp only [mVs, Bool.and_eq_true] at h
    obtain ⟨V, L', rfl, h1, h2⟩ := hL.cons_inv
    obtain ⟨g1, g2⟩ := mV_sound a b V h.1 h1
    obtain ⟨g3, g4, g5⟩ := mVs_sound l l' L' h.2 h2
    refine ⟨VRs.cons g1 g3, by simp [g4], fun hc x hx => ?_⟩
    rcases List.mem_cons.1 hx with rfl | hx
    · rw [g2]; exact hc a (by simp)
    · exact g5 (fun y hy => hc y (by simp [hy])) x hx
end
end
end Go.Ev

namespace Go.Ev
open Go
set_option linter.unusedVariables false

theorem range_get (rs : Rows) : ∀ (m i j : Nat), j < m → (rs.range m i)[j]? = some (rs.row (i + j))
  | 0, i, j, h => by omega
  | m + 1, i, 0, _ => by simp [Rows.range]
  | m + 1, i, j + 1, h => by
    have := range_get rs m (i + 1) j (by omega)
    have e : i + 1 + j = i + (j + 1) := by omega
    rw [e] at this
    simpa [Rows.range] using this
theorem mRows_get {ids : List Nat} {n0 : Nat} : ∀ {l l' : List (List AV)}, mRows ids n0 l l' = true → ∀ {j : Nat} {a b : List AV}, l[j]? = some a → l'[j]? = some b → mVs ids n0 a b = true
  | [], _, _, j, a, b, ha, _ => by simp at ha
  | _ :: _, [], h, _, _, _, _, _ => by simp only [mRows] at h; exact absurd h Bool.false_ne_true
  | x :: l, y :: l', h, 0, a, b, ha, hb => by
    simp only [mRows, Bool.and_eq_true] at h
    simp at ha hb
    subst ha; subst hb
    exact h.1
  | x :: l, y :: l', h, j + 1, a, b, ha, hb => by
    simp only [mRows, Bool.and_eq_true] at h
    exact mRows_get h.2 (by simpa using ha) (by simpa using hb)
theorem capOf_eq (rs : Rows) : capOf rs = rs.cap := by cases rs <;> rfl
theorem mO_sound {ids : List Nat} {n0 : Nat} {ρ ρ' : Valn} {w : World} {a a' : Nat} {o o' : AObj} (h : mO ids n0 o o' = true) (hr : ObjR ρ' w a o) (ha : (ρ.over ρ' ids n0) a' = ρ' a) : ObjR (ρ.over ρ' ids n0) w a' o' ∧ o.live = true := by
  cases o <;> cases o' <;> simp only [mO] at h <;> try (exact absurd h Bool.false_ne_true)
  rename_i rs n z el u ro rs' n' z' el' u' ro'
  simp only [Bool.and_eq_true, beq_iff', beq_iff_eq] at h
  obtain ⟨⟨⟨⟨⟨⟨⟨rfl, rfl⟩, rfl⟩, rfl⟩, rfl⟩, h1⟩, h2⟩, h3⟩ := h
  have h3 := rowsC_inv (rowsC_inv h3)
  refine ⟨?_, rfl⟩
  obtain ⟨b, κ, c, fz, q1, q2, q3, q4, q5, q6, q7⟩ := hr
  refine ⟨b, κ, c, fz, by rw [ha]; exact q1, q2, q3, q4, by rw [← capOf_eq]; exact ble_iff.1 h2, fun i hi => ?_, q7⟩
  obtain ⟨X, g1, g2, g3, g4⟩ := q6 i hi
  have e1 := range_get rs n 0 i hi
  have e2 := range_get rs' n 0 i hi
  rw [Nat.zero_add] at e1 e2
  obtain ⟨k1, k2, k3⟩ := mVs_sound (ρ := ρ) _ _ X (mRows_get h3 e1 e2) g1
  exact ⟨X, k1, k2.trans g2, k3 g3, g4⟩

/-! #### what was found once -/
structure Fr where
  args : List AV
  n0 : Nat
  v : AV
  ids : List Nat
  objs : List AObj
noncomputable def mObjs (ids : List Nat) (n0 : Nat) (H : Heap) : List Nat → List AObj → Bool
  | [], [] => true
  | a :: l, o :: l' => Nat.blt a 32768 && getO H a (fun x => mO ids n0 x o) && mObjs ids n0 H l l'
  | _, _ => false
noncomputable def freshB (fr : Fr) (r : Res) (H : Heap) : Bool :=
  resCase r (fun v => bIf (mV fr.ids fr.n0 v fr.v) (bIf (noTwice fr.ids) (bIf (Nat.ble (fr.n0 + fr.ids.length) 32768) (mObjs fr.ids fr.n0 H fr.ids fr.objs) false) false) false) fun _ => false
noncomputable def putL (l : List AObj) : Nat → H5 → (H5 → Bool) → Bool :=
  List.rec (motive := fun _ => Nat → H5 → (H5 → Bool) → Bool) (fun _ t k => k t) (fun o _ ih i t k => (hp i).u t o fun t => forceNat (Nat.succ i) fun i => ih i t k) l
def putH : List AObj → Nat → Heap → Heap
  | [], _, H => H
  | o :: l, i, H => putH l (i + 1) (H.put i o)
noncomputable def freshX (fr : Fr) : XExt := ⟨fun args H k fb => bIf (mVs [] 0 args fr.args) (hCase H fun nx t => bIf (Nat.beq nx fr.n0) (putL fr.objs fr.n0 t fun t => forceNat (Nat.add fr.n0 fr.objs.length) fun nx => k fr.v ⟨nx, t⟩) fb) fb⟩
noncomputable def oneX (f : Nat) (fr : Fr) (g : Nat) : Option XExt := match Nat.beq g f with
  | true => some (freshX fr)
  | false => none
theorem putL_eq : ∀ (l : List AObj) (i : Nat) (H : Heap) (k : H5 → Bool), putL l i H.t k = k (putH l i H).t
  | [], i, H, k => rfl
  | o :: l, i, H, k => by
    show (hp i).u H.t o (fun t => forceNat (Nat.succ i) fun i => putL l i t k) = _
    rw [hp_u, forceNat_eq]
    exact putL_eq l (i + 1) (H.put i o) k
theorem putH_next : ∀ (l : List AObj) (i : Nat) (H : Heap), (putH l i H).next = H.next
  | [], _, _ => rfl
  | o :: l, i, H => by rw [putH, putH_next]; rfl
theorem putH_get {x : Nat} (hx : x < 32768) : ∀ (l : List AObj) (i : Nat) (H : Heap), i + l.length ≤ 32768 → (putH l i H).get x = if i ≤ x ∧ x < i + l.length then (l[x - i]?).getD .none else H.get x
  | [], i, H, _ => by
    show H.get x = _
    rw [if_neg (by simp)]
  | o :: l, i, H, hc => by
    have hc' : i + 1 + l.length ≤ 32768 := by simp at hc; omega
    show (putH l (i + 1) (H.put i o)).get x = _
    rw [putH_get hx l (i + 1) _ hc', Heap.get_put _ _ _ _ (by omega) hx]
    simp only [List.length_cons]
    by_cases h1 : x = i
    · subst h1
      rw [if_neg (by omega), if_pos rfl, if_pos (by omega)]
      simp
    · by_cases h2 : i + 1 ≤ x ∧ x < i + 1 + l.length
      · rw [if_pos h2, if_pos (by omega)]
        have e : x - i = (x - (i + 1)) + 1 := by omega
        rw [e]; simp
      · rw [if_neg h2, if_neg h1, if_neg (by omega)]
theorem mObjs_get {ids : List Nat} {n0 : Nat} {H : Heap} : ∀ {l : List Nat} {l' : List AObj}, mObjs ids n0 H l l' = true → l'.length = l.length ∧ ∀ (i a : Nat), l[i]? = some a → a < 32768 ∧ ∃ o, l'[i]? = some o ∧ mO ids n0 (H.get a) o = true
  | [], [], _ => ⟨rfl, fun i a h => by simp at h⟩
  | [], _ :: _, h => by simp only [mObjs] at h; exact absurd h Bool.false_ne_true
  | _ :: _, [], h => by simp only [mObjs] at h; exact absurd h Bool.false_ne_true
  | x :: l, y :: l', h => by
    simp only [mObjs, Bool.and_eq_true] at h
    obtain ⟨⟨h1, h2⟩, h3⟩ := h
    rw [getO_eq] at h2
    obtain ⟨g1, g2⟩ := mObjs_get h3
    refine ⟨by simp [g1], fun i a hi => ?_⟩
    cases i with
    | zero =>
      simp at hi
      subst hi
      exact ⟨blt_iff.1 h1, y, rfl, h2⟩
    | succ i =>
      obtain ⟨k1, o, k2, k3⟩ := g2 i a (by simpa using hi)
      exact ⟨k1, o, by simpa using k2, k3⟩
theorem noTwice_inj : ∀ {l : List Nat}, noTwice l = true → ∀ (i j a : Nat), l[i]? = some a → l[j]? = some a → i = j
  | [], _, i, j, a, h, _ => by simp at h
  | x :: l, h, i, j, a, hi, hj => by
    unfold noTwice at h
    split at h
    · cases h
    · rename_i hc
      have hc : x ∉ l := by simpa using hc
      cases i <;> cases j
      · rfl
      · rename_i j
        simp at hi hj
        subst hi
        exact absurd (List.mem_of_getElem? hj) hc
      · rename_i i
        simp at hi hj
        subst hj
        exact absurd (List.mem_of_getElem? hi) hc
      · rename_i i j
        simp at hi hj
        rw [noTwice_inj h i j a hi hj]
end Go.Ev

namespace Go.Ev
open Go
set_option linter.unusedVariables false

section
variable {P : Program} {E : Nat → List Nat}
theorem over_nil (ρ ρ' : Valn) (n0 : Nat) : ρ.over ρ' [] n0 = ρ := by
  funext a
  unfold Valn.over
  rw [if_neg (by simp)]
theorem fresh_ok (hm : P.follows .mixedOrders = true) (hn : Named P) {f g n : Nat} {fr : Fr} {ext : Nat → Option Ext} (hext : ∀ w, HoldsInt w g → ExtOk P w ext)
    (h : callF (pgF P) E ext n f fr.args emptyHeap (fun r H => freshB fr r H) = true) : ∀ w, HoldsInt w g → XOk P w (oneX f fr) := by
  rw [pgF_eq] at h
  intro w0 hw0 f' e he args H k fb hk
  unfold oneX at he
  split at he
  · rename_i hf
    have hf := beq_iff'.1 hf
    subst hf
    cases he
    rcases bIf_inv (show bIf (mVs [] 0 args fr.args) _ fb = true from hk) with ⟨ha, hk⟩ | ⟨_, hk⟩
    · rw [hCase_eq] at hk
      rcases bIf_inv hk with ⟨hnx, hk⟩ | ⟨_, hk⟩
      · have hnx := beq_iff'.1 hnx
        rw [putL_eq, forceNat_eq] at hk
        obtain ⟨fn, h1, h2, _⟩ := callF_sound hm hn (hext w0 hw0) n f' fr.args emptyHeap _ h
        refine .inr ⟨fn, fr.v, _, h1, h2, hk, fun ρ w Args hA R => ?_⟩
        have hw := hw0.above R.above.same
        obtain ⟨_, _, _, h3⟩ := callF_sound hm hn (hext w hw) n f' fr.args emptyHeap _ h
        have hA' : VRs (fun _ => none) fr.args Args := by
          have := (mVs_sound (ρ := fun _ => none) (ρ' := ρ) _ _ Args ha hA).1
          rwa [over_nil] at this
        refine (h3 (fun _ => none) w Args hA' (start_rl w)).mono fun e w' hR => ?_
        obtain ⟨ρ1, H1, r1, r2, r3⟩ := hR
        have A := r1.above
        cases e with
        | panicked chain =>
          obtain ⟨v, V, _, _, r5⟩ := r3
          exact absurd r5 Bool.false_ne_true
        | outgrown => exact r3.elim
        | returned V =>
          obtain ⟨v, hv, hb⟩ := r3
          have hb : bIf (mV fr.ids fr.n0 v fr.v) (bIf (noTwice fr.ids) (bIf (Nat.ble (fr.n0 + fr.ids.length) 32768) (mObjs fr.ids fr.n0 H1 fr.ids fr.objs) false) false) false = true := hb
          obtain ⟨b1, hb⟩ := bIf_yes hb
          obtain ⟨b2, hb⟩ := bIf_yes hb
          obtain ⟨b3, b4⟩ := bIf_yes hb
          have b3 := ble_iff.1 b3
          obtain ⟨blen, bobj⟩ := mObjs_get b4
          have hcap : fr.n0 + fr.objs.length ≤ 32768 := by omega
          -- the heap behind the call
          let H2 : Heap := ⟨fr.n0 + fr.objs.length, (putH fr.objs fr.n0 H).t⟩
          have hget : ∀ x, x < 32768 → H2.get x = if fr.n0 ≤ x ∧ x < fr.n0 + fr.objs.length then (fr.objs[x - fr.n0]?).getD .none else H.get x := fun x hx => putH_get hx fr.objs fr.n0 H hcap
          have old : ∀ a, ¬ (fr.n0 ≤ a ∧ a < fr.n0 + fr.ids.length) → (ρ.over ρ1 fr.ids fr.n0) a = ρ a := fun a hna => by
            unfold Valn.over; rw [if_neg hna]
          have new : ∀ i b, fr.ids[i]? = some b → (ρ.over ρ1 fr.ids fr.n0) (fr.n0 + i) = ρ1 b := fun i b hi => by
            have hlt := (List.getElem?_eq_some_iff.1 hi).1
            unfold Valn.over
            rw [if_pos ⟨by omega, by omega⟩, Nat.add_sub_cancel_left, hi]; rfl
          have hle : ρ.le (ρ.over ρ1 fr.ids fr.n0) := fun a x hx => by
            have := R.rel.dom a x hx
            rw [old a (by omega)]; exact hx
          have same : ∀ b, b < w.heap.size → w'.heap[b]? = w.heap[b]? := A.same
          -- an object of the call's own
          have mine : ∀ x, fr.n0 ≤ x → x < fr.n0 + fr.objs.length → ∃ b o, fr.ids[x - fr.n0]? = some b ∧ b < 32768 ∧ H2.get x = o ∧ (H1.get b).live = true ∧ ObjR (ρ.over ρ1 fr.ids fr.n0) w' x o ∧ (ρ.over ρ1 fr.ids fr.n0) x = ρ1 b := by
            intro x hx1 hx2
            have hi : x - fr.n0 < fr.ids.length := by omega
            have hib : fr.ids[x - fr.n0]? = some fr.ids[x - fr.n0] := List.getElem?_eq_getElem hi
            obtain ⟨k1, o, k2, k3⟩ := bobj _ _ hib
            have hρ := new _ _ hib
            rw [show fr.n0 + (x - fr.n0) = x by omega] at hρ
            obtain ⟨q1, q2⟩ := mO_sound (ρ := ρ) (a' := x) k3 (r1.rel.obj _ k1) hρ
            exact ⟨_, o, hib, k1, by rw [hget x (by omega), if_pos ⟨hx1, hx2⟩, k2]; rfl, q2, q1, hρ⟩
          have oldB : ∀ a, a < 32768 → (H.get a).live = true → ∀ b κ, ρ a = some (b, κ) → b < w.heap.size := fun a ha hl b κ hr => R.rel.owns_lt ⟨a, ha, hl, κ, hr⟩
          have newB : ∀ a, a < 32768 → (H1.get a).live = true → ∀ b κ, ρ1 a = some (b, κ) → w.heap.size ≤ b := fun a ha hl b κ hr => A.owns b ⟨a, ha, hl, κ, hr⟩
          have split : ∀ x, x < 32768 → (H2.get x).live = true → ∀ b κ, (ρ.over ρ1 fr.ids fr.n0) x = some (b, κ) →
              (¬ (fr.n0 ≤ x ∧ x < fr.n0 + fr.objs.length) ∧ (H.get x).live = true ∧ ρ x = some (b, κ)) ∨ ((fr.n0 ≤ x ∧ x < fr.n0 + fr.objs.length) ∧ ∃ a, fr.ids[x - fr.n0]? = some a ∧ a < 32768 ∧ (H1.get a).live = true ∧ ρ1 a = some (b, κ)) := by
            intro x hx hl b κ hr
            by_cases hin : fr.n0 ≤ x ∧ x < fr.n0 + fr.objs.length
            · obtain ⟨a, o, q1, q2, q3, q4, q5, q6⟩ := mine x hin.1 hin.2
              exact .inr ⟨hin, a, q1, q2, q4, by rw [← q6]; exact hr⟩
            · rw [hget x hx, if_neg hin] at hl
              exact .inl ⟨hin, hl, by rw [← old x (by omega)]; exact hr⟩
          have own : ∀ b, Owns (ρ.over ρ1 fr.ids fr.n0) H2 b → w.heap.size ≤ b ∨ Owns ρ H b := by
            rintro b ⟨x, hx, hl, κ, hr⟩
            rcases split x hx hl b κ hr with ⟨_, q1, q2⟩ | ⟨_, a, q1, q2, q3, q4⟩
            · exact .inr ⟨x, hx, q1, κ, q2⟩
            · exact .inl (newB a q2 q3 b κ q4)
          refine ⟨V, ρ.over ρ1 fr.ids fr.n0, rfl, (mV_sound v fr.v V b1 hv).1, ⟨hcap, fun a x hx => ?_, fun a ha => ?_, fun a a' ha ha' l1 l2 b κ κ' e1 e2 => ?_⟩, ?_⟩
          · show a < fr.n0 + fr.objs.length
            by_cases hin : fr.n0 ≤ a ∧ a < fr.n0 + fr.ids.length
            · omega
            · rw [old a hin] at hx
              have := R.rel.dom a x hx
              omega
          · show ObjR _ w' a (H2.get a)
            by_cases hin : fr.n0 ≤ a ∧ a < fr.n0 + fr.objs.length
            · obtain ⟨b, o, q1, q2, q3, q4, q5, q6⟩ := mine a hin.1 hin.2
              rw [q3]; exact q5
            · rw [hget a ha, if_neg hin]
              exact (R.rel.obj a ha).mono hle fun b κ hl hr => same b (oldB a ha hl b κ hr)
          · rcases split a ha l1 b κ e1 with ⟨n1, q1, q2⟩ | ⟨n1, x, q1, q2, q3, q4⟩ <;> rcases split a' ha' l2 b κ' e2 with ⟨n2, p1, p2⟩ | ⟨n2, y, p1, p2, p3, p4⟩
            · exact R.rel.inj a a' ha ha' q1 p1 b κ κ' q2 p2
            · have i1 := oldB a ha q1 b κ q2
              have i2 := newB y p2 p3 b κ' p4
              omega
            · have i1 := newB x q2 q3 b κ q4
              have i2 := oldB a' ha' p1 b κ' p2
              omega
            · have exy := r1.rel.inj x y q2 p2 q3 p3 b κ κ' q4 p4
              subst exy
              have := noTwice_inj b2 _ _ _ q1 p1
              omega
          · refine ⟨hle, fun a hlt => old a (by omega), ?_, A.size, fun b hb _ => same b hb, own, fun x hx hd => ?_, A.tape, A.os, A.output⟩
            · show H.next ≤ fr.n0 + fr.objs.length
              omega
            · show (H2.get x).live = false
              have hcapH := R.rel.next
              rw [hget x (by omega), if_neg (by omega)]; exact hd
      · exact .inl hk
    · exact .inl hk
  · cases he
/-- a law by the evaluator with such a call -/
theorem law_callsX (hm : P.follows .mixedOrders = true) (hn : Named P) {ext : Nat → Option Ext} {X : Nat → Option XExt} {w : World} (hext : ExtOk P w ext) (hX : XOk P w X) {n f : Nat} {args : List AV} {Args : List Value}
    (h : callX (pgF P) E ext X n f args emptyHeap (fun r _ => isT r) = true) (hA : VRs (fun _ => none) args Args) : Calls P f (List.toArray Args) w fun e w' => e = .returned (.bool true) ∧ w.keptBut w' (fun _ => False) := by
  rw [pgF_eq] at h
  obtain ⟨fn, _, _, h3⟩ := callX_sound hm hn hext hX n f args emptyHeap _ h
  refine (h3 _ w Args hA (start_rl w)).mono fun e w' hR => ?_
  obtain ⟨ρ', H', r1, r2, r3⟩ := hR
  cases e with
  | returned V =>
    obtain ⟨v, r4, r5⟩ := r3
    obtain ⟨b, rfl, hb⟩ := vBool_inv (show vBool v (fun b => b) = true from r5)
    subst hb
    simp only [VR] at r4
    subst r4
    refine ⟨rfl, r1.above.os, r1.above.output, fun i hi => ?_⟩
    rw [r1.above.same i hi]
    exact (World.keptBut_refl w (fun _ => False)).2.2 i hi
  | panicked chain =>
    obtain ⟨v, V, _, _, r5⟩ := r3
    exact absurd r5 Bool.false_ne_true
  | outgrown => exact r3.elim
end
end Go.Ev
