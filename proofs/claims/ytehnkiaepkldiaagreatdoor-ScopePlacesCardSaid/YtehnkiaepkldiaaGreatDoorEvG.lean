/- From the evaluator to a law; the evaluator's steps as equations, for values that are not closed. -/
import Derived.Test.YtehnkiaepkldiaaGreatDoorEvF
import Derived.Lib.Index
import Derived.RowKit3
import Derived.ProofKit
import Derived.Handed
import Derived.LaidMore
import Derived.KernelRfl
namespace Go.Ev
open Go
set_option linter.unusedVariables false

/-! ### a program's tables, read by recursion on their lists -/
noncomputable def getN {α : Type} (l : List α) : Nat → Option α :=
  List.rec (motive := fun _ => Nat → Option α) (fun _ => none) (fun a _ ih n => Nat.rec (motive := fun _ => Option α) (some a) (fun n _ => ih n) n) l
theorem getN_eq {α : Type} : ∀ (l : List α) (n : Nat), getN l n = l[n]?
  | [], n => by simp [getN]
  | a :: l, 0 => rfl
  | a :: l, n + 1 => by
    have : getN (a :: l) (n + 1) = getN l n := rfl
    rw [this, getN_eq l n]; simp
noncomputable def infF (P : Program) (t : TypeId) : Option TypeInfo := match getN P.types.toList t with
  | some i => some i
  | none => P.info? t
theorem infF_eq (P : Program) (t : TypeId) : infF P t = P.info? t := by
  unfold infF
  rw [getN_eq, Array.getElem?_toList]
  split
  · rename_i i hi
    have hlt : t < P.types.size := (Array.getElem?_eq_some_iff.1 hi).1
    unfold Tables.info?
    rw [if_pos hlt, hi]
  · rfl
noncomputable def undF (P : Program) (t : TypeId) : Option TypeDesc :=
  match infF P t with
  | some { desc := .named _ u, .. } => (infF P u).map (·.desc)
  | some i => some i.desc
  | none => none
theorem undF_eq (P : Program) (t : TypeId) : undF P t = P.underlying t := by
  unfold undF Program.underlying
  simp only [infF_eq]
  rfl
noncomputable def pgF (P : Program) : Pg := ⟨undF P, infF P, getN P.funcs.toList⟩
theorem pgF_eq (P : Program) : pgF P = pgOf P := by
  unfold pgF pgOf
  congr 1
  · funext t; exact undF_eq P t
  · funext t; exact infF_eq P t
  · funext f; rw [getN_eq, Array.getElem?_toList]
/-- the lasting temporaries, by a table -/
noncomputable def esAt (tab : List (List Nat)) (f : Nat) : List Nat :=
  List.rec (motive := fun _ => Nat → List Nat) (fun _ => []) (fun a _ ih n => Nat.rec (motive := fun _ => List Nat) a (fun n _ => ih n) n) tab f
end Go.Ev

namespace Go.Ev
open Go
set_option linter.unusedVariables false

/-! ### two functions of the library by their contracts -/
def m1 : AV := .int 3 18446744073709551615
theorem VR_m1 {ρ : Valn} : VR ρ m1 (.int .i64 (-1)) := by
  have := VR_int (ρ := ρ) (c := 3) (r := 18446744073709551615) (by decide) (by decide)
  exact this
noncomputable def findB (c : Nat) (len : Nat) : Nat → Nat → (AV → Bool) → Bool :=
  Nat.rec (motive := fun _ => Nat → Nat → (AV → Bool) → Bool) (fun _ _ k => k m1)
    (fun _ ih n i k => bIf (Nat.beq (Nat.mod n 256) c) (k (.int 3 i)) (forceNat (Nat.div n 256) fun n => forceNat (Nat.succ i) fun i => ih n i k)) len
theorem findB_zero (c n i : Nat) (k : AV → Bool) : findB c 0 n i k = k m1 := rfl
theorem findB_succ (c l n i : Nat) (k : AV → Bool) : findB c (l + 1) n i k = bIf (Nat.beq (Nat.mod n 256) c) (k (.int 3 i)) (findB c l (n / 256) (i + 1) k) := by
  show bIf _ _ (forceNat (Nat.div n 256) fun n => forceNat (Nat.succ i) fun i => findB c l n i k) = _
  rw [forceNat_eq, forceNat_eq]; rfl
theorem findB_spec {c : Nat} (hc : c < 256) : ∀ (l n i : Nat), (Lib.indexByte (strB l n) (UInt8.ofNat c) = -1 ∧ ∀ k, findB c l n i k = k m1) ∨ ∃ j, j < l ∧ Lib.indexByte (strB l n) (UInt8.ofNat c) = j ∧ ∀ k, findB c l n i k = k (.int 3 (i + j))
  | 0, n, i => .inl ⟨rfl, fun k => rfl⟩
  | l + 1, n, i => by
    have hu : Lib.indexByte (strB (l + 1) n) (UInt8.ofNat c) = if UInt8.ofNat (n % 256) == UInt8.ofNat c then 0 else if Lib.indexByte (strB l (n / 256)) (UInt8.ofNat c) == -1 then -1 else Lib.indexByte (strB l (n / 256)) (UInt8.ofNat c) + 1 := rfl
    by_cases hq : n % 256 = c
    · refine .inr ⟨0, by omega, ?_, fun k => ?_⟩
      · rw [hu, if_pos (by rw [hq]; simp)]; rfl
      · rw [findB_succ, beq_iff'.2 (show Nat.mod n 256 = c from hq)]; rfl
    · have hne : Nat.beq (Nat.mod n 256) c = false := by
        cases hb : Nat.beq (Nat.mod n 256) c with
        | false => rfl
        | true => exact absurd (beq_iff'.1 hb) hq
      have hne2 : ¬ (UInt8.ofNat (n % 256) == UInt8.ofNat c) = true := by
        rw [beq_iff_eq, ofNat_eq (Nat.mod_lt _ (by decide)) hc]; exact hq
      rcases findB_spec hc l (n / 256) (i + 1) with ⟨h1, h2⟩ | ⟨j, hj, h1, h2⟩
      · refine .inl ⟨?_, fun k => ?_⟩
        · rw [hu, if_neg hne2, h1]; rfl
        · rw [findB_succ, hne, bIf_false, h2]
      · refine .inr ⟨j + 1, by omega, ?_, fun k => ?_⟩
        · rw [hu, if_neg hne2, h1, if_neg (by rw [beq_iff_eq]; omega)]; rfl
        · rw [findB_succ, hne, bIf_false, h2, show i + 1 + j = i + (j + 1) by omega]
noncomputable def findS (l' n' : Nat) (len : Nat) : Nat → Nat → (AV → Bool) → Bool :=
  Nat.rec (motive := fun _ => Nat → Nat → (AV → Bool) → Bool) (fun _ i k => bIf (Nat.beq l' 0) (k (.int 3 i)) (k m1))
    (fun r ih n i k => bIf (bIf (Nat.ble l' (Nat.succ r)) (Nat.beq (Nat.mod n (p8 l')) (Nat.mod n' (p8 l'))) false) (k (.int 3 i)) (forceNat (Nat.div n 256) fun n => forceNat (Nat.succ i) fun i => ih n i k)) len
theorem findS_zero (l' n' n i : Nat) (k : AV → Bool) : findS l' n' 0 n i k = bIf (Nat.beq l' 0) (k (.int 3 i)) (k m1) := rfl
theorem findS_succ (l' n' l n i : Nat) (k : AV → Bool) : findS l' n' (l + 1) n i k =
    bIf (bIf (Nat.ble l' (l + 1)) (Nat.beq (Nat.mod n (p8 l')) (Nat.mod n' (p8 l'))) false) (k (.int 3 i)) (findS l' n' l (n / 256) (i + 1) k) := by
  show bIf _ _ (forceNat (Nat.div n 256) fun n => forceNat (Nat.succ i) fun i => findS l' n' l n i k) = _
  rw [forceNat_eq, forceNat_eq]; rfl
theorem prefix_iff (l' n' l n : Nat) : (strB l' n').isPrefixOf (strB l n) = bIf (Nat.ble l' l) (Nat.beq (Nat.mod n (p8 l')) (Nat.mod n' (p8 l'))) false := by
  rw [Bool.eq_iff_iff, List.isPrefixOf_iff_prefix]
  constructor
  · intro h
    have hl := h.length_le
    rw [strB_length, strB_length] at hl
    rw [ble_iff.2 hl, bIf_true, beq_iff']
    have ht := List.prefix_iff_eq_take.1 h
    rw [strB_length, ← strB_take _ _ _ hl] at ht
    exact ((strB_eq l' n' n).1 ht).symm
  · intro h
    obtain ⟨h1, h2⟩ := bIf_yes h
    have hl := ble_iff.1 h1
    rw [List.prefix_iff_eq_take, strB_length, ← strB_take _ _ _ hl]
    exact (strB_eq l' n' n).2 (beq_iff'.1 h2).symm
theorem findS_spec (l' n' : Nat) : ∀ (l n i : Nat), (Lib.index (strB l n) (strB l' n') = -1 ∧ ∀ k, findS l' n' l n i k = k m1) ∨ ∃ j, j ≤ l ∧ Lib.index (strB l n) (strB l' n') = j ∧ ∀ k, findS l' n' l n i k = k (.int 3 (i + j))
  | 0, n, i => by
    have hu : Lib.index (strB 0 n) (strB l' n') = if (strB l' n').isEmpty then 0 else -1 := rfl
    cases l' with
    | zero => exact .inr ⟨0, Nat.le_refl _, by rw [hu]; rfl, fun k => rfl⟩
    | succ l' => exact .inl ⟨by rw [hu]; rfl, fun k => rfl⟩
  | l + 1, n, i => by
    have hu : Lib.index (strB (l + 1) n) (strB l' n') = if (strB l' n').isPrefixOf (strB (l + 1) n) then 0 else if Lib.index (strB l (n / 256)) (strB l' n') == -1 then -1 else Lib.index (strB l (n / 256)) (strB l' n') + 1 := rfl
    rw [prefix_iff] at hu
    cases hq : bIf (Nat.ble l' (l + 1)) (Nat.beq (Nat.mod n (p8 l')) (Nat.mod n' (p8 l'))) false with
    | true =>
      refine .inr ⟨0, by omega, ?_, fun k => ?_⟩
      · rw [hu, if_pos hq]; rfl
      · rw [findS_succ, hq]; rfl
    | false =>
      rw [if_neg (by rw [hq]; exact Bool.false_ne_true)] at hu
      rcases findS_spec l' n' l (n / 256) (i + 1) with ⟨h1, h2⟩ | ⟨j, hj, h1, h2⟩
      · refine .inl ⟨?_, fun k => ?_⟩
        · rw [hu, h1]; rfl
        · rw [findS_succ, hq, bIf_false, h2]
      · refine .inr ⟨j + 1, by omega, ?_, fun k => ?_⟩
        · rw [hu, h1, if_neg (by rw [beq_iff_eq]; omega)]; rfl
        · rw [findS_succ, hq, bIf_false, h2, show i + 1 + j = i + (j + 1) by omega]
noncomputable def extB : Ext := ⟨fun args k => uncons args false fun x l => uncons l false fun y l => uncons l (vStr x fun len n => vInt y fun c b => bIf (Nat.beq c 4) (bIf (Nat.blt b 256) (findB b len n 0 k) false) false) fun _ _ => false⟩
noncomputable def extS : Ext := ⟨fun args k => uncons args false fun x l => uncons l false fun y l => uncons l (vStr x fun len n => vStr y fun len' n' => findS len' n' len n 0 k) fun _ _ => false⟩
/-- the two, at their numbers -/
noncomputable def ext2 (iB iS f : Nat) : Option Ext := match Nat.beq f iB, Nat.beq f iS with
  | true, _ => some extB
  | false, true => some extS
  | false, false => none
theorem uncons_inv {α : Type} {l : List α} {k : α → List α → Bool} (h : uncons l false k = true) : ∃ x l', l = x :: l' ∧ k x l' = true := by
  cases l with
  | nil => cases h
  | cons x l => exact ⟨x, l, rfl, h⟩
theorem uncons_nil_inv {α : Type} {l : List α} {e : Bool} (h : (uncons l e fun _ _ => false) = true) : l = [] ∧ e = true := by
  cases l with
  | nil => exact ⟨rfl, h⟩
  | cons x l => cases h
section
variable {P : Program} {w0 : World}
theorem ext2_ok {iB iS g : Nat} (fB : ∃ fn, P.funcs[iB]? = some fn ∧ fn.body.isSome = true) (fS : ∃ fn, P.funcs[iS]? = some fn ∧ fn.body.isSome = true)
    (hB : ∀ (s : ByteArray) (c : Int) (w : World), Calls P iB #[.string s, .int .u8 c] w fun e w' => e = .returned (.int .i64 (Lib.indexByte s.data.toList c.toNat.toUInt8)) ∧ w' = w)
    (hS : ∀ (s sub : ByteArray) (m : Int) (w : World), s.size < 4294967281 → w.cell? ⟨g, 0, none⟩ = some (.int .i64 m) → Calls P iS #[.string s, .string sub] w fun e w' => e = .returned (.int .i64 (Lib.index s.data.toList sub.data.toList)) ∧ w' = w)
    (hm : ∃ m, w0.cell? ⟨g, 0, none⟩ = some (.int .i64 m)) : ExtOk P w0 (ext2 iB iS) := by
  intro f e he args k h
  unfold ext2 at he
  have str : ∀ {ρ : Valn} {l n : Nat} {V : Value}, VR ρ (.str l n) V → l ≤ 1000000 ∧ V = .string ⟨(strB l n).toArray⟩ := fun h => by simpa only [VR] using h
  split at he
  · rename_i hf
    have hf := beq_iff'.1 hf
    subst hf
    cases he
    obtain ⟨x, l, rfl, h⟩ := uncons_inv h
    obtain ⟨y, l, rfl, h⟩ := uncons_inv h
    obtain ⟨rfl, h⟩ := uncons_nil_inv h
    obtain ⟨len, n, rfl, h⟩ := vStr_inv h
    obtain ⟨c, b, rfl, h⟩ := vInt_inv h
    obtain ⟨hc, h⟩ := bIf_yes h
    have hc := beq_iff'.1 hc
    subst hc
    obtain ⟨hb, h⟩ := bIf_yes h
    have hb := blt_iff.1 hb
    obtain ⟨fn, g1, g2⟩ := fB
    obtain ⟨v, hkv, hv⟩ : ∃ v, k v = true ∧ ∀ ρ : Valn, len ≤ 1000000 → VR ρ v (.int .i64 (Lib.indexByte (strB len n) (UInt8.ofNat b))) := by
      rcases findB_spec hb len n 0 with ⟨q1, q2⟩ | ⟨j, hj, q1, q2⟩
      · rw [q2] at h
        exact ⟨_, h, fun ρ _ => by rw [q1]; exact VR_m1⟩
      · rw [q2] at h
        exact ⟨_, h, fun ρ hl => by rw [q1, Nat.zero_add]; exact VR_i64 (by omega)⟩
    refine ⟨fn, v, g1, g2, hkv, fun ρ H w Args hA R => ?_⟩
    obtain ⟨X, L', rfl, hX, hA⟩ := hA.cons_inv
    obtain ⟨Y, L', rfl, hY, hA⟩ := hA.cons_inv
    simp only [VRs] at hA
    subst hA
    obtain ⟨hl, rfl⟩ := str hX
    simp only [VR] at hY
    obtain ⟨_, _, rfl⟩ := hY
    have es : sgn 4 b = (b : Int) := sgn_small hb
    rw [es]
    refine (hB _ _ w).mono fun e w' hh => ?_
    obtain ⟨rfl, rfl⟩ := hh
    have ec : ((b : Int).toNat).toUInt8 = UInt8.ofNat b := rfl
    refine ⟨_, rfl, ?_, R.rel, Step.refl _ _ _⟩
    rw [ec]
    exact hv ρ hl
  · rename_i hf
    have hf := beq_iff'.1 hf
    subst hf
    cases he
    obtain ⟨x, l, rfl, h1⟩ := uncons_inv h
    obtain ⟨y, l, rfl, h2⟩ := uncons_inv h1
    obtain ⟨rfl, h3⟩ := uncons_nil_inv h2
    obtain ⟨len, n, rfl, h4⟩ := vStr_inv h3
    obtain ⟨len', n', rfl, h5⟩ := vStr_inv h4
    obtain ⟨fn, g1, g2⟩ := fS
    obtain ⟨v, hkv, hv⟩ : ∃ v, k v = true ∧ ∀ ρ : Valn, len ≤ 1000000 → VR ρ v (.int .i64 (Lib.index (strB len n) (strB len' n'))) := by
      rcases findS_spec len' n' len n 0 with ⟨q1, q2⟩ | ⟨j, hj, q1, q2⟩
      · rw [q2] at h5
        exact ⟨_, h5, fun ρ _ => by rw [q1]; exact VR_m1⟩
      · rw [q2] at h5
        exact ⟨_, h5, fun ρ hl => by rw [q1, Nat.zero_add]; exact VR_i64 (by omega)⟩
    refine ⟨fn, v, g1, g2, hkv, fun ρ H w Args hA R => ?_⟩
    obtain ⟨X, L', rfl, hX, hA⟩ := hA.cons_inv
    obtain ⟨Y, L', rfl, hY, hA⟩ := hA.cons_inv
    simp only [VRs] at hA
    subst hA
    obtain ⟨hl, rfl⟩ := str hX
    obtain ⟨hl', rfl⟩ := str hY
    obtain ⟨m, hm⟩ := hm
    have hcell : w.cell? ⟨g, 0, none⟩ = some (.int .i64 m) := by
      rw [← hm]
      have hlt : g < w0.heap.size := by
        rcases Nat.lt_or_ge g w0.heap.size with h | h
        · exact h
        · have : w0.heap[g]? = none := Array.getElem?_eq_none h
          unfold World.cell? at hm
          rw [this] at hm
          cases hm
      have := R.above.same g hlt
      unfold World.cell?
      rw [this]
    refine (hS ⟨(strB len n).toArray⟩ ⟨(strB len' n').toArray⟩ m w ?_ hcell).mono fun e w' hh => ?_
    · show (strB len n).toArray.size < _
      rw [List.size_toArray, strB_length]; omega
    · obtain ⟨rfl, rfl⟩ := hh
      exact ⟨_, rfl, hv ρ hl, R.rel, Step.refl _ _ _⟩
  · cases he
end
end Go.Ev

namespace Go.Ev
open Go Go.ChangeAt Go.ChangeShapes Go.RowKit
set_option linter.unusedVariables false

theorem emptyHeap_get (a : Nat) : emptyHeap.get a = .none := by
  unfold Heap.get emptyHeap
  simp only [N8.get_all]
theorem start_rl (w : World) : Rl w (fun _ => none) emptyHeap w := by
  refine ⟨⟨by decide, fun a x h => absurd h (by simp), fun a _ => by rw [emptyHeap_get]; trivial, fun a a' _ _ h => by rw [emptyHeap_get] at h; cases h⟩, ⟨Nat.le_refl _, fun _ _ => rfl, fun b h => ?_, rfl, rfl, rfl⟩⟩
  obtain ⟨a, _, hl, _⟩ := h
  rw [emptyHeap_get] at hl
  cases hl
noncomputable def isT (r : Res) : Bool := resCase r (fun v => vBool v fun b => b) (fun _ => false)
/-- what the evaluator finds true at some arguments, a call returns true at, and nothing that was there turns -/
theorem law_calls {P : Program} (hm : P.follows .mixedOrders = true) (hn : Named P) {E : Nat → List Nat} {ext : Nat → Option Ext} {w : World} (hext : ExtOk P w ext) {n f : Nat} {args : List AV} {Args : List Value}
    (h : callF (pgF P) E ext n f args emptyHeap (fun r _ => isT r) = true) (hA : VRs (fun _ => none) args Args) : Calls P f (List.toArray Args) w fun e w' => e = .returned (.bool true) ∧ w.keptBut w' (fun _ => False) := by
  rw [pgF_eq] at h
  obtain ⟨fn, _, _, h3⟩ := callF_sound hm hn hext n f args emptyHeap _ h
  refine (h3 _ w Args hA (start_rl w)).mono fun e w' hR => ?_
  obtain ⟨ρ', H', r1, r2, r3⟩ := hR
  cases e with
  | returned V =>
    obtain ⟨v, r4, r5⟩ := r3
    obtain ⟨b, rfl, hb⟩ := vBool_inv (show vBool v (fun b => b) = true from r5)
    subst hb
    simp only [VR] at r4
    subst r4
    refine ⟨rfl, r1.above.os, r1.above.output, fun i hi => ?_⟩
    rw [r1.above.same i hi]
    have := (World.keptBut_refl w (fun _ => False)).2.2 i hi
    exact this
  | panicked chain =>
    obtain ⟨v, V, _, _, r5⟩ := r3
    exact absurd r5 Bool.false_ne_true
  | outgrown => exact r3.elim
/-- no function has the name that the model takes for its own -/
def namedB (P : Program) : Bool := P.funcs.toList.all fun fn => !fn.body.isSome || !(fn.name == "runtime.NumGoroutine")
theorem named_of {P : Program} (h : namedB P = true) : Named P := by
  intro f fn hf hb
  have := List.all_eq_true.1 h fn (List.mem_of_getElem? (by rw [Array.getElem?_toList]; exact hf))
  rw [hb] at this
  simpa using this
section
variable {H : Type} {enc : TypeId × Value → H}
/-- 'post' for a law whose arguments hold no memory -/
theorem post_law {P : Program} {f : Func} {s : ChangeSpec} {apart fresh handsOn again : Bool} {W W' : World} {args : Array Value} {v : Value} {ds gs : List (DataW H)} {before : List MemPlace} (hb : before = [])
    (hW : DataW.Whole enc P f.params.toList s.vars apart W args.toList ds gs before)
    (hres : ∀ (b : Nat) (sp : Nat → Bool) (hd : Bool), DataW.TrodAll enc P W' b sp hd f.resultTypes.toList (v.resultList f.resultTypes.size) (s.fn H (ds ++ gs)).results [])
    (hargs : ∀ sp : Nat → Bool, DataW.TrodAll enc P W' 0 sp true f.params.toList args.toList (s.fn H (ds ++ gs)).args [])
    (hvars : ∀ sp : Nat → Bool, DataW.TrodVars enc P W' sp s.vars (s.fn H (ds ++ gs)).vars [])
    (hk : W.keptBut W' (fun _ => False))
    (hok : ∀ (j : Nat) (t : TypeId) (r : Value), f.resultTypes[j]? = some t → (v.resultList f.resultTypes.size)[j]? = some r → Value.okWide P W' .any 0 t r) :
    s.post enc P f apart fresh handsOn again W args v W' := by
  subst hb
  refine ⟨ds, gs, [], [], [], [], hW, hres _ _ _, hargs _, hvars _, World.keptBut_mono (fun p hp => hp.elim) hk, fun _ => ?_⟩
  refine ⟨hok, _, _, ([] ++ []) ++ [], ⟨[] ++ [], [], trodAll_append (hargs _) (hres _ _ _), hvars _, rfl, ?_, ?_⟩, ?_⟩
  · intro b off hp; cases hp
  · intro _; exact List.nodup_nil
  · intro p hp _; cases hp
/-- the wrap: the row's list of variables and the world's shape -/
theorem returnsInHanded_of_law {a : Assume} {C : Checked} {os : Os} {f : FuncId} {fn : Func} {s : ChangeSpec} {conds : List PathCond} {apart fresh handsOn again : Bool} {X : World → Array Value → Prop}
    (own : ownKnob C.prog.godebug = none) (started : os.Started) (noInit : C.prog.inits.idxOf? f = none) (hfn : C.prog.funcs[f]? = some fn)
    (witness : ∃ (w : World) (tape : Tape) (i : Input), w.os = os ∧ (w.forCall tape i).Shaped C.prog ∧ i.vars = [] ∧ Input.okWide C.prog (w.forCall tape i) .any w.heap.size f i ∧
      ((s.pre enc C.prog fn conds apart (w.forCall tape i).memory i.args ∧ X (w.forCall tape i).memory i.args) ∧ sizedMet enc C.prog fn (OpenSpec.ofChange s) apart (w.forCall tape i).memory i.args) ∧ a.holds C.prog (lone (Frame.enter C.prog f i.args .normal) [] (w.forCall tape i)))
    (contract : ∀ (W : World) (base : Nat) (args : Array Value) (ds gs : List (DataW H)) (before : List MemPlace),
      (∀ (j : Nat) t v, fn.params[j]? = some t → args[j]? = some v → Value.okWide C.prog W .any base t v) →
      DataW.Whole enc C.prog fn.params.toList s.vars apart W args.toList ds gs before → W.ShapedOpen C.prog →
      Calls C.prog f args W fun e W' => ∃ v, e = .returned v ∧ s.post enc C.prog fn apart fresh handsOn again W args v W') :
    ReturnsInHanded a C os f .any (fun w args => (s.pre enc C.prog fn conds apart w args ∧ X w args) ∧ sizedMet enc C.prog fn (OpenSpec.ofChange s) apart w args) (s.post enc C.prog fn apart fresh handsOn again) := by
  refine returnsInHanded_of_calls own started noInit witness ?_
  intro w tape i _ hsh _ hok hpre hholds
  obtain ⟨_, _, _, fn', hfn', _, _, _, _, hval⟩ := hok
  have e : fn' = fn := Option.some.inj (hfn'.symm.trans hfn)
  subst e
  obtain ⟨⟨⟨ds, gs, before, hw, hc⟩, hx⟩, hz⟩ := hpre
  have hw' := DataW.Whole.of_heap (w' := w.forCall tape i) (by rfl) hw
  refine (contract (w.forCall tape i) w.heap.size i.args ds gs before hval hw' hsh).mono fun e W' ⟨v, he, hp⟩ => ?_
  subst he
  exact ChangeSpec.post_blind hp
end
end Go.Ev

namespace Go.Ev
open Go
set_option linter.unusedVariables false

/-! ### a law without arguments that was evaluated once stands for itself wherever it is called -/
noncomputable def extT : Ext := ⟨fun args k => uncons args (k (.bool true)) fun _ _ => false⟩
noncomputable def withT (iT : Nat) (ext : Nat → Option Ext) (f : Nat) : Option Ext := match Nat.beq f iT with
  | true => some extT
  | false => ext f
/-- the cell of a variable holds a number -/
def HoldsInt (w : World) (g : Nat) : Prop := ∃ m, w.cell? ⟨g, 0, none⟩ = some (.int .i64 m)
section
variable {P : Program}
theorem HoldsInt.above {w0 w : World} {g : Nat} (h : HoldsInt w0 g) (hs : ∀ b, b < w0.heap.size → w.heap[b]? = w0.heap[b]?) : HoldsInt w g := by
  obtain ⟨m, hm⟩ := h
  have hlt : g < w0.heap.size := by
    rcases Nat.lt_or_ge g w0.heap.size with h | h
    · exact h
    · have : w0.heap[g]? = none := Array.getElem?_eq_none h
      unfold World.cell? at hm
      rw [this] at hm
      cases hm
  refine ⟨m, ?_⟩
  rw [← hm]
  unfold World.cell?
  rw [hs g hlt]
theorem withT_ok (hm : P.follows .mixedOrders = true) (hn : Named P) {iT g n : Nat} {E : Nat → List Nat} {ext : Nat → Option Ext} (hext : ∀ w, HoldsInt w g → ExtOk P w ext)
    (h : callF (pgF P) E ext n iT [] emptyHeap (fun r _ => isT r) = true) : ∀ w, HoldsInt w g → ExtOk P w (withT iT ext) := by
  rw [pgF_eq] at h
  intro w0 hw0 f e he args k hk
  unfold withT at he
  split at he
  · rename_i hf
    have hf := beq_iff'.1 hf
    subst hf
    cases he
    obtain ⟨rfl, hk⟩ := uncons_nil_inv (show (uncons args (k (.bool true)) fun _ _ => false) = true from hk)
    obtain ⟨fn, h1, h2, h3⟩ := callF_sound hm hn (hext w0 hw0) n f [] emptyHeap _ h
    refine ⟨fn, .bool true, h1, h2, hk, fun ρ H w Args hA R => ?_⟩
    have hw := hw0.above R.above.same
    obtain ⟨_, _, _, h3⟩ := callF_sound hm hn (hext w hw) n f [] emptyHeap _ h
    simp only [VRs] at hA
    subst hA
    refine (h3 (fun _ => none) w [] VRs.nil (start_rl w)).mono fun e w' hR => ?_
    obtain ⟨ρ', H', r1, r2, r3⟩ := hR
    have A := r1.above
    cases e with
    | returned V =>
      obtain ⟨v, r4, r5⟩ := r3
      obtain ⟨b, rfl, hb⟩ := vBool_inv (show vBool v (fun b => b) = true from r5)
      subst hb
      simp only [VR] at r4
      subst r4
      refine ⟨_, rfl, VR_bool true, ⟨R.rel.next, R.rel.dom, fun a ha => (R.rel.obj a ha).mono (Valn.le_refl _) fun b κ hl hr => A.same b (R.rel.owns_lt ⟨a, ha, hl, κ, hr⟩), R.rel.inj⟩, ?_⟩
      exact ⟨Valn.le_refl _, fun _ _ => rfl, Nat.le_refl _, A.size, fun b hb _ => A.same b hb, fun b hb => .inr hb, fun _ _ hd => hd, A.tape, A.os, A.output⟩
    | panicked chain =>
      obtain ⟨v, V, _, _, r5⟩ := r3
      exact absurd r5 Bool.false_ne_true
    | outgrown => exact r3.elim
  · exact hext w0 hw0 f e he args k hk
end
end Go.Ev

namespace Go.Ev
open Go
set_option linter.unusedVariables false

/-! ### a residue of a number, by a function of the program -/
theorem tmod_pos {x m : Int} (hx : ¬ Int.tmod x m < 0) (hm : 0 < m) : Int.tmod x m = x % m := by
  have h2 : x % m = Int.tmod x m % m := by
    conv => lhs; rw [← Int.mul_tdiv_add_tmod x m]
    rw [Int.add_comm, Int.add_mul_emod_self_left]
  have h3 : Int.tmod x m < m := Int.tmod_lt_of_pos x hm
  rw [h2, Int.emod_eq_of_lt (by omega) h3]
theorem tmod_neg {x m : Int} (hx : Int.tmod x m < 0) (hm : 0 < m) : Int.tmod x m + m = x % m := by
  have h2 : x % m = Int.tmod x m % m := by
    conv => lhs; rw [← Int.mul_tdiv_add_tmod x m]
    rw [Int.add_comm, Int.add_mul_emod_self_left]
  have h3 : - m < Int.tmod x m := by
    have := Int.lt_tmod_of_pos x hm
    omega
  rw [h2, ← Int.add_emod_right, Int.emod_eq_of_lt (by omega) (by omega)]
noncomputable def extM : Ext := ⟨fun args k => uncons args false fun x l => uncons l false fun y l => uncons l (vInt y fun c2 b => bIf (Nat.beq c2 3) (bIf (Nat.blt 0 b) (bIf (Nat.blt b 2147483648)
  (vIntR x (fun c a => bIf (Nat.beq c 3) (bIf (Nat.blt a 9223372036854775808) (forceNat (Nat.mod a b) fun r => k (.int 3 r)) false) false)
    fun c m r => bIf (Nat.beq c 3) (bIf (Nat.beq b m) (k (.int 3 r)) false) false) false) false) false) fun _ _ => false⟩
noncomputable def withM (iM : Nat) (ext : Nat → Option Ext) (f : Nat) : Option Ext := match Nat.beq f iM with
  | true => some extM
  | false => ext f
section
variable {P : Program} {w0 : World}
theorem withM_ok {iM : Nat} {ext : Nat → Option Ext} (hext : ExtOk P w0 ext) (fM : ∃ fn, P.funcs[iM]? = some fn ∧ fn.body.isSome = true)
    (hM : ∀ (x m : Int) (w : World), 0 < m → m < 2147483648 → Calls P iM #[.int .i64 x, .int .i64 m] w fun e w' => e = .returned (.int .i64 (x % m)) ∧ w' = w) : ExtOk P w0 (withM iM ext) := by
  intro f e he args k h
  unfold withM at he
  split at he
  · rename_i hf
    have hf := beq_iff'.1 hf
    subst hf
    cases he
    obtain ⟨x, l, rfl, h1⟩ := uncons_inv h
    obtain ⟨y, l, rfl, h2⟩ := uncons_inv h1
    obtain ⟨rfl, h3⟩ := uncons_nil_inv h2
    obtain ⟨c2, b, rfl, h4⟩ := vInt_inv h3
    obtain ⟨h5, h6⟩ := bIf_yes h4
    obtain ⟨h7, h8⟩ := bIf_yes h6
    obtain ⟨h9, h10⟩ := bIf_yes h8
    have h5 := beq_iff'.1 h5
    have h7 := blt_iff.1 h7
    have h9 := blt_iff.1 h9
    subst h5
    obtain ⟨fn, g1, g2⟩ := fM
    obtain ⟨v, hkv, hv⟩ : ∃ v, k v = true ∧ ∀ (ρ : Valn) (X : Value), VR ρ x X → ∃ z : Int, X = .int .i64 z ∧ VR ρ v (.int .i64 (z % (b : Int))) := by
      rcases vIntR_inv h10 with ⟨c, a, rfl, q⟩ | ⟨c, m, r, rfl, q⟩
      · obtain ⟨q1, q2⟩ := bIf_yes q
        obtain ⟨q3, q4⟩ := bIf_yes q2
        have q1 := beq_iff'.1 q1
        have q3 := blt_iff.1 q3
        subst q1
        rw [forceNat_eq] at q4
        refine ⟨_, q4, fun ρ X hX => ?_⟩
        simp only [VR] at hX
        obtain ⟨_, _, rfl⟩ := hX
        refine ⟨_, rfl, ?_⟩
        rw [sgn_small (show a < halfOf 3 from q3)]
        have e : ((a : Int) % (b : Int)) = ((Nat.mod a b : Nat) : Int) := (Int.natCast_emod a b).symm
        rw [e]
        exact VR_i64 (Nat.lt_of_lt_of_le (Nat.mod_lt a h7) (by omega))
      · obtain ⟨q1, q2⟩ := bIf_yes q
        obtain ⟨q3, q4⟩ := bIf_yes q2
        have q1 := beq_iff'.1 q1
        have q3 := beq_iff'.1 q3
        subst q1
        subst q3
        refine ⟨_, q4, fun ρ X hX => ?_⟩
        simp only [VR] at hX
        obtain ⟨n, _, hn, rfl, _⟩ := hX
        refine ⟨_, rfl, ?_⟩
        rw [hn]
        refine VR_i64 ?_
        have := Int.emod_lt_of_pos (sgn (3 % 8) n) (by omega : (0 : Int) < (b : Int))
        rw [hn] at this
        omega
    refine ⟨fn, v, g1, g2, hkv, fun ρ H w Args hA R => ?_⟩
    obtain ⟨X, L', rfl, hX, hA⟩ := hA.cons_inv
    obtain ⟨Y, L', rfl, hY, hA⟩ := hA.cons_inv
    simp only [VRs] at hA
    subst hA
    obtain ⟨z, rfl, hz⟩ := hv ρ X hX
    simp only [VR] at hY
    obtain ⟨_, _, rfl⟩ := hY
    have es : sgn 3 b = (b : Int) := sgn_small (show b < halfOf 3 from Nat.lt_of_lt_of_le h9 (by decide))
    rw [es]
    refine (hM z b w (by omega) (by omega)).mono fun e w' hh => ?_
    obtain ⟨rfl, rfl⟩ := hh
    exact ⟨_, rfl, hz, R.rel, Step.refl _ _ _⟩
  · exact hext f e he args k h
end
/-- a number, as a residue -/
theorem VR_resid {ρ : Valn} {x : Int} {m : Nat} (hm : 0 < m) (h1 : -9223372036854775808 ≤ x) (h2 : x ≤ 9223372036854775807) : VR ρ (.resid 3 m (x % (m : Int)).toNat) (.int .i64 x) := by
  simp only [VR]
  refine ⟨(x % 18446744073709551616).toNat, ?_, ?_, ?_, fun h => absurd h (by decide)⟩
  · show _ < 18446744073709551616
    omega
  · have e : sgn (3 % 8) (x % 18446744073709551616).toNat = x := by
      show (if (x % 18446744073709551616).toNat < 9223372036854775808 then _ else _ - (18446744073709551616 : Int)) = x
      split <;> omega
    rw [e]
    have := Int.emod_nonneg x (by omega : (m : Int) ≠ 0)
    omega
  · have e : sgn (3 % 8) (x % 18446744073709551616).toNat = x := by
      show (if (x % 18446744073709551616).toNat < 9223372036854775808 then _ else _ - (18446744073709551616 : Int)) = x
      split <;> omega
    rw [e]; rfl
/-- a byte, as a residue -/
theorem VR_resid8 {ρ : Valn} {n m : Nat} (hn : n < 256) : VR ρ (.resid 4 m (n % m)) (.int .u8 n) := by
  simp only [VR]
  refine ⟨n, hn, ?_, ?_, fun h => absurd h (by decide)⟩
  · rw [sgn_small (show n < halfOf (4 % 8) from hn)]; exact (Int.natCast_emod n m).symm
  · rw [sgn_small (show n < halfOf (4 % 8) from hn)]; rfl
end Go.Ev

namespace Go.Ev
open Go
set_option linter.unusedVariables false

/-! ### a function from a string to a bool, by a table of what was evaluated -/
noncomputable def isB (b : Bool) (r : Res) : Bool := resCase r (fun v => vBool v fun c => bIf b c (bIf c false true)) (fun _ => false)
theorem isB_inv {b : Bool} {r : Res} (h : isB b r = true) : r = .val (.bool b) := by
  cases r with
  | pan v => exact absurd h Bool.false_ne_true
  | val v =>
    obtain ⟨c, rfl, hc⟩ := vBool_inv (show vBool v (fun c => bIf b c (bIf c false true)) = true from h)
    cases b <;> cases c <;> first | rfl | cases hc
section
variable {P : Program} {w0 : World}
/-- a call that was evaluated in an empty heap does the same in any, and leaves what is there -/
theorem pure_call (hm : P.follows .mixedOrders = true) (hn : Named P) {E : Nat → List Nat} {ext : Nat → Option Ext} {n f : Nat} {args : List AV} {b : Bool} {w : World} (hext : ExtOk P w ext) (h : callF (pgF P) E ext n f args emptyHeap (fun r _ => isB b r) = true) :
    ∃ fn, P.funcs[f]? = some fn ∧ fn.body.isSome = true ∧ ∀ (ρ : Valn) (H : Heap) (Args : List Value), VRs (fun _ => none) args Args → Rl w0 ρ H w →
      Calls P f (List.toArray Args) w fun e w' => e = .returned (.bool b) ∧ Rel ρ H w' ∧ Step ρ H w ρ H w' := by
  rw [pgF_eq] at h
  obtain ⟨fn, h1, h2, h3⟩ := callF_sound hm hn hext n f args emptyHeap _ h
  refine ⟨fn, h1, h2, fun ρ H Args hA R => (h3 (fun _ => none) w Args hA (start_rl w)).mono fun e w' hR => ?_⟩
  obtain ⟨ρ', H', r1, r2, r3⟩ := hR
  have A := r1.above
  cases e with
  | returned V =>
    obtain ⟨v, r4, r5⟩ := r3
    have hv := isB_inv r5
    cases hv
    simp only [VR] at r4
    subst r4
    refine ⟨rfl, ⟨R.rel.next, R.rel.dom, fun a ha => (R.rel.obj a ha).mono (Valn.le_refl _) fun b κ hl hr => A.same b (R.rel.owns_lt ⟨a, ha, hl, κ, hr⟩), R.rel.inj⟩, ?_⟩
    exact ⟨Valn.le_refl _, fun _ _ => rfl, Nat.le_refl _, A.size, fun b hb _ => A.same b hb, fun b hb => .inr hb, fun _ _ hd => hd, A.tape, A.os, A.output⟩
  | panicked chain =>
    obtain ⟨v, V, _, _, r5⟩ := r3
    exact absurd r5 Bool.false_ne_true
  | outgrown => exact r3.elim
noncomputable def lookB (tab : List (Nat × Nat × Bool)) (l m : Nat) (k : Bool → Bool) : Bool :=
  List.rec (motive := fun _ => Bool) false (fun e _ ih => bIf (Nat.beq e.1 l) (bIf (Nat.beq e.2.1 m) (k e.2.2) ih) ih) tab
theorem lookB_inv {l m : Nat} {k : Bool → Bool} : ∀ {tab : List (Nat × Nat × Bool)}, lookB tab l m k = true → ∃ e ∈ tab, e.1 = l ∧ e.2.1 = m ∧ k e.2.2 = true
  | [], h => absurd h Bool.false_ne_true
  | e :: tab, h => by
    have h : bIf (Nat.beq e.1 l) (bIf (Nat.beq e.2.1 m) (k e.2.2) (lookB tab l m k)) (lookB tab l m k) = true := h
    have next : lookB tab l m k = true → ∃ x ∈ e :: tab, x.1 = l ∧ x.2.1 = m ∧ k x.2.2 = true := fun h => by
      obtain ⟨x, h1, h2⟩ := lookB_inv h
      exact ⟨x, by simp [h1], h2⟩
    rcases bIf_inv h with ⟨h1, h⟩ | ⟨_, h⟩
    · rcases bIf_inv h with ⟨h2, h⟩ | ⟨_, h⟩
      · exact ⟨e, by simp, beq_iff'.1 h1, beq_iff'.1 h2, h⟩
      · exact next h
    · exact next h
noncomputable def extTab (tab : List (Nat × Nat × Bool)) : Ext := ⟨fun args k => uncons args false fun x l => uncons l (vStr x fun len n => forceNat (Nat.mod n (p8 len)) fun m => lookB tab len m fun b => k (.bool b)) fun _ _ => false⟩
noncomputable def withTab (iR : Nat) (tab : List (Nat × Nat × Bool)) (ext : Nat → Option Ext) (f : Nat) : Option Ext := match Nat.beq f iR with
  | true => some (extTab tab)
  | false => ext f
theorem withTab_ok (hm : P.follows .mixedOrders = true) (hn : Named P) {iR g n : Nat} {tab : List (Nat × Nat × Bool)} {E : Nat → List Nat} {ext ext1 : Nat → Option Ext} (hext : ∀ w, HoldsInt w g → ExtOk P w ext) (hext1 : ∀ w, HoldsInt w g → ExtOk P w ext1)
    (h : tab.all (fun e => callF (pgF P) E ext1 n iR [.str e.1 e.2.1] emptyHeap (fun r _ => isB e.2.2 r)) = true) : ∀ w, HoldsInt w g → ExtOk P w (withTab iR tab ext) := by
  intro w0 hw0 f e he args k hk
  unfold withTab at he
  split at he
  · rename_i hf
    have hf := beq_iff'.1 hf
    subst hf
    cases he
    obtain ⟨x, l, rfl, h1⟩ := uncons_inv hk
    obtain ⟨rfl, h2⟩ := uncons_nil_inv h1
    obtain ⟨len, n', rfl, h3⟩ := vStr_inv h2
    rw [forceNat_eq] at h3
    obtain ⟨e, he, e1, e2, hk⟩ := lookB_inv h3
    have hev := List.all_eq_true.1 h e he
    obtain ⟨fn, g1, g2, _⟩ := pure_call (w0 := w0) hm hn (hext1 w0 hw0) hev
    refine ⟨fn, .bool e.2.2, g1, g2, hk, fun ρ H w Args hA R => ?_⟩
    obtain ⟨_, _, _, g3⟩ := pure_call (w0 := w0) hm hn (hext1 w (hw0.above R.above.same)) hev
    have hA' : VRs (fun _ => none) [.str e.1 e.2.1] Args := by
      obtain ⟨X, L', rfl, hX, hA⟩ := hA.cons_inv
      simp only [VRs] at hA
      subst hA
      refine VRs.cons ?_ VRs.nil
      simp only [VR] at hX ⊢
      obtain ⟨hl, rfl⟩ := hX
      refine ⟨by rw [e1]; exact hl, ?_⟩
      rw [e1, e2]
      have : strB len (n'.mod (p8 len)) = strB len n' := (strB_eq _ _ _).2 (Nat.mod_mod n' (p8 len))
      rw [this]
    refine (g3 ρ H Args hA' R).mono fun e' w' hh => ?_
    obtain ⟨rfl, r1, r2⟩ := hh
    exact ⟨_, rfl, VR_bool _, r1, r2⟩
  · exact hext w0 hw0 f e he args k hk
end
end Go.Ev

namespace Go.Ev
open Go
set_option linter.unusedVariables false

/-! ### calls whose outcome is told by a contract, memory and all; the outcome may hang on what no abstract value tells -/
structure XExt where
  f : List AV → Heap → (AV → Heap → Bool) → Bool
noncomputable def callX (P : Pg) (E : Nat → List Nat) (ext : Nat → Option Ext) (X : Nat → Option XExt) : Nat → CallK :=
  callRec fun n call f args H k => match X f with
    | some ⟨x⟩ => x args H fun v H => k (.val v) H
    | none => (cfn P E ext f).f n call args H k
def XOk (P : Program) (w0 : World) (X : Nat → Option XExt) : Prop := ∀ (f : Nat) (e : XExt), X f = some e → ∀ (args : List AV) (H : Heap) (k : AV → Heap → Bool), e.f args H k = true →
  ∃ fn, P.funcs[f]? = some fn ∧ fn.body.isSome = true ∧ ∀ (ρ : Valn) (w : World) (Args : List Value), VRs ρ args Args → Rl w0 ρ H w →
    Calls P f (List.toArray Args) w fun e w' => ∃ V ρ' v H1, e = .returned V ∧ k v H1 = true ∧ VR ρ' v V ∧ Rel ρ' H1 w' ∧ Step ρ H w ρ' H1 w'
section
variable {P : Program} {E : Nat → List Nat} {w0 : World}
theorem callX_sound (hm : P.follows .mixedOrders = true) (hn : Named P) {ext : Nat → Option Ext} (hext : ExtOk P w0 ext) {X : Nat → Option XExt} (hX : XOk P w0 X) : ∀ n, CallOk P w0 (callX P E ext X n)
  | 0 => fun f args H k h => absurd h Bool.false_ne_true
  | n + 1 => by
    have base := cfn_sound (E := E) hm hn hext (n := n) (callX_sound hm hn hext hX n)
    intro f args H k h
    unfold callX at h
    rw [callRec_succ] at h
    have base : (cfn P E ext f).f n (callX P E ext X n) args H k = true → _ := base f args H k
    cases hx : X f with
    | none =>
      rw [hx] at h
      exact base h
    | some e =>
      rw [hx] at h
      obtain ⟨fn, h1, h2, h4⟩ := hX f e hx args H (fun v H => k (.val v) H) h
      refine ⟨fn, h1, h2, fun ρ w Args hA R => (h4 ρ w Args hA R).mono fun e w' hR => ?_⟩
      obtain ⟨V, ρ', v, H1, rfl, h3, hv, r1, r2⟩ := hR
      exact ⟨ρ', H1, ⟨r1, R.above.step r2⟩, r2, v, hv, h3⟩
/-- a law by the evaluator with such calls -/
theorem law_callsX (hm : P.follows .mixedOrders = true) (hn : Named P) {ext : Nat → Option Ext} {X : Nat → Option XExt} {w : World} (hext : ExtOk P w ext) (hX : XOk P w X) {n f : Nat} {args : List AV} {Args : List Value}
    (h : callX (pgF P) E ext X n f args emptyHeap (fun r _ => isT r) = true) (hA : VRs (fun _ => none) args Args) : Calls P f (List.toArray Args) w fun e w' => e = .returned (.bool true) ∧ w.keptBut w' (fun _ => False) := by
  rw [pgF_eq] at h
  obtain ⟨fn, _, _, h3⟩ := callX_sound hm hn hext hX n f args emptyHeap _ h
  refine (h3 _ w Args hA (start_rl w)).mono fun e w' hR => ?_
  obtain ⟨ρ', H', r1, r2, r3⟩ := hR
  cases e with
  | returned V =>
    obtain ⟨v, r4, r5⟩ := r3
    obtain ⟨b, rfl, hb⟩ := vBool_inv (show vBool v (fun b => b) = true from r5)
    subst hb
    simp only [VR] at r4
    subst r4
    refine ⟨rfl, r1.above.os, r1.above.output, fun i hi => ?_⟩
    rw [r1.above.same i hi]
    exact (World.keptBut_refl w (fun _ => False)).2.2 i hi
  | panicked chain =>
    obtain ⟨v, V, _, _, r5⟩ := r3
    exact absurd r5 Bool.false_ne_true
  | outgrown => exact r3.elim
end
end Go.Ev

namespace Go.Ev
open Go
set_option linter.unusedVariables false

/-! ### the evaluator's steps, as equations: for values that are not closed -/
theorem bIf_pos {b x y : Bool} (h : b = true) : bIf b x y = x := by subst h; rfl
theorem bIf_neg {b x y : Bool} (h : b = false) : bIf b x y = y := by subst h; rfl
theorem blt_yes {a b : Nat} (h : a < b) : Nat.blt a b = true := blt_iff.2 h
theorem blt_no {a b : Nat} (h : b ≤ a) : Nat.blt a b = false := by
  cases e : Nat.blt a b with
  | false => rfl
  | true => have := blt_iff.1 e; omega
theorem ble_yes {a b : Nat} (h : a ≤ b) : Nat.ble a b = true := ble_iff.2 h
theorem ble_no {a b : Nat} (h : b < a) : Nat.ble a b = false := by
  cases e : Nat.ble a b with
  | false => rfl
  | true => have := ble_iff.1 e; omega
theorem beq_yes {a b : Nat} (h : a = b) : Nat.beq a b = true := beq_iff'.2 h
theorem beq_no {a b : Nat} (h : a ≠ b) : Nat.beq a b = false := by
  cases e : Nat.beq a b with
  | false => rfl
  | true => exact absurd (beq_iff'.1 e) h
@[simp] theorem vInt_int (c n : Nat) (k : Nat → Nat → Bool) : vInt (.int c n) k = k c n := rfl
@[simp] theorem vBool_bool (b : Bool) (k : Bool → Bool) : vBool (.bool b) k = k b := rfl
@[simp] theorem vStr_str (l n : Nat) (k : Nat → Nat → Bool) : vStr (.str l n) k = k l n := rfl
@[simp] theorem vSlice_slice (a i l c : Nat) (u : Bool) (z : Nat) (k : Nat → Nat → Nat → Nat → Bool → Nat → Bool) : vSlice (.slice a i l c u z) k = k a i l c u z := rfl
@[simp] theorem vSliceN_slice (a i l c : Nat) (u : Bool) (z : Nat) (k0 : Bool) (k : Nat → Nat → Nat → Nat → Bool → Nat → Bool) : vSliceN (.slice a i l c u z) k0 k = k a i l c u z := rfl
@[simp] theorem vSliceN_nil (k0 : Bool) (k : Nat → Nat → Nat → Nat → Bool → Nat → Bool) : vSliceN (.nil .s) k0 k = k0 := rfl
@[simp] theorem vMap_map (a : Nat) (k : Nat → Bool) : vMap (.map a) k = k a := rfl
@[simp] theorem vFn_fn (f : Nat) (x y : List AV) (k : Nat → List AV → List AV → Bool) : vFn (.fn f x y) k = k f x y := rfl
@[simp] theorem vAgg_agg (n : Nat) (l : List AV) (k : Nat → List AV → Bool) : vAgg (.agg n l) k = k n l := rfl
@[simp] theorem vTup_tup (l : List AV) (k : List AV → Bool) : vTup (.tup l) k = k l := rfl
@[simp] theorem vCell_agg (n : Nat) (l : List AV) (kc : Bool) (ka : Nat → List AV → Bool) : vCell (.agg n l) kc ka = ka n l := rfl
@[simp] theorem vCell_int (c n : Nat) (kc : Bool) (ka : Nat → List AV → Bool) : vCell (.int c n) kc ka = kc := rfl
@[simp] theorem vCell_str (l n : Nat) (kc : Bool) (ka : Nat → List AV → Bool) : vCell (.str l n) kc ka = kc := rfl
@[simp] theorem vCell_bool (b : Bool) (kc : Bool) (ka : Nat → List AV → Bool) : vCell (.bool b) kc ka = kc := rfl
@[simp] theorem vCell_map (a : Nat) (kc : Bool) (ka : Nat → List AV → Bool) : vCell (.map a) kc ka = kc := rfl
@[simp] theorem vCell_opq (V : Value) (kc : Bool) (ka : Nat → List AV → Bool) : vCell (.opq V) kc ka = kc := rfl
@[simp] theorem vCell_nil (c : NK) (kc : Bool) (ka : Nat → List AV → Bool) : vCell (.nil c) kc ka = kc := rfl
@[simp] theorem vCell_slice (a i l c : Nat) (u : Bool) (z : Nat) (kc : Bool) (ka : Nat → List AV → Bool) : vCell (.slice a i l c u z) kc ka = kc := rfl
@[simp] theorem vGuard_bool (b : Bool) (kb : Bool → Bool) (ku : Bool) : vGuard (.bool b) kb ku = kb b := rfl
@[simp] theorem vGuard_undef (kb : Bool → Bool) (ku : Bool) : vGuard .undef kb ku = ku := rfl
@[simp] theorem vRef_ptr (a r s z : Nat) (k : Bool) : vRef (.ptr a r s z) k = k := rfl
@[simp] theorem oMap_map (es : List (AV × AV × Nat)) (clk : Nat) (k : List (AV × AV × Nat) → Nat → Bool) : oMap (.map es clk) k = k es clk := rfl
@[simp] theorem asIdx_int (n b : Nat) (k : Nat → Bool) : asIdx (.int 3 n) b k = bIf (Nat.blt n b) (k n) false := rfl
@[simp] theorem asI64_int (n b : Nat) (k : Nat → Bool) : asI64 (.int 3 n) b k = bIf (Nat.blt n b) (k n) false := rfl
@[simp] theorem row_r0 (r : List AV) (i : Nat) : (Rows.r0 r).row i = r := rfl
@[simp] theorem rowAt_r0 (r : List AV) (k : List AV → Bool) : rowAt (.r0 r) 0 k = k r := rfl
theorem grow_ok {rs : Rows} {n : Nat} (h : n ≤ 512) : ∃ rs', (∀ k, grow rs n k = k rs') ∧ n ≤ rs'.cap ∧ rs.cap ≤ rs'.cap ∧ ∀ i, i < rs.cap → rs'.row i = rs.row i := by
  have key : ∃ rs', ∀ k, grow rs n k = k rs' := by
    cases rs with
    | r0 r =>
      by_cases h1 : n ≤ 1
      · exact ⟨_, fun k => by show bIf (Nat.ble n 1) _ _ = _; rw [ble_yes h1]; rfl⟩
      · by_cases h2 : n ≤ 8
        · exact ⟨_, fun k => by show bIf (Nat.ble n 1) _ (bIf (Nat.ble n 8) _ _) = _; rw [ble_no (by omega), ble_yes h2]; rfl⟩
        · by_cases h3 : n ≤ 64
          · exact ⟨_, fun k => by show bIf (Nat.ble n 1) _ (bIf (Nat.ble n 8) _ (bIf (Nat.ble n 64) _ _)) = _; rw [ble_no (by omega), ble_no (by omega), ble_yes h3]; rfl⟩
          · exact ⟨_, fun k => by show bIf (Nat.ble n 1) _ (bIf (Nat.ble n 8) _ (bIf (Nat.ble n 64) _ (bIf (Nat.ble n 512) _ _))) = _; rw [ble_no (by omega), ble_no (by omega), ble_no (by omega), ble_yes h]; rfl⟩
    | r1 t =>
      by_cases h2 : n ≤ 8
      · exact ⟨_, fun k => by show bIf (Nat.ble n 8) _ _ = _; rw [ble_yes h2]; rfl⟩
      · by_cases h3 : n ≤ 64
        · exact ⟨_, fun k => by show bIf (Nat.ble n 8) _ (bIf (Nat.ble n 64) _ _) = _; rw [ble_no (by omega), ble_yes h3]; rfl⟩
        · exact ⟨_, fun k => by show bIf (Nat.ble n 8) _ (bIf (Nat.ble n 64) _ (bIf (Nat.ble n 512) _ _)) = _; rw [ble_no (by omega), ble_no (by omega), ble_yes h]; rfl⟩
    | r2 t =>
      by_cases h3 : n ≤ 64
      · exact ⟨_, fun k => by show bIf (Nat.ble n 64) _ _ = _; rw [ble_yes h3]; rfl⟩
      · exact ⟨_, fun k => by show bIf (Nat.ble n 64) _ (bIf (Nat.ble n 512) _ _) = _; rw [ble_no (by omega), ble_yes h]; rfl⟩
    | r3 t => exact ⟨_, fun k => by show bIf (Nat.ble n 512) _ _ = _; rw [ble_yes h]; rfl⟩
    | rf g c =>
      by_cases h3 : n ≤ c
      · exact ⟨_, fun k => by show bIf (Nat.ble n c) _ _ = _; rw [ble_yes h3]; rfl⟩
      · exact ⟨_, fun k => by show bIf (Nat.ble n c) _ _ = _; rw [ble_no (by omega)]; rfl⟩
  obtain ⟨rs', h1⟩ := key
  refine ⟨rs', h1, ?_⟩
  classical
  obtain ⟨rs2, g1, g2, g3, g4⟩ := grow_inv (rs := rs) (n := n) (k := fun r => decide (r = rs')) (by rw [h1]; simp)
  have : rs2 = rs' := by simpa using g1
  subst this
  exact ⟨g2, g3, g4⟩

/-! ### the heap -/
def Heap.add (H : Heap) (o : AObj) : Heap := { (H.put H.next o) with next := H.next + 1 }
theorem newO_eq {H : Heap} {o : AObj} {k : Nat → Heap → Bool} (h : H.next < 32768) : newO H o k = k H.next (H.add o) := by
  simp only [newO, hCase_eq]
  rw [blt_yes h, bIf_true, hp_u]
  rfl
@[simp] theorem Heap.add_next (H : Heap) (o : AObj) : (H.add o).next = H.next + 1 := rfl
@[simp] theorem Heap.put_next (H : Heap) (a : Nat) (o : AObj) : (H.put a o).next = H.next := rfl
theorem Heap.get_add {H : Heap} {o : AObj} {a : Nat} (h : H.next < 32768) (ha : a < 32768) : (H.add o).get a = if a = H.next then o else H.get a := by
  show (H.put H.next o).get a = _
  exact Heap.get_put H _ _ o h ha
theorem Heap.get_add_old {H : Heap} {o : AObj} {a : Nat} (h : H.next < 32768) (ha : a < H.next) : (H.add o).get a = H.get a := by
  rw [Heap.get_add h (by omega), if_neg (by omega)]
theorem Heap.get_add_new {H : Heap} {o : AObj} (h : H.next < 32768) : (H.add o).get H.next = o := by
  rw [Heap.get_add h h, if_pos rfl]
theorem Heap.get_put_same {H : Heap} {o : AObj} {a : Nat} (h : a < 32768) : (H.put a o).get a = o := by
  rw [Heap.get_put H a a o h h, if_pos rfl]
theorem Heap.get_put_ne {H : Heap} {o : AObj} {a a' : Nat} (h : a < 32768) (h' : a' < 32768) (hne : a' ≠ a) : (H.put a o).get a' = H.get a' := by
  rw [Heap.get_put H a a' o h h', if_neg hne]
/-- a heap with at most so many objects more, the elder ones as they were -/
structure Ex (H H' : Heap) (d : Nat) : Prop where
  next : H.next ≤ H'.next
  le : H'.next ≤ H.next + d
  same : ∀ a, a < H.next → H'.get a = H.get a
theorem Ex.refl (H : Heap) (d : Nat) : Ex H H d := ⟨Nat.le_refl _, by omega, fun _ _ => rfl⟩
theorem Ex.trans {H H1 H2 : Heap} {d d' : Nat} (h : Ex H H1 d) (h' : Ex H1 H2 d') : Ex H H2 (d + d') :=
  ⟨Nat.le_trans h.next h'.next, by have := h.le; have := h'.le; omega, fun a ha => (h'.same a (Nat.lt_of_lt_of_le ha h.next)).trans (h.same a ha)⟩
theorem Ex.mono {H H1 : Heap} {d d' : Nat} (h : Ex H H1 d) (hd : d ≤ d') : Ex H H1 d' := ⟨h.next, by have := h.le; omega, h.same⟩
theorem Ex.add {H : Heap} (o : AObj) (h : H.next < 32768) : Ex H (H.add o) 1 := ⟨by simp, by simp, fun a ha => Heap.get_add_old h ha⟩
/-- an object of the new ones may be turned -/
theorem Ex.put {H H1 : Heap} {d a : Nat} {o : AObj} (h : Ex H H1 d) (ha : H.next ≤ a) (hl : a < 32768) : Ex H (H1.put a o) d :=
  ⟨h.next, h.le, fun b hb => by rw [Heap.get_put_ne hl (by omega) (by omega)]; exact h.same b hb⟩

/-! ### calls -/
section
variable {P : Program} {E : Nat → List Nat} {ext : Nat → Option Ext} {X : Nat → Option XExt}
theorem callX_succ (n f : Nat) (args : List AV) (H : Heap) (k : Res → Heap → Bool) (hX : X f = none) : callX (pgF P) E ext X (n + 1) f args H k = (cfn (pgF P) E ext f).f n (callX (pgF P) E ext X n) args H k := by
  unfold callX
  rw [callRec_succ]
  simp only [hX]
theorem callX_ext (n f : Nat) (x : XExt) (args : List AV) (H : Heap) (k : Res → Heap → Bool) (hX : X f = some x) : callX (pgF P) E ext X (n + 1) f args H k = x.f args H fun v H => k (.val v) H := by
  unfold callX
  rw [callRec_succ]
  simp only [hX]
end
theorem noDs_nil {T : TT} {b : Bool} (h : T.ds = []) : noDs T b = b := by unfold noDs; rw [h]; rfl
end Go.Ev

namespace Go.Ev
open Go
set_option linter.unusedVariables false

/-! ### numbers, places, entering a call -/
theorem addH {a : Nat} (ha : a < 9223372036854775808) : Nat.mod (Nat.add a 9223372036854775808) 18446744073709551616 = a + 9223372036854775808 := Nat.mod_eq_of_lt (show a + 9223372036854775808 < _ by omega)
theorem lss_eq {a b : Nat} (ha : a < 9223372036854775808) (hb : b < 9223372036854775808) : lssN 9223372036854775808 18446744073709551616 a b = Nat.blt a b := by
  unfold lssN
  rw [addH ha, addH hb, Bool.eq_iff_iff, blt_iff, blt_iff]
  omega
theorem leq_eq {a b : Nat} (ha : a < 9223372036854775808) (hb : b < 9223372036854775808) : leqN 9223372036854775808 18446744073709551616 a b = Nat.ble a b := by
  unfold leqN
  rw [addH ha, addH hb, Bool.eq_iff_iff, ble_iff, ble_iff]
  omega
theorem lss_yes {a b : Nat} (h : a < b) (hb : b < 9223372036854775808) : lssN 9223372036854775808 18446744073709551616 a b = true := by rw [lss_eq (by omega) hb]; exact blt_yes h
theorem lss_no {a b : Nat} (h : b ≤ a) (ha : a < 9223372036854775808) : lssN 9223372036854775808 18446744073709551616 a b = false := by rw [lss_eq ha (by omega)]; exact blt_no h
theorem leq_yes {a b : Nat} (h : a ≤ b) (hb : b < 9223372036854775808) : leqN 9223372036854775808 18446744073709551616 a b = true := by rw [leq_eq (by omega) hb]; exact ble_yes h
theorem leq_no {a b : Nat} (h : b < a) (ha : a < 9223372036854775808) : leqN 9223372036854775808 18446744073709551616 a b = false := by rw [leq_eq ha (by omega)]; exact ble_no h
/-- -1 is less than what is not -/
theorem lss_m1 {b : Nat} (hb : b < 9223372036854775808) : lssN 9223372036854775808 18446744073709551616 18446744073709551615 b = true := by
  unfold lssN
  have e1 : Nat.mod (Nat.add 18446744073709551615 9223372036854775808) 18446744073709551616 = 9223372036854775807 := by decide
  rw [addH hb, e1]
  exact blt_yes (by omega)
theorem leq_m1 {b : Nat} (hb : b < 9223372036854775808) : leqN 9223372036854775808 18446744073709551616 b 18446744073709551615 = false := by
  unfold leqN
  have e1 : Nat.mod (Nat.add 18446744073709551615 9223372036854775808) 18446744073709551616 = 9223372036854775807 := by decide
  rw [addH hb, e1]
  exact ble_no (by omega)
theorem inc_eq {a : Nat} (ha : a < 18446744073709551615) : addN 18446744073709551616 a 1 = a + 1 := Nat.mod_eq_of_lt (show a + 1 < _ by omega)
theorem dec_eq {a : Nat} (h0 : 0 < a) (ha : a < 18446744073709551616) : subN 18446744073709551616 a 1 = a - 1 := by
  show (a + 18446744073709551616 - 1) % 18446744073709551616 = a - 1
  omega
def TT0 : TT := ⟨undef8, undef8, undef8, undef8, undef8, undef8, undef8, undef8, []⟩
theorem initT1 (a : AV) (k : TT → Bool) : initT [a] k = k (TT0.setSlot 0 a) := rfl
theorem initT2 (a b : AV) (k : TT → Bool) : initT [a, b] k = k ((TT0.setSlot 0 a).setSlot 1 b) := rfl
theorem lenC1 (a : AV) (b : Bool) : lenC [a] 1 b = b := rfl
theorem lenC2 (a a' : AV) (b : Bool) : lenC [a, a'] 2 b = b := rfl
theorem noDs_set (T : TT) (i : Nat) (v : AV) (b : Bool) : noDs (T.setSlot i v) b = noDs T b := by unfold noDs; rw [TT.ds_setSlot]
theorem noDs0 (b : Bool) : noDs TT0 b = b := rfl
theorem slot_same (T : TT) (i : Nat) (v : AV) (h : i < 64) : (T.setSlot i v).slot i = v := by rw [TT.slot_setSlot T i i v h h, if_pos rfl]
theorem slot_ne (T : TT) (i j : Nat) (v : AV) (h : i < 64) (h' : j < 64) (hn : j ≠ i) : (T.setSlot i v).slot j = T.slot j := by rw [TT.slot_setSlot T i j v h h', if_neg hn]
@[simp] theorem uncons_c {α : Type} (a : α) (l : List α) (e : Bool) (k : α → List α → Bool) : uncons (a :: l) e k = k a l := rfl
theorem nthC0 (a : AV) (l : List AV) (k : AV → Bool) : nthC (a :: l) 0 k = k a := rfl
theorem nthC_s (a : AV) (l : List AV) (n : Nat) (k : AV → Bool) : nthC (a :: l) (n + 1) k = nthC l n k := rfl
theorem setRow_r0 (r q : List AV) (k : Rows → Bool) : setRow (.r0 r) 0 q k = k (.r0 q) := rfl
theorem varObj_eq (el z : Nat) (row : List AV) : varObj el z row = .cells (.r0 row) 1 z el false false := rfl
theorem cellsN_agg (n : Nat) (l : List AV) (k : List AV → Bool) : cellsN (.agg n l) n k = k l := by
  show bIf (Nat.beq n n) (k l) false = k l
  rw [beq_yes rfl]; rfl
end Go.Ev
namespace Go.Ev
open Go
set_option linter.unusedVariables false
/-! ### append, and what is copied out of a slice -/
theorem putRows_one (r : List AV) (rs : Rows) (i : Nat) (k : Rows → Bool) : putRows [r] rs i k = k (rs.setR i r) := by
  show setRow rs i r (fun rs => k rs) = _
  rw [setRow_eq]
theorem withRows_one (k : Rows → Bool) : withRows 1 k = k (.r0 []) := rfl
theorem append_new {e z b : Nat} {r : List AV} {H : Heap} {k : AV → Heap → Bool} (hb : b ≤ 100000) (h : H.next < 32768) :
    appendTo e z b (.nil .s) 1 [r] H k = k (.slice H.next 0 1 0 true z) (H.add (.cells (.r0 r) 1 z e true false)) := by
  have e1 : Nat.ble (Nat.mul 1 b) 100000 = true := ble_yes (show 1 * b ≤ 100000 by omega)
  unfold appendTo newRows
  rw [vSliceN_nil, bIf_neg (rfl : Nat.beq 1 0 = false), bIf_pos e1, withRows_one, putRows_one, newO_eq h]
  rfl
theorem append_one {e z b a n : Nat} {rs : Rows} {r : List AV} {H : Heap} (hg : H.get a = .cells rs n z e true false) (hc : n ≤ rs.cap) (hn : n + 1 ≤ 512) (hb : (n + 1) * b ≤ 100000) (h : H.next < 32768) (ha : a < H.next) :
    ∃ rs', (∀ k, appendTo e z b (.slice a 0 n 0 true z) 1 [r] H k = k (.slice H.next 0 (n + 1) 0 true z) ((H.put a .dead).add (.cells rs' (n + 1) z e true false))) ∧ n + 1 ≤ rs'.cap ∧ (∀ i, i < n → rs'.row i = rs.row i) ∧ rs'.row n = r := by
  obtain ⟨rs1, g1, g2, g3, g4⟩ := grow_ok (rs := rs) hn
  refine ⟨rs1.setR n r, fun k => ?_, by rw [Rows.cap_setR]; exact g2, fun i hi => ?_, ?_⟩
  · have e1 : Nat.ble (Nat.mul (Nat.add n 1) b) 100000 = true := ble_yes hb
    unfold appendTo
    rw [vSliceN_slice, getO_eq, hg, oCells_cells, bIf_false, bIf_pos (beq_yes rfl), bIf_pos (beq_yes rfl), bIf_pos (beq_yes rfl), forceNat_eq, bIf_pos e1]
    rw [bIf_true, bIf_true, bIf_pos (beq_yes rfl), bIf_pos (beq_yes rfl), bIf_pos (beq_yes rfl)]
    show grow rs (n + 1) _ = _
    rw [g1, putRows_one, putO_eq, newO_eq (by simpa using h)]
    rfl
  · rw [Rows.row_setR _ _ _ _ (by omega) (by omega), if_neg (by omega)]; exact g4 i (by omega)
  · rw [Rows.row_setR _ _ _ _ (by omega) (by omega), if_pos rfl]
theorem src_one {z a c el n : Nat} {u u' ro : Bool} {rs : Rows} {H : Heap} {k : Nat → List (List AV) → Bool} (hg : H.get a = .cells rs n z el u' ro) (hn : 1 ≤ n) (hc : n ≤ rs.cap) :
    srcRows z (.slice a 0 1 c u z) H k = k 1 [rs.row 0] := by
  have e1 : Nat.ble (Nat.add 0 1) n = true := ble_yes hn
  unfold srcRows
  rw [vSliceN_slice, bIf_pos (beq_yes rfl), getO_eq, hg, oCells_cells, bIf_pos e1, bIf_pos (beq_yes rfl), bIf_pos (rfl : Nat.ble 1 512 = true)]
  show rowsC rs 1 0 _ = _
  rw [rowsC_succ, rowAt_eq (by omega)]
  rfl
end Go.Ev

namespace Go.Ev
def bodyOf (f : Go.Func) : Go.Code := f.body.getD .skip
noncomputable def cA : Go.Code → Go.Code
  | .seq a _ => a
  | .cond _ a _ => a
  | .block _ c => c
  | .loop c => c
  | c => c
noncomputable def cB : Go.Code → Go.Code
  | .seq _ b => b
  | .cond _ _ b => b
  | c => c
def opsOf : Go.Code → Array Go.Oper
  | .region _ ops _ => ops
  | _ => #[]
end Go.Ev
