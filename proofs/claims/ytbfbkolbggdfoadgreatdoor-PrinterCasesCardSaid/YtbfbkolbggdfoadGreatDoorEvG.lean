/- From the evaluator to a law of plain arguments. This holds of every program of the model, at any numbering. -/
import Derived.Test.YtbfbkolbggdfoadGreatDoorEvF
import Derived.Lib.Index
import Derived.RowKit3
import Derived.ProofKit
import Derived.Handed
import Derived.LaidMore
namespace Go.Ev
open Go
set_option linter.unusedVariables false

/-! ### two functions of the library by their contracts -/
def m1 : AV := .int 3 18446744073709551615
theorem VR_m1 {ρ : Valn} : VR ρ m1 (.int .i64 (-1)) := by
  have := VR_int (ρ := ρ) (c := 3) (r := 18446744073709551615) (by decide) (by decide)
  exact this
noncomputable def findB (c : Nat) (len : Nat) : Nat → Nat → (AV → Bool) → Bool :=
  Nat.rec (motive := fun _ => Nat → Nat → (AV → Bool) → Bool) (fun _ _ k => k m1)
    (fun _ ih n i k => bIf (Nat.beq (Nat.mod n 256) c) (k (.int 3 i)) (forceNat (Nat.div n 256) fun n => forceNat (Nat.succ i) fun i => ih n i k)) len
theorem findB_zero (c n i : Nat) (k : AV → Bool) : findB c 0 n i k = k m1 := rfl
theorem findB_succ (c l n i : Nat) (k : AV → Bool) : findB c (l + 1) n i k = bIf (Nat.beq (Nat.mod n 256) c) (k (.int 3 i)) (findB c l (n / 256) (i + 1) k) := by
  show bIf _ _ (forceNat (Nat.div n 256) fun n => forceNat (Nat.succ i) fun i => findB c l n i k) = _
  rw [forceNat_eq, forceNat_eq]; rfl
theorem findB_spec {c : Nat} (hc : c < 256) : ∀ (l n i : Nat), (Lib.indexByte (strB l n) (UInt8.ofNat c) = -1 ∧ ∀ k, findB c l n i k = k m1) ∨ ∃ j, j < l ∧ Lib.indexByte (strB l n) (UInt8.ofNat c) = j ∧ ∀ k, findB c l n i k = k (.int 3 (i + j))
  | 0, n, i => .inl ⟨rfl, fun k => rfl⟩
  | l + 1, n, i => by
    have hu : Lib.indexByte (strB (l + 1) n) (UInt8.ofNat c) = if UInt8.ofNat (n % 256) == UInt8.ofNat c then 0 else if Lib.indexByte (strB l (n / 256)) (UInt8.ofNat c) == -1 then -1 else Lib.indexByte (strB l (n / 256)) (UInt8.ofNat c) + 1 := rfl
    by_cases hq : n % 256 = c
    · refine .inr ⟨0, by omega, ?_, fun k => ?_⟩
      · rw [hu, if_pos (by rw [hq]; simp)]; rfl
      · rw [findB_succ, beq_iff'.2 (show Nat.mod n 256 = c from hq)]; rfl
    · have hne : Nat.beq (Nat.mod n 256) c = false := by
        cases hb : Nat.beq (Nat.mod n 256) c with
        | false => rfl
        | true => exact absurd (beq_iff'.1 hb) hq
      have hne2 : ¬ (UInt8.ofNat (n % 256) == UInt8.ofNat c) = true := by
        rw [beq_iff_eq, ofNat_eq (Nat.mod_lt _ (by decide)) hc]; exact hq
      rcases findB_spec hc l (n / 256) (i + 1) with ⟨h1, h2⟩ | ⟨j, hj, h1, h2⟩
      · refine .inl ⟨?_, fun k => ?_⟩
        · rw [hu, if_neg hne2, h1]; rfl
        · rw [findB_succ, hne, bIf_false, h2]
      · refine .inr ⟨j + 1, by omega, ?_, fun k => ?_⟩
        · rw [hu, if_neg hne2, h1, if_neg (by rw [beq_iff_eq]; omega)]; rfl
        · rw [findB_succ, hne, bIf_false, h2, show i + 1 + j = i + (j + 1) by omega]
noncomputable def findS (l' n' : Nat) (len : Nat) : Nat → Nat → (AV → Bool) → Bool :=
  Nat.rec (motive := fun _ => Nat → Nat → (AV → Bool) → Bool) (fun _ i k => bIf (Nat.beq l' 0) (k (.int 3 i)) (k m1))
    (fun r ih n i k => bIf (bIf (Nat.ble l' (Nat.succ r)) (Nat.beq (Nat.mod n (p8 l')) (Nat.mod n' (p8 l'))) false) (k (.int 3 i)) (forceNat (Nat.div n 256) fun n => forceNat (Nat.succ i) fun i => ih n i k)) len
theorem findS_zero (l' n' n i : Nat) (k : AV → Bool) : findS l' n' 0 n i k = bIf (Nat.beq l' 0) (k (.int 3 i)) (k m1) := rfl
theorem findS_succ (l' n' l n i : Nat) (k : AV → Bool) : findS l' n' (l + 1) n i k =
    bIf (bIf (Nat.ble l' (l + 1)) (Nat.beq (Nat.mod n (p8 l')) (Nat.mod n' (p8 l'))) false) (k (.int 3 i)) (findS l' n' l (n / 256) (i + 1) k) := by
  show bIf _ _ (forceNat (Nat.div n 256) fun n => forceNat (Nat.succ i) fun i => findS l' n' l n i k) = _
  rw [forceNat_eq, forceNat_eq]; rfl
theorem prefix_iff (l' n' l n : Nat) : (strB l' n').isPrefixOf (strB l n) = bIf (Nat.ble l' l) (Nat.beq (Nat.mod n (p8 l')) (Nat.mod n' (p8 l'))) false := by
  rw [Bool.eq_iff_iff, List.isPrefixOf_iff_prefix]
  constructor
  · intro h
    have hl := h.length_le
    rw [strB_length, strB_length] at hl
    rw [ble_iff.2 hl, bIf_true, beq_iff']
    have ht := List.prefix_iff_eq_take.1 h
    rw [strB_length, ← strB_take _ _ _ hl] at ht
    exact ((strB_eq l' n' n).1 ht).symm
  · intro h
    obtain ⟨h1, h2⟩ := bIf_yes h
    have hl := ble_iff.1 h1
    rw [List.prefix_iff_eq_take, strB_length, ← strB_take _ _ _ hl]
    exact (strB_eq l' n' n).2 (beq_iff'.1 h2).symm
theorem findS_spec (l' n' : Nat) : ∀ (l n i : Nat), (Lib.index (strB l n) (strB l' n') = -1 ∧ ∀ k, findS l' n' l n i k = k m1) ∨ ∃ j, j ≤ l ∧ Lib.index (strB l n) (strB l' n') = j ∧ ∀ k, findS l' n' l n i k = k (.int 3 (i + j))
  | 0, n, i => by
    have hu : Lib.index (strB 0 n) (strB l' n') = if (strB l' n').isEmpty then 0 else -1 := rfl
    cases l' with
    | zero => exact .inr ⟨0, Nat.le_refl _, by rw [hu]; rfl, fun k => rfl⟩
    | succ l' => exact .inl ⟨by rw [hu]; rfl, fun k => rfl⟩
  | l + 1, n, i => by
    have hu : Lib.index (strB (l + 1) n) (strB l' n') = if (strB l' n').isPrefixOf (strB (l + 1) n) then 0 else if Lib.index (strB l (n / 256)) (strB l' n') == -1 then -1 else Lib.index (strB l (n / 256)) (strB l' n') + 1 := rfl
    rw [prefix_iff] at hu
    cases hq : bIf (Nat.ble l' (l + 1)) (Nat.beq (Nat.mod n (p8 l')) (Nat.mod n' (p8 l'))) false with
    | true =>
      refine .inr ⟨0, by omega, ?_, fun k => ?_⟩
      · rw [hu, if_pos hq]; rfl
      · rw [findS_succ, hq]; rfl
    | false =>
      rw [if_neg (by rw [hq]; exact Bool.false_ne_true)] at hu
      rcases findS_spec l' n' l (n / 256) (i + 1) with ⟨h1, h2⟩ | ⟨j, hj, h1, h2⟩
      · refine .inl ⟨?_, fun k => ?_⟩
        · rw [hu, h1]; rfl
        · rw [findS_succ, hq, bIf_false, h2]
      · refine .inr ⟨j + 1, by omega, ?_, fun k => ?_⟩
        · rw [hu, h1, if_neg (by rw [beq_iff_eq]; omega)]; rfl
        · rw [findS_succ, hq, bIf_false, h2, show i + 1 + j = i + (j + 1) by omega]
noncomputable def extB : Ext := ⟨fun args k => uncons args false fun x l => uncons l false fun y l => uncons l (vStr x fun len n => vInt y fun c b => bIf (Nat.beq c 4) (bIf (Nat.blt b 256) (findB b len n 0 k) false) false) fun _ _ => false⟩
noncomputable def extS : Ext := ⟨fun args k => uncons args false fun x l => uncons l false fun y l => uncons l (vStr x fun len n => vStr y fun len' n' => findS len' n' len n 0 k) fun _ _ => false⟩
/-- the two, at their numbers -/
noncomputable def ext2 (iB iS f : Nat) : Option Ext := match Nat.beq f iB, Nat.beq f iS with
  | true, _ => some extB
  | false, true => some extS
  | false, false => none
theorem uncons_inv {α : Type} {l : List α} {k : α → List α → Bool} (h : uncons l false k = true) : ∃ x l', l = x :: l' ∧ k x l' = true := by
  cases l with
  | nil => cases h
  | cons x l => exact ⟨x, l, rfl, h⟩
theorem uncons_nil_inv {α : Type} {l : List α} {e : Bool} (h : (uncons l e fun _ _ => false) = true) : l = [] ∧ e = true := by
  cases l with
  | nil => exact ⟨rfl, h⟩
  | cons x l => cases h
section
variable {P : Program} {w0 : World}
theorem ext2_ok {iB iS g : Nat} (fB : ∃ fn, P.funcs[iB]? = some fn ∧ fn.body.isSome = true) (fS : ∃ fn, P.funcs[iS]? = some fn ∧ fn.body.isSome = true)
    (hB : ∀ (s : ByteArray) (c : Int) (w : World), Calls P iB #[.string s, .int .u8 c] w fun e w' => e = .returned (.int .i64 (Lib.indexByte s.data.toList c.toNat.toUInt8)) ∧ w' = w)
    (hS : ∀ (s sub : ByteArray) (m : Int) (w : World), s.size < 4294967281 → w.cell? ⟨g, 0, none⟩ = some (.int .i64 m) → Calls P iS #[.string s, .string sub] w fun e w' => e = .returned (.int .i64 (Lib.index s.data.toList sub.data.toList)) ∧ w' = w)
    (hm : ∃ m, w0.cell? ⟨g, 0, none⟩ = some (.int .i64 m)) : ExtOk P w0 (ext2 iB iS) := by
  intro f e he args k h
  unfold ext2 at he
  have str : ∀ {ρ : Valn} {l n : Nat} {V : Value}, VR ρ (.str l n) V → l ≤ 1000000 ∧ V = .string ⟨(strB l n).toArray⟩ := fun h => by simpa only [VR] using h
  split at he
  · rename_i hf
    have hf := beq_iff'.1 hf
    subst hf
    cases he
    obtain ⟨x, l, rfl, h⟩ := uncons_inv h
    obtain ⟨y, l, rfl, h⟩ := uncons_inv h
    obtain ⟨rfl, h⟩ := uncons_nil_inv h
    obtain ⟨len, n, rfl, h⟩ := vStr_inv h
    obtain ⟨c, b, rfl, h⟩ := vInt_inv h
    obtain ⟨hc, h⟩ := bIf_yes h
    have hc := beq_iff'.1 hc
    subst hc
    obtain ⟨hb, h⟩ := bIf_yes h
    have hb := blt_iff.1 hb
    obtain ⟨fn, g1, g2⟩ := fB
    obtain ⟨v, hkv, hv⟩ : ∃ v, k v = true ∧ ∀ ρ : Valn, len ≤ 1000000 → VR ρ v (.int .i64 (Lib.indexByte (strB len n) (UInt8.ofNat b))) := by
      rcases findB_spec hb len n 0 with ⟨q1, q2⟩ | ⟨j, hj, q1, q2⟩
      · rw [q2] at h
        exact ⟨_, h, fun ρ _ => by rw [q1]; exact VR_m1⟩
      · rw [q2] at h
        exact ⟨_, h, fun ρ hl => by rw [q1, Nat.zero_add]; exact VR_i64 (by omega)⟩
    refine ⟨fn, v, g1, g2, hkv, fun ρ H w Args hA R => ?_⟩
    obtain ⟨X, L', rfl, hX, hA⟩ := hA.cons_inv
    obtain ⟨Y, L', rfl, hY, hA⟩ := hA.cons_inv
    simp only [VRs] at hA
    subst hA
    obtain ⟨hl, rfl⟩ := str hX
    simp only [VR] at hY
    obtain ⟨_, _, rfl⟩ := hY
    have es : sgn 4 b = (b : Int) := sgn_small hb
    rw [es]
    refine (hB _ _ w).mono fun e w' hh => ?_
    obtain ⟨rfl, rfl⟩ := hh
    have ec : ((b : Int).toNat).toUInt8 = UInt8.ofNat b := rfl
    refine ⟨_, rfl, ?_, R.rel, Step.refl _ _ _⟩
    rw [ec]
    exact hv ρ hl
  · rename_i hf
    have hf := beq_iff'.1 hf
    subst hf
    cases he
    obtain ⟨x, l, rfl, h1⟩ := uncons_inv h
    obtain ⟨y, l, rfl, h2⟩ := uncons_inv h1
    obtain ⟨rfl, h3⟩ := uncons_nil_inv h2
    obtain ⟨len, n, rfl, h4⟩ := vStr_inv h3
    obtain ⟨len', n', rfl, h5⟩ := vStr_inv h4
    obtain ⟨fn, g1, g2⟩ := fS
    obtain ⟨v, hkv, hv⟩ : ∃ v, k v = true ∧ ∀ ρ : Valn, len ≤ 1000000 → VR ρ v (.int .i64 (Lib.index (strB len n) (strB len' n'))) := by
      rcases findS_spec len' n' len n 0 with ⟨q1, q2⟩ | ⟨j, hj, q1, q2⟩
      · rw [q2] at h5
        exact ⟨_, h5, fun ρ _ => by rw [q1]; exact VR_m1⟩
      · rw [q2] at h5
        exact ⟨_, h5, fun ρ hl => by rw [q1, Nat.zero_add]; exact VR_i64 (by omega)⟩
    refine ⟨fn, v, g1, g2, hkv, fun ρ H w Args hA R => ?_⟩
    obtain ⟨X, L', rfl, hX, hA⟩ := hA.cons_inv
    obtain ⟨Y, L', rfl, hY, hA⟩ := hA.cons_inv
    simp only [VRs] at hA
    subst hA
    obtain ⟨hl, rfl⟩ := str hX
    obtain ⟨hl', rfl⟩ := str hY
    obtain ⟨m, hm⟩ := hm
    have hcell : w.cell? ⟨g, 0, none⟩ = some (.int .i64 m) := by
      rw [← hm]
      have hlt : g < w0.heap.size := by
        rcases Nat.lt_or_ge g w0.heap.size with h | h
        · exact h
        · have : w0.heap[g]? = none := Array.getElem?_eq_none h
          unfold World.cell? at hm
          rw [this] at hm
          cases hm
      have := R.above.same g hlt
      unfold World.cell?
      rw [this]
    refine (hS ⟨(strB len n).toArray⟩ ⟨(strB len' n').toArray⟩ m w ?_ hcell).mono fun e w' hh => ?_
    · show (strB len n).toArray.size < _
      rw [List.size_toArray, strB_length]; omega
    · obtain ⟨rfl, rfl⟩ := hh
      exact ⟨_, rfl, hv ρ hl, R.rel, Step.refl _ _ _⟩
  · cases he
end
end Go.Ev

namespace Go.Ev
open Go Go.ChangeAt Go.ChangeShapes Go.RowKit
set_option linter.unusedVariables false

theorem emptyHeap_get (a : Nat) : emptyHeap.get a = .none := by
  unfold Heap.get emptyHeap
  simp only [N8.get_all]
theorem start_rl (w : World) : Rl w (fun _ => none) emptyHeap w := by
  refine ⟨⟨by decide, fun a x h => absurd h (by simp), fun a _ => by rw [emptyHeap_get]; trivial, fun a a' _ _ h => by rw [emptyHeap_get] at h; cases h⟩, ⟨Nat.le_refl _, fun _ _ => rfl, fun b h => ?_, rfl, rfl, rfl⟩⟩
  obtain ⟨a, _, hl, _⟩ := h
  rw [emptyHeap_get] at hl
  cases hl
noncomputable def isT (r : Res) : Bool := resCase r (fun v => vBool v fun b => b) (fun _ => false)
/-- what the evaluator finds true at some arguments, a call returns true at, and nothing that was there turns -/
theorem law_calls {P : Program} (hm : P.follows .mixedOrders = true) (hn : Named P) {ext : Nat → Option Ext} {w : World} (hext : ExtOk P w ext) {n f : Nat} {args : List AV} {Args : List Value}
    (h : callF P ext n f args emptyHeap (fun r _ => isT r) = true) (hA : VRs (fun _ => none) args Args) : Calls P f (List.toArray Args) w fun e w' => e = .returned (.bool true) ∧ w.keptBut w' (fun _ => False) := by
  obtain ⟨fn, _, _, h3⟩ := callF_sound hm hn hext n f args emptyHeap _ h
  refine (h3 _ w Args hA (start_rl w)).mono fun e w' hR => ?_
  obtain ⟨ρ', H', r1, r2, r3⟩ := hR
  cases e with
  | returned V =>
    obtain ⟨v, r4, r5⟩ := r3
    obtain ⟨b, rfl, hb⟩ := vBool_inv (show vBool v (fun b => b) = true from r5)
    subst hb
    simp only [VR] at r4
    subst r4
    refine ⟨rfl, r1.above.os, r1.above.output, fun i hi => ?_⟩
    rw [r1.above.same i hi]
    have := (World.keptBut_refl w (fun _ => False)).2.2 i hi
    exact this
  | panicked chain =>
    obtain ⟨v, V, _, _, r5⟩ := r3
    exact absurd r5 Bool.false_ne_true
  | outgrown => exact r3.elim
/-- no function has the name that the model takes for its own -/
def namedB (P : Program) : Bool := P.funcs.toList.all fun fn => !fn.body.isSome || !(fn.name == "runtime.NumGoroutine")
theorem named_of {P : Program} (h : namedB P = true) : Named P := by
  intro f fn hf hb
  have := List.all_eq_true.1 h fn (List.mem_of_getElem? (by rw [Array.getElem?_toList]; exact hf))
  rw [hb] at this
  simpa using this
section
variable {H : Type} {enc : TypeId × Value → H}
/-- 'post' for a law whose arguments hold no memory -/
theorem post_law {P : Program} {f : Func} {s : ChangeSpec} {apart fresh handsOn again : Bool} {W W' : World} {args : Array Value} {v : Value} {ds gs : List (DataW H)} {before : List MemPlace} (hb : before = [])
    (hW : DataW.Whole enc P f.params.toList s.vars apart W args.toList ds gs before)
    (hres : ∀ (b : Nat) (sp : Nat → Bool) (hd : Bool), DataW.TrodAll enc P W' b sp hd f.resultTypes.toList (v.resultList f.resultTypes.size) (s.fn H (ds ++ gs)).results [])
    (hargs : ∀ sp : Nat → Bool, DataW.TrodAll enc P W' 0 sp true f.params.toList args.toList (s.fn H (ds ++ gs)).args [])
    (hvars : ∀ sp : Nat → Bool, DataW.TrodVars enc P W' sp s.vars (s.fn H (ds ++ gs)).vars [])
    (hk : W.keptBut W' (fun _ => False))
    (hok : ∀ (j : Nat) (t : TypeId) (r : Value), f.resultTypes[j]? = some t → (v.resultList f.resultTypes.size)[j]? = some r → Value.okWide P W' .any 0 t r) :
    s.post enc P f apart fresh handsOn again W args v W' := by
  subst hb
  refine ⟨ds, gs, [], [], [], [], hW, hres _ _ _, hargs _, hvars _, World.keptBut_mono (fun p hp => hp.elim) hk, fun _ => ?_⟩
  refine ⟨hok, _, _, ([] ++ []) ++ [], ⟨[] ++ [], [], trodAll_append (hargs _) (hres _ _ _), hvars _, rfl, ?_, ?_⟩, ?_⟩
  · intro b off hp; cases hp
  · intro _; exact List.nodup_nil
  · intro p hp _; cases hp
/-- the wrap: the row's list of variables and the world's shape -/
theorem returnsInHanded_of_law {a : Assume} {C : Checked} {os : Os} {f : FuncId} {fn : Func} {s : ChangeSpec} {conds : List PathCond} {apart fresh handsOn again : Bool} {X : World → Array Value → Prop}
    (own : ownKnob C.prog.godebug = none) (started : os.Started) (noInit : C.prog.inits.idxOf? f = none) (hfn : C.prog.funcs[f]? = some fn)
    (witness : ∃ (w : World) (tape : Tape) (i : Input), w.os = os ∧ (w.forCall tape i).Shaped C.prog ∧ i.vars = [] ∧ Input.okWide C.prog (w.forCall tape i) .any w.heap.size f i ∧
      ((s.pre enc C.prog fn conds apart (w.forCall tape i).memory i.args ∧ X (w.forCall tape i).memory i.args) ∧ sizedMet enc C.prog fn (OpenSpec.ofChange s) apart (w.forCall tape i).memory i.args) ∧ a.holds C.prog (lone (Frame.enter C.prog f i.args .normal) [] (w.forCall tape i)))
    (contract : ∀ (W : World) (base : Nat) (args : Array Value) (ds gs : List (DataW H)) (before : List MemPlace),
      (∀ (j : Nat) t v, fn.params[j]? = some t → args[j]? = some v → Value.okWide C.prog W .any base t v) →
      DataW.Whole enc C.prog fn.params.toList s.vars apart W args.toList ds gs before → W.ShapedOpen C.prog →
      Calls C.prog f args W fun e W' => ∃ v, e = .returned v ∧ s.post enc C.prog fn apart fresh handsOn again W args v W') :
    ReturnsInHanded a C os f .any (fun w args => (s.pre enc C.prog fn conds apart w args ∧ X w args) ∧ sizedMet enc C.prog fn (OpenSpec.ofChange s) apart w args) (s.post enc C.prog fn apart fresh handsOn again) := by
  refine returnsInHanded_of_calls own started noInit witness ?_
  intro w tape i _ hsh _ hok hpre hholds
  obtain ⟨_, _, _, fn', hfn', _, _, _, _, hval⟩ := hok
  have e : fn' = fn := Option.some.inj (hfn'.symm.trans hfn)
  subst e
  obtain ⟨⟨⟨ds, gs, before, hw, hc⟩, hx⟩, hz⟩ := hpre
  have hw' := DataW.Whole.of_heap (w' := w.forCall tape i) (by rfl) hw
  refine (contract (w.forCall tape i) w.heap.size i.args ds gs before hval hw' hsh).mono fun e W' ⟨v, he, hp⟩ => ?_
  subst he
  exact ChangeSpec.post_blind hp
end
end Go.Ev

namespace Go.Ev
open Go
set_option linter.unusedVariables false

/-! ### a law's first statements at each input; the remainder once for all inputs that agree behind them -/
noncomputable def preF (P : Program) (es : List Nat) (nt : Nat) : Nat → Code → TT → Heap → (Code → TT → Heap → Bool) → Bool
  | 0, c, T, H, k => k c T H
  | n + 1, c, T, H, k => match c with
    | .seq a b => (ccode P es nt a).f 1 noCall T H (fun T H => preF P es nt n b T H k) fun _ _ _ => false
    | _ => false
def peel : Nat → Code → Option Code
  | 0, c => some c
  | n + 1, .seq _ b => peel n b
  | _ + 1, _ => none
noncomputable def chkX (es : List Nat) : List (Nat × AV) → TT → Bool
  | [], _ => true
  | (t, v) :: l, T => bIf (avEq ((cgetTmp es [] t).g [] T) v) (chkX es l T) false
noncomputable def putX (es : List Nat) : List (Nat × AV) → TT → (TT → Bool) → Bool
  | [], T, k => k T
  | (t, v) :: l, T, k => match idxIn t es with
    | some i => match Nat.blt i 64, putT i with
      | true, ⟨p⟩ => p T v fun T => putX es l T k
      | false, _ => false
    | none => false
def anyN8 : N8 AV := N8.all .any
def anyTT : TT := ⟨anyN8, anyN8, anyN8, anyN8, anyN8, anyN8, anyN8, anyN8, []⟩
/-- the first n statements of function f, at these arguments: behind them the temporaries of X hold what X says, and no memory was made -/
noncomputable def preOk (P : Program) (n f : Nat) (args : List AV) (X : List (Nat × AV)) : Bool :=
  match P.funcs[f]? with
  | some fn => match fn.body with
    | some c => bIf (Nat.beq args.length (fn.params.size + fn.nfree)) (bIf (Nat.ble (fn.params.size + fn.nfree) fn.ntmps)
        (initT args fun T => preF P (lasting fn c) fn.ntmps n c T emptyHeap fun _ T H => bIf (Nat.beq H.next 0) (noDs T (chkX (lasting fn c) X T)) false) false) false
    | none => false
  | none => false
/-- what stands behind them returns true -/
noncomputable def sufOk (P : Program) (ext : Nat → Option Ext) (N n f : Nat) (X : List (Nat × AV)) : Bool :=
  match P.funcs[f]? with
  | some fn => match fn.body with
    | some c => match peel n c, cresv P (lasting fn c) fn.results.toList with
      | some r, ⟨rv⟩ => match ccode P (lasting fn c) fn.ntmps r with
        | ⟨cc⟩ => putX (lasting fn c) X anyTT fun T => cc N (callF P ext N) T emptyHeap (fun T H => noDs T (rv T H fun v => isT (.val v))) (fun x T H => xCase x (fun _ => false) (noDs T (rv T H fun v => isT (.val v))) fun _ => false)
      | none, _ => false
    | none => false
  | none => false
section
variable {P : Program} {es : List Nat} {nt : Nat} {w0 : World}
theorem chkX_sound {ρ : Valn} {T : TT} {a : Act} (I : TR ρ es nt T a) : ∀ {X : List (Nat × AV)}, chkX es X T = true → ∀ x ∈ X, VR ρ x.2 (a.tmps.getD x.1 undef)
  | [], _, x, hx => by cases hx
  | (t, v) :: l, h, x, hx => by
    obtain ⟨h1, h2⟩ := bIf_yes (show bIf (avEq ((cgetTmp es [] t).g [] T) v) (chkX es l T) false = true from h)
    rcases List.mem_cons.1 hx with rfl | hx
    · have := (RegInv.start I).sees t
      unfold Sees at this
      rw [avEq_eq h1] at this
      exact this
    · exact chkX_sound I h2 x hx
theorem putX_sound {k : TT → Bool} {ρ : Valn} {a : Act} : ∀ {X : List (Nat × AV)} {T : TT}, putX es X T k = true → (∀ x ∈ X, VR ρ x.2 (a.tmps.getD x.1 undef)) → (∀ t s, idxIn t es = some s → s < 64 → VR ρ (T.slot s) (a.tmps.getD t undef)) →
    ∃ T', k T' = true ∧ T'.ds = T.ds ∧ ∀ t s, idxIn t es = some s → s < 64 → VR ρ (T'.slot s) (a.tmps.getD t undef)
  | [], T, h, _, hT => ⟨T, h, rfl, hT⟩
  | (t, v) :: l, T, h, hX, hT => by
    unfold putX at h
    split at h
    · rename_i i hi
      split at h
      · rename_i p hs hp
        have h5 : (putT i).p T v (fun T => putX es l T k) = true := by rw [hp]; exact h
        rw [putT_eq] at h5
        obtain ⟨T', q1, q2, q3⟩ := putX_sound h5 (fun x hx => hX x (by simp [hx])) fun t' s' ht' hs' => by
          rw [TT.slot_setSlot _ _ _ _ (blt_iff.1 hs) hs']
          by_cases hsi : s' = i
          · have htd : t' = t := idxIn_inj (by rw [← hsi]; exact ht') hi
            rw [if_pos hsi, htd]
            exact hX (t, v) (by simp)
          · rw [if_neg hsi]; exact hT t' s' ht' hs'
        exact ⟨T', q1, by rw [q2, TT.ds_setSlot], q3⟩
      · exact absurd h Bool.false_ne_true
    · exact absurd h Bool.false_ne_true
theorem preF_sound (hm : P.follows .mixedOrders = true) (hn : Named P) {Q : Exit → Act → World → Prop} {k : Code → TT → Heap → Bool} : ∀ (n : Nat) {c r : Code} {ρ : Valn} {H : Heap} {w : World} {T : TT} {a : Act}, peel n c = some r → Rl w0 ρ H w → TR ρ es nt T a →
    preF P es nt n c T H k = true → (∀ ρ' H' w' T' a', Rl w0 ρ' H' w' → TR ρ' es nt T' a' → k r T' H' = true → r.wp P Q a' w') → c.wp P Q a w
  | 0, c, r, ρ, H, w, T, a, hp, R, I, h, hk => by
    cases hp
    exact hk ρ H w T a R I h
  | n + 1, c, r, ρ, H, w, T, a, hp, R, I, h, hk => by
    cases c with
    | seq x y =>
      refine wp_seq (ccode_sound (w0 := w0) hm hn x 1 noCall ρ H w T a _ _ _ noCall_ok R I h ?_ ?_)
      · intro ρ' H' T' a' w' q1 q2 q3 q4
        exact preF_sound hm hn n (show peel n y = some r from hp) q2 q1 q4 hk
      · intro ρ' H' T' a' w' x e q1 q2 q3 q4 q5
        exact absurd q5 Bool.false_ne_true
    | _ => cases hp
theorem law_cut (hm : P.follows .mixedOrders = true) (hn : Named P) {ext : Nat → Option Ext} {w : World} (hext : ExtOk P w ext) {N n f : Nat} {args : List AV} {Args : List Value} {X : List (Nat × AV)}
    (h1 : preOk P n f args X = true) (h2 : sufOk P ext N n f X = true) (hA : VRs (fun _ => none) args Args) : Calls P f (List.toArray Args) w fun e w' => e = .returned (.bool true) ∧ w.keptBut w' (fun _ => False) := by
  unfold preOk at h1
  unfold sufOk at h2
  cases hf : P.funcs[f]? with
  | none => rw [hf] at h1; cases h1
  | some fn =>
    rw [hf] at h1 h2
    simp only at h1 h2
    cases hb : fn.body with
    | none => rw [hb] at h1; cases h1
    | some c =>
      rw [hb] at h1 h2
      simp only at h1 h2
      obtain ⟨hlen, h1⟩ := bIf_yes h1
      obtain ⟨hnt, h1⟩ := bIf_yes h1
      obtain ⟨T, h1, hd, hT⟩ := initT_inv h1
      have I := start_TR (c := c) hA (Nat.le_of_eq (beq_iff'.1 hlen)) (ble_iff.1 hnt) hd hT
      have hres := fun ρ H w T a R I k => cresv_sound (P := P) (es := lasting fn c) (nt := fn.ntmps) (ρ := ρ) (H := H) (w := w) (T := T) (a := a) R I (fn := fn) (k := k)
      generalize cresv P (lasting fn c) fn.results.toList = rr at h2 hres
      obtain ⟨rv⟩ := rr
      cases hp : peel n c with
      | none => rw [hp] at h2; cases h2
      | some r =>
        rw [hp] at h2
        simp only at h2
        have hs := ccode_sound (w0 := w) hm hn (es := lasting fn c) (nt := fn.ntmps) r
        generalize ccode P (lasting fn c) fn.ntmps r = cc at h2 hs
        obtain ⟨cc⟩ := cc
        refine calls_of_wp hf hb ?_
        refine preF_sound hm hn n hp (start_rl w) I h1 fun ρ' H' w' T' a' R' I' hk => ?_
        obtain ⟨hnx, hk⟩ := bIf_yes hk
        obtain ⟨hds, hk⟩ := noDs_inv hk
        have hnx := beq_iff'.1 hnx
        have Re : Rl w ρ' emptyHeap w' := R'.weaken hnx.symm fun x _ => .inr (by rw [emptyHeap_get]; rfl)
        obtain ⟨T2, g1, g2, g3⟩ := putX_sound (ρ := ρ') (a := a') h2 (chkX_sound I' hk) fun t s _ hs => by
          have e : anyTT.slot s = .any := by
            rw [TT.slot_eq]
            unfold TT.getB anyTT anyN8
            cases dig (s / 8 % 8) <;> simp only [N8.get_all]
          rw [e]; exact VR_any _
        have I2 : TR ρ' (lasting fn c) fn.ntmps T2 a' := ⟨I'.size, g3, by rw [g2]; exact I'.noDefers hds⟩
        have fin : ∀ (ρ3 : Valn) (H3 : Heap) (T3 : TT) (a3 : Act) (w3 : World), TR ρ3 (lasting fn c) fn.ntmps T3 a3 → Rl w ρ3 H3 w3 → noDs T3 (rv T3 H3 fun v => isT (.val v)) = true →
            a3.defers = [] ∧ ∃ V, (results fn a3.tmps).run P w3 = .ok V w3 ∧ V = .bool true ∧ w.keptBut w3 (fun _ => False) := by
          intro ρ3 H3 T3 a3 w3 q1 q2 q3
          obtain ⟨e1, e2⟩ := noDs_inv q3
          obtain ⟨v, V, e3, e4, e5⟩ := hres ρ3 H3 w3 T3 a3 q2.rel q1 _ e2
          obtain ⟨b, rfl, hb⟩ := vBool_inv (show vBool v (fun b => b) = true from e3)
          subst hb
          simp only [VR] at e4
          refine ⟨q1.noDefers e1, V, e5, e4, q2.above.os, q2.above.output, fun i hi => ?_⟩
          rw [q2.above.same i hi]
          exact (World.keptBut_refl w (fun _ => False)).2.2 i hi
        refine hs N (callF P ext N) ρ' emptyHeap w' T2 a' _ _ _ (callF_sound hm hn hext N) Re I2 g1 ?_ ?_
        · intro ρ3 H3 T3 a3 w3 q1 q2 q3 q4
          obtain ⟨e1, V, e2, e3, e4⟩ := fin ρ3 H3 T3 a3 w3 q1 q2 q4
          exact ⟨e1, V, e2, by rw [e3], e4⟩
        · intro ρ3 H3 T3 a3 w3 x e q1 q2 q3 q4 q5
          cases x with
          | exit i => exact absurd q5 Bool.false_ne_true
          | panic v => exact absurd q5 Bool.false_ne_true
          | ret =>
            simp only [XR] at q4
            subst q4
            obtain ⟨e1, V, e2, e3, e4⟩ := fin ρ3 H3 T3 a3 w3 q1 q2 q5
            exact ⟨e1, V, e2, by rw [e3], e4⟩
end
end Go.Ev

namespace Go.Ev
open Go
set_option linter.unusedVariables false

/-! ### a law without arguments that was evaluated once stands for itself wherever it is called -/
noncomputable def extT : Ext := ⟨fun args k => uncons args (k (.bool true)) fun _ _ => false⟩
noncomputable def withT (iT : Nat) (ext : Nat → Option Ext) (f : Nat) : Option Ext := match Nat.beq f iT with
  | true => some extT
  | false => ext f
/-- the cell of a variable holds a number -/
def HoldsInt (w : World) (g : Nat) : Prop := ∃ m, w.cell? ⟨g, 0, none⟩ = some (.int .i64 m)
section
variable {P : Program}
theorem HoldsInt.above {w0 w : World} {g : Nat} (h : HoldsInt w0 g) (hs : ∀ b, b < w0.heap.size → w.heap[b]? = w0.heap[b]?) : HoldsInt w g := by
  obtain ⟨m, hm⟩ := h
  have hlt : g < w0.heap.size := by
    rcases Nat.lt_or_ge g w0.heap.size with h | h
    · exact h
    · have : w0.heap[g]? = none := Array.getElem?_eq_none h
      unfold World.cell? at hm
      rw [this] at hm
      cases hm
  refine ⟨m, ?_⟩
  rw [← hm]
  unfold World.cell?
  rw [hs g hlt]
theorem withT_ok (hm : P.follows .mixedOrders = true) (hn : Named P) {iT g n : Nat} {ext : Nat → Option Ext} (hext : ∀ w, HoldsInt w g → ExtOk P w ext)
    (h : callF P ext n iT [] emptyHeap (fun r _ => isT r) = true) : ∀ w, HoldsInt w g → ExtOk P w (withT iT ext) := by
  intro w0 hw0 f e he args k hk
  unfold withT at he
  split at he
  · rename_i hf
    have hf := beq_iff'.1 hf
    subst hf
    cases he
    obtain ⟨rfl, hk⟩ := uncons_nil_inv (show (uncons args (k (.bool true)) fun _ _ => false) = true from hk)
    obtain ⟨fn, h1, h2, h3⟩ := callF_sound hm hn (hext w0 hw0) n f [] emptyHeap _ h
    refine ⟨fn, .bool true, h1, h2, hk, fun ρ H w Args hA R => ?_⟩
    have hw := hw0.above R.above.same
    obtain ⟨_, _, _, h3⟩ := callF_sound hm hn (hext w hw) n f [] emptyHeap _ h
    simp only [VRs] at hA
    subst hA
    refine (h3 (fun _ => none) w [] VRs.nil (start_rl w)).mono fun e w' hR => ?_
    obtain ⟨ρ', H', r1, r2, r3⟩ := hR
    have A := r1.above
    cases e with
    | returned V =>
      obtain ⟨v, r4, r5⟩ := r3
      obtain ⟨b, rfl, hb⟩ := vBool_inv (show vBool v (fun b => b) = true from r5)
      subst hb
      simp only [VR] at r4
      subst r4
      refine ⟨_, rfl, VR_bool true, ⟨R.rel.next, R.rel.dom, fun a ha => (R.rel.obj a ha).mono (Valn.le_refl _) fun b κ hl hr => A.same b (R.rel.owns_lt ⟨a, ha, hl, κ, hr⟩), R.rel.inj⟩, ?_⟩
      exact ⟨Valn.le_refl _, fun _ _ => rfl, Nat.le_refl _, A.size, fun b hb _ => A.same b hb, fun b hb => .inr hb, fun _ _ hd => hd, A.tape, A.os, A.output⟩
    | panicked chain =>
      obtain ⟨v, V, _, _, r5⟩ := r3
      exact absurd r5 Bool.false_ne_true
    | outgrown => exact r3.elim
  · exact hext w0 hw0 f e he args k hk
end
end Go.Ev

namespace Go.Ev
open Go
set_option linter.unusedVariables false

/-! ### a residue of a number, by a function of the program -/
theorem tmod_pos {x m : Int} (hx : ¬ Int.tmod x m < 0) (hm : 0 < m) : Int.tmod x m = x % m := by
  have h2 : x % m = Int.tmod x m % m := by
    conv => lhs; rw [← Int.mul_tdiv_add_tmod x m]
    rw [Int.add_comm, Int.add_mul_emod_self_left]
  have h3 : Int.tmod x m < m := Int.tmod_lt_of_pos x hm
  rw [h2, Int.emod_eq_of_lt (by omega) h3]
theorem tmod_neg {x m : Int} (hx : Int.tmod x m < 0) (hm : 0 < m) : Int.tmod x m + m = x % m := by
  have h2 : x % m = Int.tmod x m % m := by
    conv => lhs; rw [← Int.mul_tdiv_add_tmod x m]
    rw [Int.add_comm, Int.add_mul_emod_self_left]
  have h3 : - m < Int.tmod x m := by
    have := Int.lt_tmod_of_pos x hm
    omega
  rw [h2, ← Int.add_emod_right, Int.emod_eq_of_lt (by omega) (by omega)]
noncomputable def extM : Ext := ⟨fun args k => uncons args false fun x l => uncons l false fun y l => uncons l (vInt y fun c2 b => bIf (Nat.beq c2 3) (bIf (Nat.blt 0 b) (bIf (Nat.blt b 2147483648)
  (vIntR x (fun c a => bIf (Nat.beq c 3) (bIf (Nat.blt a 9223372036854775808) (forceNat (Nat.mod a b) fun r => k (.int 3 r)) false) false)
    fun c m r => bIf (Nat.beq c 3) (bIf (Nat.beq b m) (k (.int 3 r)) false) false) false) false) false) fun _ _ => false⟩
noncomputable def withM (iM : Nat) (ext : Nat → Option Ext) (f : Nat) : Option Ext := match Nat.beq f iM with
  | true => some extM
  | false => ext f
section
variable {P : Program} {w0 : World}
theorem withM_ok {iM : Nat} {ext : Nat → Option Ext} (hext : ExtOk P w0 ext) (fM : ∃ fn, P.funcs[iM]? = some fn ∧ fn.body.isSome = true)
    (hM : ∀ (x m : Int) (w : World), 0 < m → m < 2147483648 → Calls P iM #[.int .i64 x, .int .i64 m] w fun e w' => e = .returned (.int .i64 (x % m)) ∧ w' = w) : ExtOk P w0 (withM iM ext) := by
  intro f e he args k h
  unfold withM at he
  split at he
  · rename_i hf
    have hf := beq_iff'.1 hf
    subst hf
    cases he
    obtain ⟨x, l, rfl, h1⟩ := uncons_inv h
    obtain ⟨y, l, rfl, h2⟩ := uncons_inv h1
    obtain ⟨rfl, h3⟩ := uncons_nil_inv h2
    obtain ⟨c2, b, rfl, h4⟩ := vInt_inv h3
    obtain ⟨h5, h6⟩ := bIf_yes h4
    obtain ⟨h7, h8⟩ := bIf_yes h6
    obtain ⟨h9, h10⟩ := bIf_yes h8
    have h5 := beq_iff'.1 h5
    have h7 := blt_iff.1 h7
    have h9 := blt_iff.1 h9
    subst h5
    obtain ⟨fn, g1, g2⟩ := fM
    obtain ⟨v, hkv, hv⟩ : ∃ v, k v = true ∧ ∀ (ρ : Valn) (X : Value), VR ρ x X → ∃ z : Int, X = .int .i64 z ∧ VR ρ v (.int .i64 (z % (b : Int))) := by
      rcases vIntR_inv h10 with ⟨c, a, rfl, q⟩ | ⟨c, m, r, rfl, q⟩
      · obtain ⟨q1, q2⟩ := bIf_yes q
        obtain ⟨q3, q4⟩ := bIf_yes q2
        have q1 := beq_iff'.1 q1
        have q3 := blt_iff.1 q3
        subst q1
        rw [forceNat_eq] at q4
        refine ⟨_, q4, fun ρ X hX => ?_⟩
        simp only [VR] at hX
        obtain ⟨_, _, rfl⟩ := hX
        refine ⟨_, rfl, ?_⟩
        rw [sgn_small (show a < halfOf 3 from q3)]
        have e : ((a : Int) % (b : Int)) = ((Nat.mod a b : Nat) : Int) := (Int.natCast_emod a b).symm
        rw [e]
        exact VR_i64 (Nat.lt_of_lt_of_le (Nat.mod_lt a h7) (by omega))
      · obtain ⟨q1, q2⟩ := bIf_yes q
        obtain ⟨q3, q4⟩ := bIf_yes q2
        have q1 := beq_iff'.1 q1
        have q3 := beq_iff'.1 q3
        subst q1
        subst q3
        refine ⟨_, q4, fun ρ X hX => ?_⟩
        simp only [VR] at hX
        obtain ⟨n, _, hn, rfl, _⟩ := hX
        refine ⟨_, rfl, ?_⟩
        rw [hn]
        refine VR_i64 ?_
        have := Int.emod_lt_of_pos (sgn (3 % 8) n) (by omega : (0 : Int) < (b : Int))
        rw [hn] at this
        omega
    refine ⟨fn, v, g1, g2, hkv, fun ρ H w Args hA R => ?_⟩
    obtain ⟨X, L', rfl, hX, hA⟩ := hA.cons_inv
    obtain ⟨Y, L', rfl, hY, hA⟩ := hA.cons_inv
    simp only [VRs] at hA
    subst hA
    obtain ⟨z, rfl, hz⟩ := hv ρ X hX
    simp only [VR] at hY
    obtain ⟨_, _, rfl⟩ := hY
    have es : sgn 3 b = (b : Int) := sgn_small (show b < halfOf 3 from Nat.lt_of_lt_of_le h9 (by decide))
    rw [es]
    refine (hM z b w (by omega) (by omega)).mono fun e w' hh => ?_
    obtain ⟨rfl, rfl⟩ := hh
    exact ⟨_, rfl, hz, R.rel, Step.refl _ _ _⟩
  · exact hext f e he args k h
end
/-- a number, as a residue -/
theorem VR_resid {ρ : Valn} {x : Int} {m : Nat} (hm : 0 < m) (h1 : -9223372036854775808 ≤ x) (h2 : x ≤ 9223372036854775807) : VR ρ (.resid 3 m (x % (m : Int)).toNat) (.int .i64 x) := by
  simp only [VR]
  refine ⟨(x % 18446744073709551616).toNat, ?_, ?_, ?_, fun h => absurd h (by decide)⟩
  · show _ < 18446744073709551616
    omega
  · have e : sgn (3 % 8) (x % 18446744073709551616).toNat = x := by
      show (if (x % 18446744073709551616).toNat < 9223372036854775808 then _ else _ - (18446744073709551616 : Int)) = x
      split <;> omega
    rw [e]
    have := Int.emod_nonneg x (by omega : (m : Int) ≠ 0)
    omega
  · have e : sgn (3 % 8) (x % 18446744073709551616).toNat = x := by
      show (if (x % 18446744073709551616).toNat < 9223372036854775808 then _ else _ - (18446744073709551616 : Int)) = x
      split <;> omega
    rw [e]; rfl
/-- a byte, as a residue -/
theorem VR_resid8 {ρ : Valn} {n m : Nat} (hn : n < 256) : VR ρ (.resid 4 m (n % m)) (.int .u8 n) := by
  simp only [VR]
  refine ⟨n, hn, ?_, ?_, fun h => absurd h (by decide)⟩
  · rw [sgn_small (show n < halfOf (4 % 8) from hn)]; exact (Int.natCast_emod n m).symm
  · rw [sgn_small (show n < halfOf (4 % 8) from hn)]; rfl
end Go.Ev
