/- Regions in one order. -/
import Derived.Test.YtehnkiaepkldiaaGreatDoorEvC
import Derived.Recover
namespace Go.Ev
open Go
set_option linter.unusedVariables false

/-! ### what stood at the start stays -/
structure Above (w0 : World) (ρ : Valn) (H : Heap) (w : World) : Prop where
  size : w0.heap.size ≤ w.heap.size
  same : ∀ b, b < w0.heap.size → w.heap[b]? = w0.heap[b]?
  owns : ∀ b, Owns ρ H b → w0.heap.size ≤ b
  tape : w.tape = w0.tape
  os : w.os = w0.os
  output : w.output = w0.output
theorem Above.step {w0 : World} {ρ ρ' : Valn} {H H' : Heap} {w w' : World} (h : Above w0 ρ H w) (s : Step ρ H w ρ' H' w') : Above w0 ρ' H' w' where
  size := Nat.le_trans h.size s.size
  same b hb := (s.frame b (Nat.lt_of_lt_of_le hb h.size) fun ho => by have := h.owns b ho; omega).trans (h.same b hb)
  owns b ho := by
    rcases s.own b ho with h1 | h1
    · exact Nat.le_trans h.size h1
    · exact h.owns b h1
  tape := s.tape.trans h.tape
  os := s.os.trans h.os
  output := s.output.trans h.output
structure Rl (w0 : World) (ρ : Valn) (H : Heap) (w : World) : Prop where
  rel : Rel ρ H w
  above : Above w0 ρ H w
def CallR (w0 : World) (ρ : Valn) (H : Heap) (w : World) (k : Res → Heap → Bool) : Ending → World → Prop := fun e w' =>
  ∃ ρ' H', Rl w0 ρ' H' w' ∧ Step ρ H w ρ' H' w' ∧ match e with
    | .returned V => ∃ v, VR ρ' v V ∧ k (.val v) H' = true
    | .panicked chain => ∃ v V, chain = [{ v := V, recovered := false }] ∧ VR ρ' v V ∧ k (.pan v) H' = true
    | .outgrown => False
def CallOk (P : Program) (w0 : World) (call : CallK) : Prop := ∀ (f : Nat) (args : List AV) (H : Heap) (k : Res → Heap → Bool), call f args H k = true →
  ∃ fn, P.funcs[f]? = some fn ∧ fn.body.isSome = true ∧ ∀ (ρ : Valn) (w : World) (Args : List Value), VRs ρ args Args → Rl w0 ρ H w → Calls P f (List.toArray Args) w (CallR w0 ρ H w k)
def HOut (P : Program) (w0 : World) (ρ : Valn) (H : Heap) (w : World) (o : Oper) (a : Act) (k kp : AV → Heap → Bool) : Prop :=
  ∀ (next : Act → World → Prop) (Q : Exit → Act → World → Prop),
    (∀ ρ' H' v V w', Rl w0 ρ' H' w' → Step ρ H w ρ' H' w' → VR ρ' v V → k v H' = true → next (a.put o.dst V) w') →
    (∀ ρ' H' v V w', Rl w0 ρ' H' w' → Step ρ H w ρ' H' w' → VR ρ' v V → kp v H' = true → Q (.panic [{ v := V, recovered := false }]) a w') → o.wp P a w next Q
/-- no function with a body has the name that the model takes for its own -/
def Named (P : Program) : Prop := ∀ (f : Nat) (fn : Func), P.funcs[f]? = some fn → fn.body.isSome = true → (fn.name == "runtime.NumGoroutine") = false

section
variable {P : Program} {es : List Nat} {ds : List (Option Nat)} {L : List AV} {T : TT} {w0 : World}
theorem OpOut.out {ρ : Valn} {H : Heap} {w : World} {o : Oper} {a : Act} {k kp : AV → Heap → Bool} (R : Rl w0 ρ H w) (h : OpOut P ρ H w (execOp a.eval o) k) : HOut P w0 ρ H w o a k kp := by
  intro next Q h1 h2
  obtain ⟨ρ', H', v, V, w', g1, g2, g3, g4, g5⟩ := h
  have hn := h1 ρ' H' v V w' ⟨g3, R.above.step g4⟩ g4 g2 g1
  unfold Oper.wp
  rcases g5 with g5 | ⟨g5, rfl⟩
  · rw [g5]; exact hn
  · rw [g5]; exact hn
theorem run_call_value {c : Call} {f : Operand} (hc : c.callee = .value f) {ρ : Operand → Value} {ty : TypeId} {g : Nat} {X Y : Array Value} {fn : Func} (hf : ρ f = .func (.func g) X Y) (hn : Named P) (h1 : P.funcs[g]? = some fn) (h2 : fn.body.isSome = true) (w : World) :
    (do let d ← resolve ρ c ty; invoke d.target d.args : Sem Next).run P w = .ok (.enter g (X ++ c.args.map ρ ++ Y)) w := by
  have hb : fn.body.isNone = false := by
    cases h : fn.body with
    | none => rw [h] at h2; cases h2
    | some c => rfl
  have hcf : (callFunc g (X ++ c.args.map ρ ++ Y)).run P w = .ok (.enter g (X ++ c.args.map ρ ++ Y)) w := by
    unfold callFunc
    rw [Sem.run_bind, run_program, Result.andThen_ok, h1]
    simp only [hn g fn h1 h2, hb, Bool.false_eq_true, if_false, Sem.run_pure]
  unfold resolve
  rw [hc]
  rw [Sem.run_bind]
  simp only [Deferred.ofValue, hf, Sem.run_pure, Result.andThen_ok, invoke]
  exact hcf
theorem ccallF_sound {ρ : Valn} {H : Heap} {w : World} (R : Rl w0 ρ H w) {call : CallK} (hcall : CallOk P w0 call) (hn : Named P) {o : Oper} {a : Act} {c : Call} {f : Operand} (ho : o.op = .call c) (hc : c.callee = .value f)
    {k kp : AV → Heap → Bool} (h : (ccallF es ds f c.args.toList).f call L T H k kp = true) (hf : OpdOk ρ es ds L T a f) (hargs : ∀ x ∈ c.args.toList, OpdOk ρ es ds L T a x) : HOut P w0 ρ H w o a k kp := by
  intro next Q h1 h2
  have has := cgets_sound hargs
  have key : ∀ (g : Nat) (xs ys : List AV) (X Y : Array Value), a.eval f = .func (.func g) X Y → VRs ρ xs X.toList → VRs ρ ys Y.toList →
      call g (xs ++ ((cgets es ds c.args.toList).g L T ++ ys)) H (fun r H => resCase r (fun v => k v H) (fun v => kp v H)) = true → o.wp P a w next Q := by
    intro g xs ys X Y he hX hY hcl
    obtain ⟨fn, g1, g2, g3⟩ := hcall _ _ _ _ hcl
    have hrun : (execOp a.eval o).run P w = .ok (.enter g (X ++ c.args.map a.eval ++ Y)) w := by
      unfold execOp
      rw [ho]
      exact run_call_value hc he hn g1 g2 w
    have hl : X ++ c.args.map a.eval ++ Y = List.toArray (X.toList ++ (c.args.toList.map a.eval ++ Y.toList)) := by
      apply Array.ext'; simp
    have hC := g3 ρ w (X.toList ++ (c.args.toList.map a.eval ++ Y.toList)) (hX.append (has.append hY)) R
    rw [← hl] at hC
    unfold Oper.wp
    rw [hrun]
    refine Calls.mono hC fun e w' hR => ?_
    obtain ⟨ρ', H', r1, r2, r3⟩ := hR
    cases e with
    | returned V =>
      obtain ⟨v, r4, r5⟩ := r3
      exact h1 ρ' H' v V w' r1 r2 r4 r5
    | panicked chain =>
      obtain ⟨v, V, rfl, r4, r5⟩ := r3
      exact h2 ρ' H' v V w' r1 r2 r4 r5
    | outgrown => exact r3.elim
  unfold ccallF at h
  generalize cgets es ds c.args.toList = gs at h has key
  obtain ⟨as⟩ := gs
  unfold OpdOk at hf
  generalize hgf : cget es ds f = gf at h hf
  obtain ⟨gf⟩ := gf
  have other : (vFn (gf L T) fun f xs ys => appC (as L T) ys fun r => appC xs r fun args => call f args H fun r H => resCase r (fun v => k v H) (fun v => kp v H)) = true → o.wp P a w next Q := by
    intro h
    obtain ⟨g, xs, ys, e, h3⟩ := vFn_inv h
    simp only at hf
    rw [e] at hf
    simp only [VR] at hf
    obtain ⟨Xs, Ys, q1, q2, q3⟩ := hf
    rw [appC_eq, appC_eq] at h3
    exact key g xs ys (List.toArray Xs) (List.toArray Ys) q1 q2 q3 h3
  cases f with
  | func g => exact key g [] [] #[] #[] rfl (by simpa using VRs.nil) (by simpa using VRs.nil) (by rw [List.nil_append, List.append_nil]; exact h)
  | tmp t => exact other h
  | const v => exact other h
  | global g => exact other h
theorem run_execStore {o : Oper} {t : TypeId} {x y : Operand} (ho : o.op = .store t x y) (f : Operand → Value) {w w' : World} (h : (Instr.storeAt t (f x) (f y)).run P w = .ok () w') : (execOp f o).run P w = .ok .skip w' := by
  unfold execOp
  rw [ho]
  show (do Instr.storeAt t (f x) (f y); pure .skip : Sem Next).run P w = _
  rw [Sem.run_bind, h]; rfl
theorem chp_sound {ρ : Valn} {H : Heap} {w : World} (R : Rl w0 ρ H w) {call : CallK} (hcall : CallOk P w0 call) (hn : Named P) {o : Oper} {a : Act} {k kp : AV → Heap → Bool}
    (h : (chp P es ds o.op).f call L T H k kp = true) (hop : ∀ x ∈ o.op.operands.toList, OpdOk ρ es ds L T a x) : HOut P w0 ρ H w o a k kp := by
  have ho : o.op = o.op := rfl
  generalize hop2 : o.op = op at h hop ho
  unfold chp at h
  split at h
  · rename_i t x
    split at h
    rename_i gx f hgx hf
    have hx := hop x (by simp [Op.operands])
    unfold OpdOk at hx
    rw [hgx] at hx
    have h' : (cload P t).f (gx L T) H (fun v => k v H) = true := by rw [hf]; exact h
    obtain ⟨v, a1, r, s, z, g1, g2, g3, g4⟩ := cload_inv h'
    have hρ : ∃ y, ρ a1 = some y := by
      simp only at hx
      rw [g2] at hx
      simp only [VR] at hx
      obtain ⟨b, κ, q, _⟩ := hx
      exact ⟨_, q⟩
    obtain ⟨y, hy⟩ := hρ
    obtain ⟨Vv, g5, g6⟩ := g4 ρ w _ hx (R.rel.obj a1 (VR.lt R.rel hy))
    refine OpOut.out R ⟨ρ, H, v, Vv, w, g1, g5, R.rel, Step.refl _ _ _, .inl ?_⟩
    unfold execOp
    rw [hop2]
    show (do pure (.value (← Instr.loadAt t (a.eval x))) : Sem Next).run P w = _
    rw [Sem.run_bind, g6]; rfl
  · rename_i t x y
    split at h
    rename_i gx gy f hgx hgy hf
    have hx := hop x (by simp [Op.operands])
    have hy := hop y (by simp [Op.operands])
    unfold OpdOk at hx hy
    rw [hgx] at hx
    rw [hgy] at hy
    have h' : (cstore P t).f (gx L T) (gy L T) H (fun H => k .undef H) = true := by rw [hf]; exact h
    obtain ⟨a1, r, s, z, ob, g1, g2, g3, g4, g5, g6⟩ := cstore_inv h'
    have hρ : ∃ y, ρ a1 = some y := by
      simp only at hx
      rw [g1] at hx
      simp only [VR] at hx
      obtain ⟨b, κ, q, _⟩ := hx
      exact ⟨_, q⟩
    obtain ⟨q, hq⟩ := hρ
    have ha := VR.lt R.rel hq
    obtain ⟨w', b, κ, q1, q2, q3, q4, q5, q6, q7, q8⟩ := g6 ρ w _ _ hx hy (R.rel.obj a1 ha)
    obtain ⟨k2, k3⟩ := put_rel R.rel ha g3 q2 q3 q4 q5 q6 q7 q8
    exact OpOut.out R ⟨ρ, _, .undef, undef, w', g2, VR_undef, k2, k3, .inr ⟨run_execStore hop2 a.eval q1, rfl⟩⟩
  · rename_i s d x
    have := (cconvH_sound R.rel h (hop x (by simp [Op.operands]))).op
    refine OpOut.out R (this.congr ?_)
    unfold execOp
    rw [hop2]
  · rename_i t x i ok
    have := (clookup_sound R.rel h (hop x (by simp [Op.operands])) (hop i (by simp [Op.operands]))).op
    refine OpOut.out R (this.congr ?_)
    unfold execOp
    rw [hop2]
  · rename_i t m i x
    have := cupdate_sound R.rel h (hop m (by simp [Op.operands])) (hop i (by simp [Op.operands])) (hop x (by simp [Op.operands]))
    refine OpOut.out R (this.congr ?_)
    unfold execOp
    rw [hop2]
  · rename_i t m i x
    have := cupdate_sound R.rel h (hop m (by simp [Op.operands])) (hop i (by simp [Op.operands])) (hop x (by simp [Op.operands]))
    refine OpOut.out R (this.congr ?_)
    unfold execOp
    rw [hop2]
  · rename_i x
    split at h
    rename_i gx hgx
    have hx := hop x (by simp [Op.operands])
    unfold OpdOk at hx
    rw [hgx] at hx
    obtain ⟨t, v, e, h1⟩ := vIface_inv h
    simp only at hx
    rw [e] at hx
    have hx2 := hx
    simp only [VR] at hx2
    obtain ⟨X, hX, _⟩ := hx2
    intro next Q g1 g2
    have hrun : (execOp a.eval o).run P w = .halt (.panic (a.eval x)) w := by
      unfold execOp
      rw [hop2]
      show (do pure (.value (← Instr.panic (a.eval x))) : Sem Next).run P w = _
      rw [Sem.run_bind, hX]; rfl
    unfold Oper.wp
    rw [hrun]
    exact g2 ρ H _ _ w R (Step.refl _ _ _) hx h1
  · rename_i c
    split at h
    · rename_i f hc
      refine ccallF_sound R hcall hn hop2 hc h (hop f (by simp [Op.operands, Call.operands, hc])) fun x hx => hop x ?_
      simp only [Op.operands, Call.operands, hc, Array.toList_append, List.mem_append]; exact .inr hx
    · rename_i hc
      split at h
      · rename_i t t' x y ht hx
        have ht := arr2 ht
        have hx' := arr2 hx
        have := (cappend_sound (ty := o.type) R.rel h (hop x (by simp [Op.operands, Call.operands, hc, hx'])) (hop y (by simp [Op.operands, Call.operands, hc, hx']))).op
        refine OpOut.out R (this.congr ?_)
        unfold execOp
        rw [hop2]
        simp only
        have e : (#[x, y] : Array Operand).map a.eval = #[a.eval x, a.eval y] := by simp
        rw [run_resolve_builtin hc, ht, hx', e]; rfl
      · exact absurd h Bool.false_ne_true
    · rename_i hc
      split at h
      · rename_i t t' x y ht hx
        have ht := arr2 ht
        have hx' := arr2 hx
        have := (ccopy_sound (ty := o.type) R.rel h (hop x (by simp [Op.operands, Call.operands, hc, hx'])) (hop y (by simp [Op.operands, Call.operands, hc, hx']))).op
        refine OpOut.out R (this.congr ?_)
        unfold execOp
        rw [hop2]
        simp only
        have e : (#[x, y] : Array Operand).map a.eval = #[a.eval x, a.eval y] := by simp
        rw [run_resolve_builtin hc, ht, hx', e]; rfl
      · exact absurd h Bool.false_ne_true
    · rename_i hc
      split at h
      · rename_i t x ht hx
        have ht := arr1 ht
        have hx' := arr1 hx
        have := (clenMap_sound (ty := o.type) R.rel h (hop x (by simp [Op.operands, Call.operands, hc, hx']))).op
        refine OpOut.out R (this.congr ?_)
        unfold execOp
        rw [hop2]
        simp only
        have e : (#[x] : Array Operand).map a.eval = #[a.eval x] := by simp
        rw [run_resolve_builtin hc, ht, hx', e]; rfl
      · exact absurd h Bool.false_ne_true
    · rename_i hc
      split at h
      · rename_i t x ht hx
        have ht := arr1 ht
        have hx' := arr1 hx
        have := (cclear_sound (ty := o.type) R.rel h (hop x (by simp [Op.operands, Call.operands, hc, hx']))).op
        refine OpOut.out R (this.congr ?_)
        unfold execOp
        rw [hop2]
        simp only
        have e : (#[x] : Array Operand).map a.eval = #[a.eval x] := by simp
        rw [run_resolve_builtin hc, ht, hx', e]; rfl
      · exact absurd h Bool.false_ne_true
    · exact absurd h Bool.false_ne_true
  · exact absurd h Bool.false_ne_true
end
end Go.Ev

namespace Go.Ev
open Go
set_option linter.unusedVariables false

/-! ### the lasting temporaries -/
def TT.getB (T : TT) : D8 → N8 AV
  | .d0 => T.b0 | .d1 => T.b1 | .d2 => T.b2 | .d3 => T.b3 | .d4 => T.b4 | .d5 => T.b5 | .d6 => T.b6 | .d7 => T.b7
def TT.setB (T : TT) (d : D8) (v : N8 AV) : TT :=
  match d with
  | .d0 => { T with b0 := v } | .d1 => { T with b1 := v } | .d2 => { T with b2 := v } | .d3 => { T with b3 := v } | .d4 => { T with b4 := v } | .d5 => { T with b5 := v } | .d6 => { T with b6 := v } | .d7 => { T with b7 := v }
def TT.setSlot (T : TT) (s : Nat) (v : AV) : TT := T.setB (dig (s / 8 % 8)) ((T.getB (dig (s / 8 % 8))).set (dig (s % 8)) v)
theorem TT.slot_eq (T : TT) (s : Nat) : T.slot s = (T.getB (dig (s / 8 % 8))).get (dig (s % 8)) := by
  unfold TT.slot TT.getB; rfl
theorem TT.getB_setB (T : TT) (d d' : D8) (v : N8 AV) : (T.setB d v).getB d' = if d' = d then v else T.getB d' := by cases d <;> cases d' <;> rfl
theorem TT.ds_setSlot (T : TT) (s : Nat) (v : AV) : (T.setSlot s v).ds = T.ds := by
  unfold TT.setSlot TT.setB; cases dig (s / 8 % 8) <;> rfl
theorem TT.slot_setSlot (T : TT) (s s' : Nat) (v : AV) (h : s < 64) (h' : s' < 64) : (T.setSlot s v).slot s' = if s' = s then v else T.slot s' := by
  simp only [TT.slot_eq, TT.setSlot, TT.getB_setB]
  by_cases e : s' = s
  · subst e; simp [N8.get_dig]
  · rw [if_neg e]
    by_cases e1 : dig (s' / 8 % 8) = dig (s / 8 % 8)
    · rw [if_pos e1, N8.get_dig, if_neg, e1]
      intro e2
      have := dig_inj (Nat.mod_lt _ (by decide)) (Nat.mod_lt _ (by decide)) e1
      omega
    · rw [if_neg e1]
theorem slt_u (d : D8) (T : TT) (f : N8 AV → (N8 AV → Bool) → Bool) (k : TT → Bool) : (slt d).u T f k = f (T.getB d) fun v => k (T.setB d v) := by cases d <;> rfl
theorem putT_eq (s : Nat) (T : TT) (v : AV) (k : TT → Bool) : (putT s).p T v k = k (T.setSlot s v) := by
  change (slt (dig (s / 8 % 8))).u T (fun t k => (sl (dig (s % 8))).u t (fun _ k => k v) k) k = _
  rw [slt_u, sl_u]; rfl
theorem idxF_get : ∀ {l : List Nat} {t i j : Nat}, idxF t l i = some j → i ≤ j ∧ l[j - i]? = some t
  | [], t, i, j, h => by rw [idxF_nil] at h; cases h
  | a :: l, t, i, j, h => by
    cases hb : Nat.beq a t with
    | true =>
      rw [idxF_yes l i hb] at h
      cases h
      refine ⟨Nat.le_refl _, ?_⟩
      rw [Nat.sub_self, beq_iff'.1 hb]; rfl
    | false =>
      rw [idxF_no l i hb] at h
      obtain ⟨h1, h2⟩ := idxF_get h
      have h1 : i + 1 ≤ j := h1
      refine ⟨by omega, ?_⟩
      have e : j - i = (j - Nat.succ i) + 1 := by
        show j - i = (j - (i + 1)) + 1
        omega
      rw [e]; simpa using h2
theorem idxIn_get {l : List Nat} {t i : Nat} (h : idxIn t l = some i) : l[i]? = some t := by
  have := (idxF_get (show idxF t l 0 = some i from h)).2
  simpa using this
theorem idxIn_inj {l : List Nat} {t t' i : Nat} (h : idxIn t l = some i) (h' : idxIn t' l = some i) : t = t' := by
  have h1 := idxIn_get h
  rw [idxIn_get h'] at h1; exact (Option.some.inj h1).symm
theorem posn_some : ∀ {l : List (Option Nat)} {t i : Nat}, posn t l = some i → l[i]? = some (some t)
  | [], t, i, h => by simp [posn] at h
  | none :: l, t, i, h => by
    simp only [posn] at h
    cases hq : posn t l with
    | none => rw [hq] at h; cases h
    | some j => rw [hq] at h; simp at h; subst h; simpa using posn_some hq
  | some a :: l, t, i, h => by
    simp only [posn] at h
    split at h
    · rename_i hb; cases h; rw [beq_iff'.1 hb]; rfl
    · cases hq : posn t l with
      | none => rw [hq] at h; cases h
      | some j => rw [hq] at h; simp at h; subst h; simpa using posn_some hq

/-! ### what holds between the operations of a region -/
def DCR (ρ : Valn) (d : DC) (D : Deferred) : Prop := ∃ (Args Cap : List Value), D = { target := .fn (.func d.f) (List.toArray Cap), args := List.toArray Args } ∧ VRs ρ d.args Args ∧ VRs ρ d.cap Cap
def DCRs (ρ : Valn) : List DC → List Deferred → Prop
  | [], D => D = []
  | d :: l, D => ∃ X D', D = X :: D' ∧ DCR ρ d X ∧ DCRs ρ l D'
theorem DCRs.mono {ρ ρ' : Valn} (h : ρ.le ρ') : ∀ {l : List DC} {D : List Deferred}, DCRs ρ l D → DCRs ρ' l D
  | [], _, e => e
  | _ :: _, _, ⟨X, D', e, ⟨A, C, h1, h2, h3⟩, h4⟩ => ⟨X, D', e, ⟨A, C, h1, VRs.mono h _ _ h2, VRs.mono h _ _ h3⟩, h4.mono h⟩
/-- the lasting temporaries and the deferred calls -/
structure TR (ρ : Valn) (es : List Nat) (nt : Nat) (T : TT) (a : Act) : Prop where
  size : a.tmps.size = nt
  tmp : ∀ t s, idxIn t es = some s → s < 64 → VR ρ (T.slot s) (a.tmps.getD t undef)
  defers : DCRs ρ T.ds a.defers
theorem TR.mono {ρ ρ' : Valn} (h : ρ.le ρ') {es : List Nat} {nt : Nat} {T : TT} {a : Act} (r : TR ρ es nt T a) : TR ρ' es nt T a :=
  ⟨r.size, fun t s h1 h2 => VR.mono h _ _ (r.tmp t s h1 h2), r.defers.mono h⟩
structure RegInv (ρ : Valn) (es : List Nat) (nt : Nat) (ds : List (Option Nat)) (L : List AV) (T : TT) (a : Act) : Prop extends TR ρ es nt T a where
  len : L.length = ds.length
  loc : ∀ t i, posn t ds = some i → VR ρ (L.getD i .any) (a.tmps.getD t undef)
theorem RegInv.mono {ρ ρ' : Valn} (h : ρ.le ρ') {es : List Nat} {nt : Nat} {ds : List (Option Nat)} {L : List AV} {T : TT} {a : Act} (r : RegInv ρ es nt ds L T a) : RegInv ρ' es nt ds L T a :=
  ⟨r.toTR.mono h, r.len, fun t i hi => VR.mono h _ _ (r.loc t i hi)⟩
section
variable {P : Program} {es : List Nat} {nt : Nat} {ds : List (Option Nat)} {L : List AV} {T : TT} {w0 : World} {ρ : Valn} {a : Act}
theorem RegInv.start (r : TR ρ es nt T a) : RegInv ρ es nt [] [] T a := ⟨r, rfl, fun t i h => by simp [posn] at h⟩
theorem RegInv.sees (r : RegInv ρ es nt ds L T a) (t : Nat) : Sees ρ es ds L T a t := by
  unfold Sees cgetTmp
  cases hp : posn t ds with
  | some i => simp only; rw [getL_eq]; exact r.loc t i hp
  | none =>
    simp only
    cases hi : idxIn t es with
    | none => exact VR_any _
    | some s =>
      simp only
      cases hs : Nat.blt s 64 with
      | true => simp only; rw [getT_eq]; exact r.tmp t s hi (blt_iff.1 hs)
      | false => exact VR_any _
theorem RegInv.opd (r : RegInv ρ es nt ds L T a) (x : Operand) : OpdOk ρ es ds L T a x := OpdOk.of_sees fun t _ => r.sees t
theorem getD_set (xs : Array Value) (d t : Nat) (v : Value) (h : d < xs.size) : (xs.setIfInBounds d v).getD t undef = if t = d then v else xs.getD t undef := by
  by_cases e : t = d
  · subst e; simp [Array.getD, h]
  · rw [if_neg e]
    simp only [Array.getD_eq_getD_getElem?]
    rw [Array.getElem?_setIfInBounds_ne (fun q => e q.symm)]
theorem put_tmps (a : Act) (d : Nat) (v : Value) : (a.put (some d) v).tmps = a.tmps.setIfInBounds d v := rfl
/-- an operation without a destination -/
theorem RegInv.put_none (r : RegInv ρ es nt ds L T a) (v : AV) (V : Value) : RegInv ρ es nt (none :: ds) (v :: L) T (a.put none V) := by
  refine ⟨⟨r.size, r.tmp, r.defers⟩, by simp [r.len], fun t i h => ?_⟩
  simp only [posn] at h
  cases hq : posn t ds with
  | none => rw [hq] at h; cases h
  | some j => rw [hq] at h; simp at h; subst h; exact r.loc t j hq
/-- an operation with a destination -/
theorem RegInv.loc_put (r : RegInv ρ es nt ds L T a) {d : Nat} {v : AV} {V : Value} (hd : d < nt) (hv : VR ρ v V) :
    ∀ t i, posn t (some d :: ds) = some i → VR ρ ((v :: L).getD i .any) ((a.put (some d) V).tmps.getD t undef) := by
  intro t i h
  rw [put_tmps, getD_set _ _ _ _ (by rw [r.size]; exact hd)]
  simp only [posn] at h
  split at h
  · rename_i hb
    cases h
    rw [if_pos (beq_iff'.1 hb).symm]
    exact hv
  · rename_i hb
    have hb := beq_not hb
    rw [if_neg (fun e => hb e.symm)]
    cases hq : posn t ds with
    | none => rw [hq] at h; cases h
    | some j => rw [hq] at h; simp at h; subst h; exact r.loc t j hq
theorem RegInv.put_new (r : RegInv ρ es nt ds L T a) {d : Nat} {v : AV} {V : Value} (hd : d < nt) (hi : idxIn d es = none) (hv : VR ρ v V) : RegInv ρ es nt (some d :: ds) (v :: L) T (a.put (some d) V) := by
  refine ⟨⟨?_, fun t s h1 h2 => ?_, r.defers⟩, by simp [r.len], r.loc_put hd hv⟩
  · rw [put_tmps, Array.size_setIfInBounds]; exact r.size
  · rw [put_tmps, getD_set _ _ _ _ (by rw [r.size]; exact hd), if_neg]
    · exact r.tmp t s h1 h2
    · intro e; subst e; rw [hi] at h1; cases h1
theorem RegInv.put_last (r : RegInv ρ es nt ds L T a) {d s0 : Nat} {v : AV} {V : Value} (hd : d < nt) (hi : idxIn d es = some s0) (hs : s0 < 64) (hv : VR ρ v V) : RegInv ρ es nt (some d :: ds) (v :: L) (T.setSlot s0 v) (a.put (some d) V) := by
  refine ⟨⟨?_, fun t s h1 h2 => ?_, by rw [TT.ds_setSlot]; exact r.defers⟩, by simp [r.len], ?_⟩
  · rw [put_tmps, Array.size_setIfInBounds]; exact r.size
  · rw [put_tmps, getD_set _ _ _ _ (by rw [r.size]; exact hd), TT.slot_setSlot _ _ _ _ hs h2]
    by_cases e : t = d
    · subst e
      rw [hi] at h1; cases h1
      rw [if_pos rfl, if_pos rfl]; exact hv
    · have hne : s ≠ s0 := fun q => e (idxIn_inj h1 (by rw [q]; exact hi))
      rw [if_neg e, if_neg hne]
      exact r.tmp t s h1 h2
  · exact r.loc_put hd hv
/-- a guard -/
theorem wanted_guard {ops : Array Oper} {o : Oper} {j : Nat} {want : Bool} {d : Nat} (hg : o.guard = some (j, want)) (hd : (ops[j]?).bind (·.dst) = some d) (hs : Sees ρ es ds L T a d) :
    (∀ b, (cgetTmp es ds d).g L T = .bool b → Region.wanted o (yielded ops a.tmps) = (b == want)) ∧ ((cgetTmp es ds d).g L T = .undef → Region.wanted o (yielded ops a.tmps) = false) := by
  unfold Sees at hs
  unfold Region.wanted yielded
  rw [hg]
  simp only [hd, Option.bind_some]
  refine ⟨fun b hb => ?_, fun hb => ?_⟩
  · rw [hb] at hs
    simp only [VR] at hs
    have : a.tmps[d]? = some (.bool b) := by
      rw [Array.getD_eq_getD_getElem?] at hs
      cases h : a.tmps[d]? with
      | none => rw [h] at hs; simp [undef] at hs
      | some x => rw [h] at hs; simpa using hs
    rw [this]
    cases b <;> cases want <;> rfl
  · rw [hb] at hs
    simp only [VR] at hs
    rw [Array.getD_eq_getD_getElem?] at hs
    cases h : a.tmps[d]? with
    | none => rfl
    | some x => rw [h] at hs; simp at hs; rw [hs]; rfl
end
end Go.Ev

namespace Go.Ev
open Go
set_option linter.unusedVariables false

section
variable {P : Program} {es : List Nat} {nt : Nat} {w0 : World}
theorem cop_sound {ds : List (Option Nat)} {L : List AV} {T : TT} {ρ : Valn} {H : Heap} {w : World} (R : Rl w0 ρ H w) {call : CallK} (hcall : CallOk P w0 call) (hn : Named P) {o : Oper} {a : Act} {k kp : AV → Heap → Bool}
    (h : (cop P es ds o.op).f call L T H k kp = true) (hop : ∀ x ∈ o.op.operands.toList, OpdOk ρ es ds L T a x) : HOut P w0 ρ H w o a k kp := by
  unfold cop at h
  split at h
  · split at h
    rename_i f hf
    have h' : (cpu P es ds o.op).f L T (fun v => k v H) = true := by rw [hf]; exact h
    obtain ⟨v, V, h1, h2, h3⟩ := cpu_sound h' hop
    exact OpOut.out R ⟨ρ, H, v, V, w, h1, h2, R.rel, Step.refl _ _ _, .inl (h3 w)⟩
  · split at h
    rename_i f hf
    have h' : (cal P es ds o.op).f L T (fun ob v => newO H ob fun a H => k (v a) H) = true := by rw [hf]; exact h
    obtain ⟨ob, vf, h1, h2, h3⟩ := cal_sound h'
    obtain ⟨obj, κ, Vf, h4, h5⟩ := h3 ρ a hop
    obtain ⟨ρ', H', g1, g2, g3, g4⟩ := alloc_step R.rel h4 h1
    exact OpOut.out R ⟨ρ', H', _, _, _, g1, g2, g3, g4, .inl (h5 w)⟩
  · split at h
    rename_i f hf
    have h' : (chp P es ds o.op).f call L T H k kp = true := by rw [hf]; exact h
    exact chp_sound R hcall hn h' hop
/-- how a region goes on -/
def ToN (Q : Exit → Act → World → Prop) (w0 : World) (es : List Nat) (nt : Nat) (ρ : Valn) (H : Heap) (w : World) (k : TT → Heap → Bool) : Prop :=
  ∀ ρ' H' T' a' w', TR ρ' es nt T' a' → Rl w0 ρ' H' w' → Step ρ H w ρ' H' w' → k T' H' = true → Q .normal a' w'
def ToP (Q : Exit → Act → World → Prop) (w0 : World) (es : List Nat) (nt : Nat) (ρ : Valn) (H : Heap) (w : World) (kp : TT → AV → Heap → Bool) : Prop :=
  ∀ ρ' H' T' a' v V w', TR ρ' es nt T' a' → Rl w0 ρ' H' w' → Step ρ H w ρ' H' w' → VR ρ' v V → kp T' v H' = true → Q (.panic [{ v := V, recovered := false }]) a' w'
theorem ToN.step {Q : Exit → Act → World → Prop} {ρ ρ1 : Valn} {H H1 : Heap} {w w1 : World} {k : TT → Heap → Bool} (h : ToN Q w0 es nt ρ H w k) (s : Step ρ H w ρ1 H1 w1) : ToN Q w0 es nt ρ1 H1 w1 k :=
  fun ρ' H' T' a' w' h1 h2 h3 h4 => h ρ' H' T' a' w' h1 h2 (s.trans h3) h4
theorem ToP.step {Q : Exit → Act → World → Prop} {ρ ρ1 : Valn} {H H1 : Heap} {w w1 : World} {kp : TT → AV → Heap → Bool} (h : ToP Q w0 es nt ρ H w kp) (s : Step ρ H w ρ1 H1 w1) : ToP Q w0 es nt ρ1 H1 w1 kp :=
  fun ρ' H' T' a' v V w' h1 h2 h3 h4 h5 => h ρ' H' T' a' v V w' h1 h2 (s.trans h3) h4 h5
/-- as 'wpOps', without the way out -/
def wpOpsI (P : Program) (ops : Array Oper) (Q : Exit → Act → World → Prop) : List Nat → Act → World → Prop
  | [], a, w => Q .normal a w
  | i :: rest, a, w =>
    match ops[i]? with
    | none => wpOpsI P ops Q rest a w
    | some o => if Region.wanted o (yielded ops a.tmps) then o.wp P a w (wpOpsI P ops Q rest) Q else wpOpsI P ops Q rest (a.put o.dst undef) w
theorem wpOpsI_ops {ops : Array Oper} {Q : Exit → Act → World → Prop} : ∀ (l : List Nat) (a : Act) (w : World), wpOpsI P ops Q l a w → wpOps P ops Q l a w
  | [], _, _, h => h
  | i :: rest, a, w, h => by
    unfold wpOpsI at h
    unfold wpOps
    split at h
    · rename_i ho; simp only [ho]; exact wpOpsI_ops rest a w h
    · rename_i o ho
      simp only [ho]
      split at h
      · rename_i hw; rw [if_pos hw]; exact .inl (Oper.wp_mono (fun a w => wpOpsI_ops rest a w) h)
      · rename_i hw; rw [if_neg hw]; exact wpOpsI_ops rest _ _ h
theorem wpOpsI_opsS {ops : Array Oper} {cs : List Frame} {Q : Exit → Act → List Frame → World → Prop} : ∀ (l : List Nat) (a : Act) (w : World), wpOpsI P ops (fun e a w => Q e a cs w) l a w → wpOpsS P ops Q l a cs w
  | [], _, _, h => h
  | i :: rest, a, w, h => by
    unfold wpOpsI at h
    unfold wpOpsS
    split at h
    · rename_i ho; simp only [ho]; exact wpOpsI_opsS rest a w h
    · rename_i o ho
      simp only [ho]
      split at h
      · rename_i hw
        rw [if_pos hw]
        have h := Oper.wp_mono (fun a w => wpOpsI_opsS rest a w) h
        unfold Oper.wp at h
        split
        · rename_i w' hr
          rw [hr] at h
          exact h.elim
        · exact h
      · rename_i hw; rw [if_neg hw]; exact wpOpsI_opsS rest _ _ h
theorem wpOpsI_yes {ops : Array Oper} {Q : Exit → Act → World → Prop} {i : Nat} {rest : List Nat} {a : Act} {w : World} {o : Oper} (ho : ops[i]? = some o) (hw : Region.wanted o (yielded ops a.tmps) = true)
    (h : o.wp P a w (wpOpsI P ops Q rest) Q) : wpOpsI P ops Q (i :: rest) a w := by
  simp only [wpOpsI, ho, hw, if_true]; exact h
theorem wpOpsI_no {ops : Array Oper} {Q : Exit → Act → World → Prop} {i : Nat} {rest : List Nat} {a : Act} {w : World} {o : Oper} (ho : ops[i]? = some o) (hw : Region.wanted o (yielded ops a.tmps) = false)
    (h : wpOpsI P ops Q rest (a.put o.dst undef) w) : wpOpsI P ops Q (i :: rest) a w := by
  simp only [wpOpsI, ho, hw, Bool.false_eq_true, if_false]; exact h
/-- what a region's remainder does -/
def RgOk (P : Program) (w0 : World) (es : List Nat) (nt : Nat) (ops : Array Oper) (call : CallK) (rest : List Nat) (ds : List (Option Nat)) (r : Rg) : Prop :=
  ∀ (ρ : Valn) (H : Heap) (w : World) (L : List AV) (T : TT) (a : Act) (k : TT → Heap → Bool) (kp : TT → AV → Heap → Bool) (Q : Exit → Act → World → Prop), Rl w0 ρ H w → RegInv ρ es nt ds L T a →
    r.f call L T H k kp = true → ToN Q w0 es nt ρ H w k → ToP Q w0 es nt ρ H w kp → wpOpsI P ops Q rest a w
theorem after_sound {ops : Array Oper} {call : CallK} {rest : List Nat} {ds : List (Option Nat)} {s : St} {r : Rg} {o : Oper} (hr : RgOk P w0 es nt ops call rest (o.dst :: ds) r) {ρ : Valn} {H : Heap} {w : World} {L : List AV} {T : TT} {a : Act}
    {k : TT → Heap → Bool} {kp : TT → AV → Heap → Bool} {Q : Exit → Act → World → Prop} (I : RegInv ρ es nt ds L T a) (h : (after es nt o.dst s r).f call L T H k kp = true) (h1 : ToN Q w0 es nt ρ H w k) (h2 : ToP Q w0 es nt ρ H w kp) :
    ∃ k' : AV → Heap → Bool, s.f call L T H k' (kp T) = true ∧ ∀ ρ' H' v V w', Rl w0 ρ' H' w' → Step ρ H w ρ' H' w' → VR ρ' v V → k' v H' = true → wpOpsI P ops Q rest (a.put o.dst V) w' := by
  unfold after at h
  obtain ⟨s⟩ := s
  obtain ⟨r⟩ := r
  generalize hd : o.dst = dst at h hr
  cases dst with
  | none =>
    refine ⟨_, h, fun ρ' H' v V w' q1 q2 q3 q4 => ?_⟩
    refine hr ρ' H' w' _ T _ k kp Q q1 ?_ q4 (h1.step q2) (h2.step q2)
    exact ⟨⟨I.size, fun t s x y => VR.mono q2.le _ _ (I.tmp t s x y), I.defers.mono q2.le⟩, by simp [I.len], fun t i hi => by
      simp only [posn] at hi
      cases hq : posn t ds with
      | none => rw [hq] at hi; cases hi
      | some j => rw [hq] at hi; simp at hi; subst hi; exact VR.mono q2.le _ _ (I.loc t j hq)⟩
  | some d =>
    simp only at h
    split at h
    · rename_i hb hi
      refine ⟨_, h, fun ρ' H' v V w' q1 q2 q3 q4 => ?_⟩
      exact hr ρ' H' w' _ T _ k kp Q q1 ((I.mono q2.le).put_new (blt_iff.1 hb) hi q3) q4 (h1.step q2) (h2.step q2)
    · rename_i i hb hi
      split at h
      · rename_i p hs hp
        refine ⟨_, h, fun ρ' H' v V w' q1 q2 q3 q4 => ?_⟩
        have q5 : (putT i).p T v (fun T => r call (v :: L) T H' k kp) = true := by rw [hp]; exact q4
        rw [putT_eq] at q5
        exact hr ρ' H' w' _ _ _ k kp Q q1 ((I.mono q2.le).put_last (blt_iff.1 hb) hi (blt_iff.1 hs) q3) q5 (h1.step q2) (h2.step q2)
      · exact absurd h Bool.false_ne_true
    · exact absurd h Bool.false_ne_true
theorem after_cop {ops : Array Oper} {call : CallK} (hcall : CallOk P w0 call) (hn : Named P) {rest : List Nat} {ds : List (Option Nat)} {r : Rg} {o : Oper} {i : Nat} (ho : ops[i]? = some o) (hr : RgOk P w0 es nt ops call rest (o.dst :: ds) r)
    {ρ : Valn} {H : Heap} {w : World} {L : List AV} {T : TT} {a : Act} {k : TT → Heap → Bool} {kp : TT → AV → Heap → Bool} {Q : Exit → Act → World → Prop} (R : Rl w0 ρ H w) (I : RegInv ρ es nt ds L T a)
    (h : (after es nt o.dst (cop P es ds o.op) r).f call L T H k kp = true) (h1 : ToN Q w0 es nt ρ H w k) (h2 : ToP Q w0 es nt ρ H w kp) (hw : Region.wanted o (yielded ops a.tmps) = true) : wpOpsI P ops Q (i :: rest) a w := by
  obtain ⟨k', g1, g2⟩ := after_sound hr I h h1 h2
  exact wpOpsI_yes ho hw (cop_sound R hcall hn g1 (fun x _ => I.opd x) _ _ g2 fun ρ' H' v V w' q1 q2 q3 q4 => h2 ρ' H' T a v V w' (I.toTR.mono q2.le) q1 q2 q3 q4)
theorem after_skip {ops : Array Oper} {call : CallK} {rest : List Nat} {ds : List (Option Nat)} {r : Rg} {o : Oper} {i : Nat} (ho : ops[i]? = some o) (hr : RgOk P w0 es nt ops call rest (o.dst :: ds) r)
    {ρ : Valn} {H : Heap} {w : World} {L : List AV} {T : TT} {a : Act} {k : TT → Heap → Bool} {kp : TT → AV → Heap → Bool} {Q : Exit → Act → World → Prop} (R : Rl w0 ρ H w) (I : RegInv ρ es nt ds L T a)
    (h : (after es nt o.dst skipS r).f call L T H k kp = true) (h1 : ToN Q w0 es nt ρ H w k) (h2 : ToP Q w0 es nt ρ H w kp) (hw : Region.wanted o (yielded ops a.tmps) = false) : wpOpsI P ops Q (i :: rest) a w := by
  obtain ⟨k', g1, g2⟩ := after_sound (s := skipS) hr I h h1 h2
  exact wpOpsI_no ho hw (g2 ρ H .undef undef w R (Step.refl _ _ _) VR_undef g1)
theorem run_defer {o : Oper} {c : Call} {f : Operand} (ho : o.op = .defer c) (hc : c.callee = .value f) (ρ : Operand → Value) {g : Nat} {X Y : Array Value} (hf : ρ f = .func (.func g) X Y) (w : World) :
    (execOp ρ o).run P w = .ok (.defer { target := .fn (.func g) Y, args := X ++ c.args.map ρ }) w := by
  unfold execOp
  rw [ho]
  show (do pure (.defer (← resolve ρ c o.type)) : Sem Next).run P w = _
  rw [Sem.run_bind]
  unfold resolve
  rw [hc]
  simp only [Deferred.ofValue, hf, Sem.run_pure, Result.andThen_ok]
theorem cops_sound {ops : Array Oper} {call : CallK} (hcall : CallOk P w0 call) (hn : Named P) : ∀ (l : List Oper) (i : Nat) (ds : List (Option Nat)), (∀ j o, l[j]? = some o → ops[i + j]? = some o) → RgOk P w0 es nt ops call (List.range' i l.length) ds (cops P es nt ops ds l)
  | [], i, ds, hl => by
    intro ρ H w L T a k kp Q R I h h1 h2
    exact h1 ρ H T a w I.toTR R (Step.refl _ _ _) h
  | o :: l, i, ds, hl => by
    intro ρ H w L T a k kp Q R I h h1 h2
    have ho : ops[i]? = some o := by simpa using hl 0 o rfl
    have hl' : ∀ j o, l[j]? = some o → ops[(i + 1) + j]? = some o := fun j o hj => by
      have := hl (j + 1) o (by simpa using hj)
      have e : i + (j + 1) = i + 1 + j := by omega
      rwa [e] at this
    have ih := fun ds => cops_sound hcall hn l (i + 1) ds hl'
    show wpOpsI P ops Q (i :: List.range' (i + 1) l.length) a w
    unfold cops at h
    split at h
    · rename_i c hop
      split at h
      · rename_i hg hd
        have ih' := ih (none :: ds)
        have hw : Region.wanted o (yielded ops a.tmps) = true := by unfold Region.wanted; rw [hg]
        unfold cdefer at h
        split at h
        · rename_i f hc
          generalize cops P es nt ops (none :: ds) l = r at h ih'
          obtain ⟨r⟩ := r
          split at h
          rename_i gf as r' hgf has hr'
          cases hr'
          obtain ⟨g, xs, ys, e, h3⟩ := vFn_inv h
          rw [appC_eq] at h3
          have hf := I.opd f
          unfold OpdOk at hf
          rw [hgf] at hf
          simp only at hf
          rw [e] at hf
          simp only [VR] at hf
          obtain ⟨Xs, Ys, q1, q2, q3⟩ := hf
          have hargs := cgets_sound (es := es) (ds := ds) (L := L) (T := T) (ρ := ρ) (a := a) (l := c.args.toList) fun x _ => I.opd x
          rw [has] at hargs
          refine wpOpsI_yes ho hw ?_
          unfold Oper.wp
          rw [run_defer hop hc a.eval q1]
          show wpOpsI P ops Q (List.range' (i + 1) l.length) (Act.put _ o.dst undef) w
          rw [hd]
          refine ih' ρ H w _ _ _ k kp Q R ?_ h3 h1 h2
          refine ⟨⟨I.size, I.tmp, ?_⟩, by simp [I.len], fun t i hi => ?_⟩
          · refine ⟨_, _, rfl, ⟨Xs ++ c.args.toList.map a.eval, Ys, ?_, q2.append hargs, q3⟩, I.defers⟩
            congr 1
            apply Array.ext'; simp
          · simp only [posn] at hi
            cases hq : posn t ds with
            | none => rw [hq] at hi; cases hi
            | some j => rw [hq] at hi; simp at hi; subst hi; exact I.loc t j hq
        · exact absurd h Bool.false_ne_true
      · exact absurd h Bool.false_ne_true
    · rename_i op hnd
      have ih' := ih (o.dst :: ds)
      generalize cops P es nt ops (o.dst :: ds) l = r at h ih'
      cases hg : o.guard with
      | none =>
        rw [hg] at h
        have hw : Region.wanted o (yielded ops a.tmps) = true := by unfold Region.wanted; rw [hg]
        exact after_cop hcall hn ho ih' R I h h1 h2 hw
      | some jw =>
        obtain ⟨j, want⟩ := jw
        rw [hg] at h
        simp only at h
        cases hd : (ops[j]?).bind (·.dst) with
        | none => rw [hd] at h; exact absurd h Bool.false_ne_true
        | some d =>
          rw [hd] at h
          simp only at h
          obtain ⟨w1, w2⟩ := wanted_guard (o := o) hg hd (I.sees d)
          generalize hgg : cgetTmp es ds d = g at h w1 w2
          generalize hy : after es nt o.dst (cop P es ds o.op) r = y at h
          generalize hno : after es nt o.dst skipS r = no at h
          obtain ⟨g⟩ := g
          obtain ⟨y⟩ := y
          obtain ⟨no⟩ := no
          have yes : y call L T H k kp = true → Region.wanted o (yielded ops a.tmps) = true → wpOpsI P ops Q (i :: List.range' (i + 1) l.length) a w := fun q1 q2 =>
            after_cop hcall hn ho ih' R I (by rw [hy]; exact q1) h1 h2 q2
          have nay : no call L T H k kp = true → Region.wanted o (yielded ops a.tmps) = false → wpOpsI P ops Q (i :: List.range' (i + 1) l.length) a w := fun q1 q2 =>
            after_skip ho ih' R I (by rw [hno]; exact q1) h1 h2 q2
          cases want with
          | true =>
            rcases vGuard_inv h with ⟨b, e, h3⟩ | ⟨e, h3⟩
            · rcases bIf_inv h3 with ⟨hb, h4⟩ | ⟨hb, h4⟩
              · exact yes h4 (by rw [w1 b e, hb]; rfl)
              · exact nay h4 (by rw [w1 b e, hb]; rfl)
            · exact nay h3 (w2 e)
          | false =>
            rcases vGuard_inv h with ⟨b, e, h3⟩ | ⟨e, h3⟩
            · rcases bIf_inv h3 with ⟨hb, h4⟩ | ⟨hb, h4⟩
              · exact nay h4 (by rw [w1 b e, hb]; rfl)
              · exact yes h4 (by rw [w1 b e, hb]; rfl)
            · exact nay h3 (w2 e)
end
end Go.Ev

namespace Go.Ev
open Go
set_option linter.unusedVariables false

/-! ### closures that hand one value on, or none -/
def Cps {α : Type} (F : (α → Bool) → Bool) : Prop := (∀ k, F k = false) ∨ ∃ v, ∀ k, F k = k v
section
variable {α : Type}
theorem Cps.fail : Cps (fun _ : α → Bool => false) := .inl fun _ => rfl
theorem Cps.ret (v : α) : Cps (fun k : α → Bool => k v) := .inr ⟨v, fun _ => rfl⟩
theorem Cps.vInt {v : AV} {G : Nat → Nat → (α → Bool) → Bool} (h : ∀ c n, Cps (G c n)) : Cps (fun k => Ev.vInt v fun c n => G c n k) := by cases v <;> first | exact Cps.fail | exact h _ _
theorem Cps.vIntR {v : AV} {F : Nat → Nat → (α → Bool) → Bool} {G : Nat → Nat → Nat → (α → Bool) → Bool} (h0 : ∀ c n, Cps (F c n)) (h : ∀ a b c, Cps (G a b c)) : Cps (fun k => Ev.vIntR v (fun c n => F c n k) fun a b c => G a b c k) := by cases v <;> first | exact Cps.fail | exact h0 _ _ | exact h _ _ _
theorem Cps.vBool {v : AV} {G : Bool → (α → Bool) → Bool} (h : ∀ c, Cps (G c)) : Cps (fun k => Ev.vBool v fun c => G c k) := by cases v <;> first | exact Cps.fail | exact h _
theorem Cps.vStr {v : AV} {G : Nat → Nat → (α → Bool) → Bool} (h : ∀ c n, Cps (G c n)) : Cps (fun k => Ev.vStr v fun c n => G c n k) := by cases v <;> first | exact Cps.fail | exact h _ _
theorem Cps.vPtr {v : AV} {G : Nat → Nat → Nat → Nat → (α → Bool) → Bool} (h : ∀ a b c d, Cps (G a b c d)) : Cps (fun k => Ev.vPtr v fun a b c d => G a b c d k) := by cases v <;> first | exact Cps.fail | exact h _ _ _ _
theorem Cps.vSlice {v : AV} {G : Nat → Nat → Nat → Nat → Bool → Nat → (α → Bool) → Bool} (h : ∀ a b c d e f, Cps (G a b c d e f)) : Cps (fun k => Ev.vSlice v fun a b c d e f => G a b c d e f k) := by cases v <;> first | exact Cps.fail | exact h _ _ _ _ _ _
theorem Cps.nkS {c : NK} {G : (α → Bool) → Bool} (h : Cps G) : Cps (fun k => Ev.nkS c (G k)) := by cases c <;> first | exact Cps.fail | exact h
theorem Cps.nkI {c : NK} {G : (α → Bool) → Bool} (h : Cps G) : Cps (fun k => Ev.nkI c (G k)) := by cases c <;> first | exact Cps.fail | exact h
theorem Cps.nkP {c : NK} {G : (α → Bool) → Bool} (h : Cps G) : Cps (fun k => Ev.nkP c (G k)) := by cases c <;> first | exact Cps.fail | exact h
theorem Cps.nkM {c : NK} {G : (α → Bool) → Bool} (h : Cps G) : Cps (fun k => Ev.nkM c (G k)) := by cases c <;> first | exact Cps.fail | exact h
theorem Cps.nkF {c : NK} {G : (α → Bool) → Bool} (h : Cps G) : Cps (fun k => Ev.nkF c (G k)) := by cases c <;> first | exact Cps.fail | exact h
theorem Cps.vSliceN {v : AV} {F : (α → Bool) → Bool} {G : Nat → Nat → Nat → Nat → Bool → Nat → (α → Bool) → Bool} (h0 : Cps F) (h : ∀ a b c d e f, Cps (G a b c d e f)) : Cps (fun k => Ev.vSliceN v (F k) fun a b c d e f => G a b c d e f k) := by
  cases v <;> first | exact Cps.fail | exact h _ _ _ _ _ _ | exact Cps.nkS h0
theorem Cps.vIface {v : AV} {G : Nat → AV → (α → Bool) → Bool} (h : ∀ a b, Cps (G a b)) : Cps (fun k => Ev.vIface v fun a b => G a b k) := by cases v <;> first | exact Cps.fail | exact h _ _
theorem Cps.vIfaceN {v : AV} {F : (α → Bool) → Bool} {G : Nat → AV → (α → Bool) → Bool} (h0 : Cps F) (h : ∀ a b, Cps (G a b)) : Cps (fun k => Ev.vIfaceN v (F k) fun a b => G a b k) := by
  cases v <;> first | exact Cps.fail | exact h _ _ | exact Cps.nkI h0
theorem Cps.vAgg {v : AV} {G : Nat → List AV → (α → Bool) → Bool} (h : ∀ a b, Cps (G a b)) : Cps (fun k => Ev.vAgg v fun a b => G a b k) := by cases v <;> first | exact Cps.fail | exact h _ _
theorem Cps.vTup {v : AV} {G : List AV → (α → Bool) → Bool} (h : ∀ a, Cps (G a)) : Cps (fun k => Ev.vTup v fun a => G a k) := by cases v <;> first | exact Cps.fail | exact h _
theorem Cps.vRef {v : AV} {G : (α → Bool) → Bool} (h : Cps G) : Cps (fun k => Ev.vRef v (G k)) := by cases v <;> first | exact Cps.fail | exact h
theorem Cps.vCell {v : AV} {F : (α → Bool) → Bool} {G : Nat → List AV → (α → Bool) → Bool} (h0 : Cps F) (h : ∀ a b, Cps (G a b)) : Cps (fun k => Ev.vCell v (F k) fun a b => G a b k) := by
  cases v <;> first | exact Cps.fail | exact h _ _ | exact h0
theorem Cps.vNilP {v : AV} {F G : (α → Bool) → Bool} (h0 : Cps F) (h : Cps G) : Cps (fun k => Ev.vNilP v (F k) (G k)) := by cases v <;> first | exact Cps.fail | exact h | exact Cps.nkP h0
theorem Cps.vNilS {v : AV} {F G : (α → Bool) → Bool} (h0 : Cps F) (h : Cps G) : Cps (fun k => Ev.vNilS v (F k) (G k)) := by cases v <;> first | exact Cps.fail | exact h | exact Cps.nkS h0
theorem Cps.vNilM {v : AV} {F G : (α → Bool) → Bool} (h0 : Cps F) (h : Cps G) : Cps (fun k => Ev.vNilM v (F k) (G k)) := by cases v <;> first | exact Cps.fail | exact h | exact Cps.nkM h0
theorem Cps.vNilF {v : AV} {F G : (α → Bool) → Bool} (h0 : Cps F) (h : Cps G) : Cps (fun k => Ev.vNilF v (F k) (G k)) := by cases v <;> first | exact Cps.fail | exact h | exact Cps.nkF h0
theorem Cps.vNilI {v : AV} {F G : (α → Bool) → Bool} (h0 : Cps F) (h : Cps G) : Cps (fun k => Ev.vNilI v (F k) (G k)) := by cases v <;> first | exact Cps.fail | exact h | exact Cps.nkI h0
theorem Cps.bIf {b : Bool} {F G : (α → Bool) → Bool} (h0 : Cps F) (h : Cps G) : Cps (fun k => Ev.bIf b (F k) (G k)) := by cases b <;> assumption
theorem Cps.forceNat {n : Nat} {G : Nat → (α → Bool) → Bool} (h : ∀ n, Cps (G n)) : Cps (fun k => Ev.forceNat n fun n => G n k) := by
  have e : (fun k => Ev.forceNat n fun n => G n k) = G n := by funext k; rw [forceNat_eq]
  rw [e]; exact h n
theorem Cps.forceB {b : Bool} {G : Bool → (α → Bool) → Bool} (h : ∀ b, Cps (G b)) : Cps (fun k => Ev.forceB b fun b => G b k) := by
  have e : (fun k => Ev.forceB b fun b => G b k) = G b := by funext k; rw [forceB_eq]
  rw [e]; exact h b
theorem Cps.dropC {β : Type} {l : List β} {n : Nat} {G : List β → (α → Bool) → Bool} (h : ∀ l, Cps (G l)) : Cps (fun k => Ev.dropC l n fun l => G l k) := by
  by_cases hn : n ≤ l.length
  · have e : (fun k => Ev.dropC l n fun l => G l k) = G (l.drop n) := by funext k; rw [dropC_eq hn]
    rw [e]; exact h _
  · refine .inl fun k => ?_
    cases hq : Ev.dropC l n fun l => G l k with
    | false => exact hq
    | true => exact absurd (dropC_inv hq).1 hn
theorem Cps.takeC {β : Type} {l : List β} {n : Nat} {G : List β → (α → Bool) → Bool} (h : ∀ l, Cps (G l)) : Cps (fun k => Ev.takeC l n fun l => G l k) := by
  by_cases hn : n ≤ l.length
  · have e : (fun k => Ev.takeC l n fun l => G l k) = G (l.take n) := by funext k; rw [takeC_eq hn]
    rw [e]; exact h _
  · refine .inl fun k => ?_
    cases hq : Ev.takeC l n fun l => G l k with
    | false => exact hq
    | true => exact absurd (takeC_inv hq).1 hn
theorem Cps.appC {β : Type} {l m : List β} {G : List β → (α → Bool) → Bool} (h : ∀ l, Cps (G l)) : Cps (fun k => Ev.appC l m fun l => G l k) := by
  have e : (fun k => Ev.appC l m fun l => G l k) = G (l ++ m) := by funext k; rw [appC_eq]
  rw [e]; exact h _
theorem Cps.uncons {β : Type} {l : List β} {F : (α → Bool) → Bool} {G : β → List β → (α → Bool) → Bool} (h0 : Cps F) (h : ∀ a l, Cps (G a l)) : Cps (fun k => Ev.uncons l (F k) fun a l => G a l k) := by
  cases l with
  | nil => exact h0
  | cons a l => exact h a l
theorem Cps.cellsN {v : AV} {n : Nat} {G : List AV → (α → Bool) → Bool} (h : ∀ l, Cps (G l)) : Cps (fun k => Ev.cellsN v n fun l => G l k) :=
  Cps.vCell (Cps.bIf (h _) Cps.fail) fun _ _ => Cps.bIf (h _) Cps.fail
theorem Cps.nthC {l : List AV} {i : Nat} {G : AV → (α → Bool) → Bool} (h : ∀ v, Cps (G v)) : Cps (fun k => Ev.nthC l i fun v => G v k) :=
  Cps.dropC fun _ => Cps.uncons Cps.fail fun v _ => h v
theorem Cps.asIdx {v : AV} {b : Nat} {G : Nat → (α → Bool) → Bool} (h : ∀ v, Cps (G v)) : Cps (fun k => Ev.asIdx v b fun v => G v k) :=
  Cps.vInt fun _ n => Cps.bIf (Cps.bIf (h n) Cps.fail) Cps.fail
theorem Cps.asI64 {v : AV} {b : Nat} {G : Nat → (α → Bool) → Bool} (h : ∀ v, Cps (G v)) : Cps (fun k => Ev.asI64 v b fun v => G v k) :=
  Cps.vInt fun _ n => Cps.bIf (Cps.bIf (h n) Cps.fail) Cps.fail
/-- what the closure hands on -/
theorem Cps.get {F : (α → Bool) → Bool} (h : Cps F) {k : α → Bool} (hk : F k = true) : ∃ v, k v = true ∧ ∀ k', F k' = k' v := by
  rcases h with h | ⟨v, h⟩
  · rw [h] at hk; cases hk
  · exact ⟨v, (h k).symm.trans hk, h⟩
end
section
variable {P : Program} {es : List Nat} {ds : List (Option Nat)} {L : List AV} {T : TT}
theorem cint_cps (op : BinOp) (c M h a b : Nat) : Cps ((cint op c M h).f a b) := by
  unfold cint
  split <;> (try split) <;> first
    | exact Cps.forceNat fun _ => Cps.ret _
    | exact Cps.forceB fun _ => Cps.ret _
    | exact Cps.bIf (Cps.bIf (Cps.bIf Cps.fail (Cps.forceNat fun _ => Cps.ret _)) Cps.fail) Cps.fail
    | exact Cps.bIf (Cps.ret _) (Cps.ret _)
    | exact Cps.fail
theorem cbinInt_cps (op : BinOp) (c : Nat) (x y : Get) : Cps ((cbinInt op c x y).f L T) := by
  obtain ⟨x⟩ := x
  obtain ⟨y⟩ := y
  unfold cbinInt
  split
  · exact Cps.vInt fun _ _ => Cps.vInt fun _ _ => Cps.bIf (Cps.bIf (Cps.forceNat fun _ => Cps.ret _) Cps.fail) Cps.fail
  · exact Cps.vInt fun _ _ => Cps.vInt fun _ _ => Cps.bIf (Cps.bIf (Cps.bIf (Cps.forceNat fun _ => Cps.ret _) Cps.fail) Cps.fail) Cps.fail
  · have hc := fun a b => cint_cps op c (modOf c) (halfOf c) a b
    generalize cint op c (modOf c) (halfOf c) = f at hc
    obtain ⟨f⟩ := f
    cases isRem op with
    | false => exact Cps.vInt fun _ a => Cps.vInt fun _ b => Cps.bIf (Cps.bIf (hc a b) Cps.fail) Cps.fail
    | true =>
      exact Cps.vIntR (fun _ a => Cps.vInt fun _ b => Cps.bIf (Cps.bIf (hc a b) Cps.fail) Cps.fail)
        fun _ _ _ => Cps.vInt fun _ _ => Cps.bIf (Cps.bIf (Cps.bIf (Cps.bIf (Cps.bIf (Cps.bIf (Cps.ret _) Cps.fail) Cps.fail) Cps.fail) Cps.fail) Cps.fail) Cps.fail
theorem cbinStr_cps (op : BinOp) (x y : Get) : Cps ((cbinStr op x y).f L T) := by
  obtain ⟨x⟩ := x
  obtain ⟨y⟩ := y
  unfold cbinStr
  simp only
  split
  · exact Cps.vStr fun _ _ => Cps.vStr fun _ _ => Cps.bIf (Cps.forceNat fun _ => Cps.forceNat fun _ => Cps.ret _) Cps.fail
  · exact Cps.vStr fun _ _ => Cps.vStr fun _ _ => Cps.forceB fun _ => Cps.ret _
  · exact Cps.vStr fun _ _ => Cps.vStr fun _ _ => Cps.bIf (Cps.ret _) (Cps.ret _)
  · exact Cps.vStr fun _ _ => Cps.vStr fun _ _ => Cps.forceB fun _ => Cps.ret _
  · exact Cps.vStr fun _ _ => Cps.vStr fun _ _ => Cps.bIf (Cps.ret _) (Cps.bIf (Cps.ret _) (Cps.ret _))
  · exact Cps.vStr fun _ _ => Cps.vStr fun _ _ => Cps.bIf (Cps.ret _) (Cps.forceB fun _ => Cps.ret _)
  · exact Cps.vStr fun _ _ => Cps.vStr fun _ _ => Cps.bIf (Cps.ret _) (Cps.ret _)
  · exact Cps.fail
theorem cbinBool_cps (op : BinOp) (x y : Get) : Cps ((cbinBool op x y).f L T) := by
  obtain ⟨x⟩ := x
  obtain ⟨y⟩ := y
  unfold cbinBool
  simp only
  split
  · exact Cps.vBool fun _ => Cps.vBool fun _ => Cps.bIf (Cps.forceB fun _ => Cps.ret _) (Cps.bIf (Cps.ret _) (Cps.ret _))
  · exact Cps.vBool fun _ => Cps.vBool fun _ => Cps.bIf (Cps.bIf (Cps.ret _) (Cps.ret _)) (Cps.forceB fun _ => Cps.ret _)
  · exact Cps.fail
theorem cnil_cps (eq : Bool) (c : NK) (x : Get) : Cps ((cnil eq c x).f L T) := by
  obtain ⟨x⟩ := x
  cases eq <;> cases c <;> first
    | exact Cps.vNilP (Cps.ret _) (Cps.ret _) | exact Cps.vNilS (Cps.ret _) (Cps.ret _) | exact Cps.vNilM (Cps.ret _) (Cps.ret _) | exact Cps.vNilF (Cps.ret _) (Cps.ret _) | exact Cps.vNilI (Cps.ret _) (Cps.ret _)
theorem cbinNil_cps (op : BinOp) (c : NK) (x y : Operand) (gx gy : Get) : Cps ((cbinNil op c x y gx gy).f L T) := by
  unfold cbinNil
  split <;> first | exact cnil_cps _ _ _ | exact Cps.fail
theorem cbin_cps (op : BinOp) (t : TypeId) (x y : Operand) (gx gy : Get) : Cps ((cbin P op t x y gx gy).f L T) := by
  unfold cbin
  split <;> first | exact cbinInt_cps _ _ _ _ | exact cbinStr_cps _ _ _ | exact cbinBool_cps _ _ _ | exact cbinNil_cps _ _ _ _ _ _ | exact Cps.fail
theorem cun_cps (op : UnOp) (x : Get) : Cps ((cun op x).f L T) := by
  obtain ⟨x⟩ := x
  cases op <;> first | exact Cps.vBool fun _ => Cps.bIf (Cps.ret _) (Cps.ret _) | exact Cps.vInt fun _ _ => Cps.forceNat fun _ => Cps.ret _ | exact Cps.fail
theorem cconv_cps (s d : TypeId) (x : Get) : Cps ((cconv P s d x).f L T) := by
  obtain ⟨x⟩ := x
  unfold cconv
  simp only
  split
  · split
    · exact Cps.vInt fun _ _ => Cps.bIf (Cps.forceNat fun _ => Cps.ret _) Cps.fail
    · exact Cps.vIntR (fun _ _ => Cps.bIf (Cps.bIf (Cps.ret _) Cps.fail) Cps.fail) fun _ _ _ => Cps.bIf (Cps.bIf (Cps.ret _) Cps.fail) Cps.fail
  · exact Cps.vStr fun _ _ => Cps.ret _
  · exact Cps.fail
theorem cpart_cps (t : TypeId) (off : Nat) (l : List AV) : Cps ((cpart P t off).f l) := by
  unfold cpart
  split
  · exact Cps.dropC fun _ => Cps.takeC fun _ => Cps.ret _
  · exact Cps.nthC fun _ => Cps.ret _
  · exact Cps.fail
theorem cfield_cps (t : TypeId) (f : Nat) (x : Get) : Cps ((cfield P t f x).f L T) := by
  obtain ⟨x⟩ := x
  unfold cfield
  split
  · split
    · exact Cps.vAgg fun _ l => cpart_cps _ _ l
    · exact Cps.fail
  · exact Cps.fail
theorem cfieldAddr_cps (t : TypeId) (f : Nat) (x : Get) : Cps ((cfieldAddr P t f x).f L T) := by
  obtain ⟨x⟩ := x
  unfold cfieldAddr
  split
  · split
    · split
      · exact Cps.vPtr fun _ _ _ _ => Cps.forceNat fun _ => Cps.ret _
      · exact Cps.fail
    · exact Cps.fail
  · exact Cps.fail
theorem cindex_cps (t : TypeId) (x i : Get) : Cps ((cindex P t x i).f L T) := by
  obtain ⟨x⟩ := x
  obtain ⟨i⟩ := i
  unfold cindex
  simp only
  split
  · exact Cps.vStr fun _ _ => Cps.asIdx fun _ => Cps.forceNat fun _ => Cps.ret _
  · rename_i len e hu
    split
    · rename_i p s hp hs hl
      refine Cps.vAgg fun _ l => Cps.asIdx fun _ => Cps.dropC fun r => ?_
      have := cpart_cps (P := P) e 0 r
      rw [hp] at this
      exact this
    · exact Cps.fail
  · exact Cps.fail
theorem cindexAddr_cps (t : TypeId) (x i : Get) : Cps ((cindexAddr P t x i).f L T) := by
  obtain ⟨x⟩ := x
  obtain ⟨i⟩ := i
  unfold cindexAddr
  simp only
  split
  · split
    · exact Cps.vSlice fun _ _ _ _ _ _ => Cps.asIdx fun _ => Cps.bIf (Cps.forceNat fun _ => Cps.ret _) Cps.fail
    · exact Cps.fail
  · split
    · exact Cps.vPtr fun _ _ _ _ => Cps.asIdx fun _ => Cps.forceNat fun _ => Cps.ret _
    · exact Cps.fail
  · exact Cps.fail
theorem cbd_cps {α : Type} (x : Option Operand) (d : Nat) {G : Nat → (α → Bool) → Bool} (h : ∀ n, Cps (G n)) : Cps (fun k => (cbd es ds x).f L T d fun n => G n k) := by
  cases x with
  | none => exact h d
  | some y => exact Cps.asIdx h
theorem cslice_cps (t : TypeId) (x : Get) (lo hi : Option Operand) : Cps ((cslice P t x (cbd es ds lo) (cbd es ds hi)).f L T) := by
  obtain ⟨x⟩ := x
  unfold cslice
  simp only
  split
  · exact Cps.vStr fun _ _ => cbd_cps hi _ fun _ => cbd_cps lo _ fun _ => Cps.bIf (Cps.bIf (Cps.forceNat fun _ => Cps.forceNat fun _ => Cps.ret _) Cps.fail) Cps.fail
  · split
    · refine Cps.vSliceN (cbd_cps hi _ fun _ => cbd_cps lo _ fun _ => Cps.bIf (Cps.bIf (Cps.ret _) Cps.fail) Cps.fail) fun _ _ _ _ _ _ => Cps.bIf (cbd_cps hi _ fun _ => cbd_cps lo _ fun _ => Cps.bIf (Cps.bIf ?_ ?_) Cps.fail) Cps.fail
      · exact Cps.bIf (Cps.bIf (Cps.forceNat fun _ => Cps.forceNat fun _ => Cps.ret _) (Cps.bIf (Cps.ret _) Cps.fail)) Cps.fail
      · exact Cps.bIf (Cps.bIf (Cps.forceNat fun _ => Cps.forceNat fun _ => Cps.forceNat fun _ => Cps.ret _) (Cps.ret _)) Cps.fail
    · exact Cps.fail
  · exact Cps.fail
theorem cextract_cps (x : Get) (i : Nat) : Cps ((cextract x i).f L T) := by
  obtain ⟨x⟩ := x
  exact Cps.vTup fun _ => Cps.nthC fun _ => Cps.ret _
theorem cassert_cps (t : TypeId) (ok : Bool) (x : Get) : Cps ((cassert P t ok x).f L T) := by
  obtain ⟨x⟩ := x
  unfold cassert
  simp only
  split
  · exact Cps.fail
  · split
    · exact Cps.vIfaceN (Cps.ret _) fun _ _ => Cps.bIf (Cps.ret _) (Cps.ret _)
    · exact Cps.vIface fun _ _ => Cps.bIf (Cps.ret _) Cps.fail
    · exact Cps.fail
  · exact Cps.fail
theorem cmkIface_cps (t : TypeId) (x : Get) : Cps ((cmkIface P t x).f L T) := by
  obtain ⟨x⟩ := x
  unfold cmkIface
  simp only
  split <;> first | exact Cps.fail | exact Cps.ret _
theorem prep_cps {α : Type} (l : List AV) : ∀ {r : Cbl} {G : List AV → (α → Bool) → Bool}, (∀ G : List AV → (α → Bool) → Bool, (∀ l, Cps (G l)) → Cps fun k => r.f L T fun q => G q k) → (∀ l, Cps (G l)) → Cps fun k => (prep l r).f L T fun q => G q k := by
  induction l with
  | nil => intro r G h hG; exact h G hG
  | cons x l ih => intro r G h hG; exact ih h (G := fun q => G (x :: q)) fun q => hG _
theorem cfields_cps {α : Type} (parts : List (Nat × Get)) : ∀ (fs : List Field) (i : Nat) (z : List AV) (r : Cbl), cfields P parts i fs z = some r → ∀ G : List AV → (α → Bool) → Bool, (∀ l, Cps (G l)) → Cps fun k => r.f L T fun q => G q k
  | [], i, [], r, h, G, hG => by simp only [cfields, Option.some.injEq] at h; subst h; exact hG _
  | [], i, _ :: _, r, h, G, hG => by simp [cfields] at h
  | fd :: fs, i, z, r, h, G, hG => by
    unfold cfields at h
    split at h
    · split at h
      · rename_i r' g _ hrec _
        cases h
        exact Cps.cellsN fun c => cfields_cps parts fs (i + 1) _ _ hrec (fun q k => Ev.appC c q fun q => G q k) fun q => Cps.appC hG
      · rename_i r' _ hrec _
        cases h
        exact prep_cps _ (fun G hG => cfields_cps parts fs (i + 1) _ _ hrec G hG) hG
      · cases h
    · cases h
theorem cbuild_cps (t : TypeId) (parts : List (Nat × Get)) : Cps ((cbuild P t parts).f L T) := by
  unfold cbuild
  split
  · split
    · split
      · rename_i n _ _ _ _ r hr
        exact cfields_cps parts _ _ _ _ hr (fun l (k : AV → Bool) => k (AV.agg n l)) fun l => Cps.ret _
      · exact Cps.fail
    · exact Cps.fail
  · exact Cps.fail
theorem clen_cps (t : TypeId) (x : Get) : Cps ((clen P t x).f L T) := by
  obtain ⟨x⟩ := x
  unfold clen
  simp only
  split
  · exact Cps.vStr fun _ _ => Cps.ret _
  · exact Cps.vSliceN (Cps.ret _) fun _ _ _ _ _ _ => Cps.ret _
  · split <;> first | exact Cps.fail | exact Cps.ret _
  · exact Cps.fail
theorem cminmax_cps (mx : Bool) : ∀ (l : List Get) (c : Cpu), cminmax mx l = some c → ∀ G : AV → (AV → Bool) → Bool, (∀ v, Cps (G v)) → Cps fun k => c.f L T fun v => G v k
  | [], c, h, G, hG => by simp [cminmax] at h
  | [⟨x⟩], c, h, G, hG => by
    simp only [cminmax, Option.some.injEq] at h
    subst h
    exact Cps.asI64 fun _ => hG _
  | ⟨x⟩ :: y :: l, c, h, G, hG => by
    unfold cminmax at h
    split at h
    · rename_i r hr
      cases h
      exact Cps.vInt fun _ n => Cps.bIf (Cps.bIf (cminmax_cps true (y :: l) _ hr (fun v k => Ev.vInt v fun _ m => Ev.bIf (Nat.blt n m) (G (.int 3 m) k) (G (.int 3 n) k)) fun v => Cps.vInt fun _ _ => Cps.bIf (hG _) (hG _)) (Cps.bIf (cminmax_cps true (y :: l) _ hr G hG) Cps.fail)) Cps.fail
    · rename_i r hr
      cases h
      exact Cps.asI64 fun n => cminmax_cps false (y :: l) _ hr (fun v k => Ev.vInt v fun _ m => Ev.bIf (Nat.blt m n) (G (.int 3 m) k) (G (.int 3 n) k)) fun v => Cps.vInt fun _ _ => Cps.bIf (hG _) (hG _)
    · cases h
theorem cpu_cps (op : Op) : Cps ((cpu P es ds op).f L T) := by
  unfold cpu
  split
  · exact Cps.ret _
  · exact Cps.ret _
  · exact Cps.vBool fun _ => Cps.bIf (Cps.ret _) (Cps.ret _)
  · exact cbuild_cps _ _
  · exact Cps.vRef (Cps.ret _)
  · exact cbin_cps _ _ _ _ _ _
  · exact cun_cps _ _
  · exact cconv_cps _ _ _
  · exact cmkIface_cps _ _
  · exact Cps.ret _
  · exact cslice_cps _ _ _ _
  · exact cfieldAddr_cps _ _ _
  · exact cfield_cps _ _ _
  · exact cindexAddr_cps _ _ _
  · exact cindex_cps _ _ _
  · exact cextract_cps _ _
  · exact cassert_cps _ _ _
  · split
    · exact clen_cps _ _
    · split
      · rename_i r hr; exact cminmax_cps true _ _ hr (fun v k => k v) fun v => Cps.ret _
      · exact Cps.fail
    · split
      · rename_i r hr; exact cminmax_cps false _ _ hr (fun v k => k v) fun v => Cps.ret _
      · exact Cps.fail
    · exact Cps.fail
  · exact Cps.fail
/-- what a pure operation comes to, whatever the state -/
theorem cpu_uniform {o : Oper} {k : AV → Bool} (h : (cpu P es ds o.op).f L T k = true) : ∃ v, k v = true ∧ ∀ (ρ : Valn) (a : Act), (∀ x ∈ o.op.operands.toList, OpdOk ρ es ds L T a x) →
    ∃ V, VR ρ v V ∧ ∀ w, (execOp a.eval o).run P w = .ok (.value V) w := by
  obtain ⟨v, hv, hk⟩ := (cpu_cps (P := P) (es := es) (ds := ds) (L := L) (T := T) o.op).get h
  refine ⟨v, hv, fun ρ a hop => ?_⟩
  have h2 : (cpu P es ds o.op).f L T (fun x => @decide (x = v) (Classical.propDecidable _)) = true := by rw [hk]; simp
  obtain ⟨v', V, g1, g2, g3⟩ := cpu_sound h2 hop
  have : v' = v := by simpa using g1
  exact ⟨V, this ▸ g2, g3⟩
/-- a load yields a value -/
def LoadIs (P : Program) (H : Heap) (t : TypeId) (p v : AV) : Prop := ∀ k, (cload P t).f p H k = k v
theorem cload_cps (t : TypeId) (p : AV) (H : Heap) : Cps ((cload P t).f p H) := by
  have row : ∀ {G : Nat → Nat → List AV → (AV → Bool) → Bool}, (∀ s z r, Cps (G s z r)) → Cps fun k => rowOf p H fun s z r => G s z r k := by
    intro G hG
    unfold rowOf
    refine Cps.vPtr fun a r s z => ?_
    have e : (fun k : AV → Bool => getO H a fun o => oCells o fun rs n z' _ _ _ => bIf (Nat.blt r n) (bIf (Nat.beq z z') (rowAt rs r fun row => G s z row k) false) false) =
        fun k => oCells (H.get a) fun rs n z' _ _ _ => bIf (Nat.blt r n) (bIf (Nat.beq z z') (rowAt rs r fun row => G s z row k) false) false := by
      funext k; rw [getO_eq]
    rw [e]
    cases H.get a with
    | none => exact Cps.fail
    | dead => exact Cps.fail
    | map es clk => exact Cps.fail
    | cells rs n z' el u ro =>
      refine Cps.bIf (Cps.bIf ?_ Cps.fail) Cps.fail
      unfold rowAt
      cases rs with
      | r0 q => exact Cps.bIf (hG _ _ _) Cps.fail
      | r1 q => exact hG _ _ _
      | r2 q => exact hG _ _ _
      | r3 q => exact hG _ _ _
      | rf g c => exact hG _ _ _
  unfold cload
  split
  · exact row fun s z r => Cps.bIf (Cps.bIf (Cps.ret _) Cps.fail) (Cps.dropC fun _ => Cps.takeC fun _ => Cps.ret _)
  · exact row fun s z r => Cps.nthC fun _ => Cps.ret _
  · exact Cps.fail
theorem cload_is {t : TypeId} {p : AV} {H : Heap} {k : AV → Bool} (h : (cload P t).f p H k = true) : ∃ v, k v = true ∧ LoadIs P H t p v := by
  obtain ⟨v, h1, h2⟩ := (cload_cps t p H).get h
  exact ⟨v, h1, h2⟩
theorem LoadIs.run {t : TypeId} {p v : AV} {H : Heap} (h : LoadIs P H t p v) : ∃ a r s z, p = .ptr a r s z ∧ (H.get a).live = true ∧ ∀ (ρ : Valn) (w : World) (V : Value), VR ρ p V → ObjR ρ w a (H.get a) →
    ∃ Vv, VR ρ v Vv ∧ (Instr.loadAt t V).run P w = .ok Vv w := by
  have h2 : (cload P t).f p H (fun x => @decide (x = v) (Classical.propDecidable _)) = true := by rw [h]; simp
  obtain ⟨v', a, r, s, z, g1, g2, g3, g4⟩ := cload_inv h2
  have : v' = v := by simpa using g1
  subst this
  exact ⟨a, r, s, z, g2, g3, g4⟩
end
end Go.Ev

namespace Go.Ev
open Go
set_option linter.unusedVariables false

/-! ### which operations come before which -/
theorem masks_spec : ∀ (l : List Oper) (acc : List Nat), ∃ r, masks acc l = acc ++ r ∧ r.length = l.length ∧
    ∀ (i : Nat) (o : Oper), l[i]? = some o → (masks acc l)[acc.length + i]? = some (maskOf ((masks acc l).take (acc.length + i)) o.after.toList)
  | [], acc => ⟨[], by simp [masks], rfl, by simp⟩
  | o :: l, acc => by
    obtain ⟨r, h1, h2, h3⟩ := masks_spec l (acc ++ [maskOf acc o.after.toList])
    have e : masks acc (o :: l) = acc ++ (maskOf acc o.after.toList :: r) := by
      show masks (acc ++ [maskOf acc o.after.toList]) l = _
      rw [h1]; simp
    refine ⟨_, e, by simp [h2], fun i x hx => ?_⟩
    cases i with
    | zero =>
      simp at hx
      subst hx
      rw [e]
      simp
    | succ i =>
      have := h3 i x (by simpa using hx)
      have e2 : masks acc (o :: l) = masks (acc ++ [maskOf acc o.after.toList]) l := rfl
      rw [e2]
      have e3 : acc.length + (i + 1) = (acc ++ [maskOf acc o.after.toList]).length + i := by simp; omega
      rw [e3]
      exact this
theorem tbit_iff {m i : Nat} : tbit m i = true ↔ m.testBit i = true := by
  unfold tbit
  rw [beq_iff']
  show ((m >>> i) &&& 1 = 1) ↔ _
  rw [Nat.testBit, Nat.and_comm]
  simp
theorem tbit_lor {a b i : Nat} : tbit (Nat.lor a b) i = true ↔ tbit a i = true ∨ tbit b i = true := by
  rw [tbit_iff, tbit_iff, tbit_iff]
  show (a ||| b).testBit i = true ↔ _
  rw [Nat.testBit_or, Bool.or_eq_true]
theorem tbit_pow {n i : Nat} : tbit (Nat.pow 2 n) i = true ↔ i = n := by
  rw [tbit_iff]
  show (2 ^ n).testBit i = true ↔ _
  rw [Nat.testBit_two_pow]
  simp; exact eq_comm
theorem tbit_zero {i : Nat} : ¬ tbit 0 i = true := by rw [tbit_iff]; simp
theorem maskOf_iff {acc : List Nat} {j : Nat} : ∀ {es : List Edge}, tbit (maskOf acc es) j = true ↔ ∃ e ∈ es, Region.binds .any e = true ∧ (j = e.on ∨ tbit (acc.getD e.on 0) j = true)
  | [] => by simp [maskOf, tbit_zero]
  | e :: es => by
    have ih := maskOf_iff (acc := acc) (j := j) (es := es)
    unfold maskOf
    cases hb : Region.binds .any e with
    | true =>
      simp only
      rw [tbit_lor, tbit_lor, tbit_pow, ih]
      constructor
      · rintro ((h | h) | ⟨e', h1, h2, h3⟩)
        · exact ⟨e, by simp, hb, .inl h⟩
        · exact ⟨e, by simp, hb, .inr h⟩
        · exact ⟨e', by simp [h1], h2, h3⟩
      · rintro ⟨e', h1, h2, h3⟩
        rcases List.mem_cons.1 h1 with rfl | h1
        · exact .inl h3
        · exact .inr ⟨e', h1, h2, h3⟩
    | false =>
      simp only
      rw [ih]
      constructor
      · rintro ⟨e', h1, h2, h3⟩; exact ⟨e', by simp [h1], h2, h3⟩
      · rintro ⟨e', h1, h2, h3⟩
        rcases List.mem_cons.1 h1 with rfl | h1
        · rw [hb] at h2; cases h2
        · exact ⟨e', h1, h2, h3⟩
theorem mk_masks {l : List Oper} {i : Nat} {o : Oper} (h : l[i]? = some o) (j : Nat) : tbit (mk (masks [] l) i) j = true ↔
    ∃ e ∈ o.after.toList, Region.binds .any e = true ∧ (j = e.on ∨ (e.on < i ∧ tbit (mk (masks [] l) e.on) j = true)) := by
  obtain ⟨r, h1, h2, h3⟩ := masks_spec l []
  have h4 := h3 i o h
  simp only [List.length_nil, Nat.zero_add] at h4
  have hi : i < l.length := (List.getElem?_eq_some_iff.1 h).1
  have e : mk (masks [] l) i = maskOf ((masks [] l).take i) o.after.toList := by
    unfold mk; rw [List.getD_eq_getElem?_getD, h4]; rfl
  rw [e, maskOf_iff]
  have hlen : (masks [] l).length = l.length := by rw [h1]; simpa using h2
  have acc : ∀ n, ((masks [] l).take i).getD n 0 = if n < i then mk (masks [] l) n else 0 := by
    intro n
    unfold mk
    rw [List.getD_eq_getElem?_getD, List.getD_eq_getElem?_getD, List.getElem?_take]
    split <;> rfl
  constructor
  · rintro ⟨e, g1, g2, g3⟩
    refine ⟨e, g1, g2, ?_⟩
    rcases g3 with g3 | g3
    · exact .inl g3
    · rw [acc] at g3
      split at g3
      · rename_i hlt; exact .inr ⟨hlt, g3⟩
      · exact absurd g3 tbit_zero
  · rintro ⟨e, g1, g2, g3⟩
    refine ⟨e, g1, g2, ?_⟩
    rcases g3 with g3 | ⟨hlt, g3⟩
    · exact .inl g3
    · rw [acc, if_pos hlt]; exact .inr g3
end Go.Ev
