/- Regions whose order is open: every order does what the evaluator does. -/
import Derived.Test.YtehnkiaepkldiaaGreatDoorEvD
namespace Go.Ev
open Go
set_option linter.unusedVariables false

/-- what comes before a listed operation is listed -/
def Down (ops : Array Oper) (listed : Array Bool) : Prop :=
  ∀ (i : Nat) (o : Oper), ops[i]? = some o → listed.getD i false = true → ∀ e ∈ o.after, Region.binds .any e = true → listed.getD e.on false = true
theorem mask_listed {ops : Array Oper} {listed : Array Bool} (hD : Down ops listed) : ∀ (n i : Nat) (o : Oper), i < n → ops[i]? = some o → (∀ e ∈ o.after, Region.binds .any e = true → listed.getD e.on false = true) →
    ∀ j, tbit (mk (masks [] ops.toList) i) j = true → listed.getD j false = true
  | 0, i, o, hi, ho, h, j, hj => by omega
  | n + 1, i, o, hi, ho, h, j, hj => by
    have ho' : ops.toList[i]? = some o := by rw [Array.getElem?_toList]; exact ho
    obtain ⟨e, h1, h2, h3⟩ := (mk_masks ho' j).1 hj
    have he := h e (Array.mem_toList_iff.1 h1) h2
    rcases h3 with rfl | ⟨hlt, h3⟩
    · exact he
    · have hlt2 : e.on < ops.size := by
        have := (Array.getElem?_eq_some_iff.1 ho).1
        omega
      have hoe : ops[e.on]? = some ops[e.on] := Array.getElem?_eq_getElem hlt2
      exact mask_listed hD n e.on _ (by omega) hoe (fun e' h4 h5 => hD e.on _ hoe he e' h4 h5) j h3
theorem Down.mask {ops : Array Oper} {listed : Array Bool} (hD : Down ops listed) {i : Nat} {o : Oper} (ho : ops[i]? = some o) (h : listed.getD i false = true) {j : Nat} (hj : tbit (mk (masks [] ops.toList) i) j = true) : listed.getD j false = true :=
  mask_listed hD (i + 1) i o (by omega) ho (hD i o ho h) j hj
theorem Down.ready {ops : Array Oper} {listed : Array Bool} (hD : Down ops listed) {i : Nat} (hr : i ∈ Region.ready .any ops listed) {j : Nat} (hj : tbit (mk (masks [] ops.toList) i) j = true) : listed.getD j false = true := by
  obtain ⟨h0, o, ho, h1⟩ := mem_ready.1 hr
  exact mask_listed hD (i + 1) i o (by omega) ho h1 j hj
theorem getD_setI {listed : Array Bool} {i j : Nat} (h : (listed.setIfInBounds i true).getD j false = true) : j = i ∨ listed.getD j false = true := by
  by_cases e : i = j
  · exact .inl e.symm
  · rw [getD_set_ne false e] at h; exact .inr h
theorem Down.add {ops : Array Oper} {listed : Array Bool} (hD : Down ops listed) {i : Nat} (hr : i ∈ Region.ready .any ops listed) : Down ops (listed.setIfInBounds i true) := by
  intro j o ho hj e he hb
  rcases getD_setI hj with rfl | hj
  · obtain ⟨h0, o', ho', h1⟩ := mem_ready.1 hr
    rw [ho] at ho'
    cases ho'
    exact getD_set_true (h1 e he hb)
  · exact getD_set_true (hD j o ho hj e he hb)
/-- an operation that is not listed, all before which are, may come up -/
theorem ready_of {ops : Array Oper} {listed : Array Bool} {i : Nat} {o : Oper} (ho : ops[i]? = some o) (hn : listed.getD i true = false) (h : ∀ j, tbit (mk (masks [] ops.toList) i) j = true → listed.getD j false = true) : i ∈ Region.ready .any ops listed := by
  refine mem_ready.2 ⟨hn, o, ho, fun e he hb => h e.on ?_⟩
  have ho' : ops.toList[i]? = some o := by rw [Array.getElem?_toList]; exact ho
  exact (mk_masks ho' e.on).2 ⟨e, Array.mem_toList_iff.2 he, hb, .inl rfl⟩
end Go.Ev

namespace Go.Ev
open Go
set_option linter.unusedVariables false

/-! ### heaps that differ in objects that are not yet, or no more, in sight -/
theorem Rel.weaken {ρ : Valn} {H H1 : Heap} {w : World} (R : Rel ρ H w) (hn : H1.next = H.next) (hg : ∀ x, x < 32768 → H1.get x = H.get x ∨ (H1.get x).live = false) : Rel ρ H1 w := by
  have hl : ∀ x, x < 32768 → (H1.get x).live = true → (H.get x).live = true := fun x hx h => by
    rcases hg x hx with e | e
    · rw [← e]; exact h
    · rw [h] at e; cases e
  refine ⟨by rw [hn]; exact R.next, fun a x h => by rw [hn]; exact R.dom a x h, fun a ha => ?_, fun a a' h1 h2 l1 l2 => R.inj a a' h1 h2 (hl a h1 l1) (hl a' h2 l2)⟩
  rcases hg a ha with e | e
  · rw [e]; exact R.obj a ha
  · cases hq : H1.get a with
    | none => trivial
    | dead => trivial
    | cells rs n z el u ro => rw [hq] at e; cases e
    | map es clk => rw [hq] at e; cases e
theorem Owns.weaken {ρ : Valn} {H H1 : Heap} (hg : ∀ x, x < 32768 → H1.get x = H.get x ∨ (H1.get x).live = false) {b : Nat} (h : Owns ρ H1 b) : Owns ρ H b := by
  obtain ⟨a, ha, hl, κ, hr⟩ := h
  rcases hg a ha with e | e
  · exact ⟨a, ha, by rw [← e]; exact hl, κ, hr⟩
  · rw [hl] at e; cases e
theorem Step.weaken {ρ0 ρ : Valn} {H0 H H1 : Heap} {w0 w : World} (S : Step ρ0 H0 w0 ρ H w) (hnx : H0.next ≤ 32768) (hn : H1.next = H.next) (hg : ∀ x, x < 32768 → H1.get x = H.get x ∨ (H1.get x).live = false) : Step ρ0 H0 w0 ρ H1 w :=
  ⟨S.le, S.keep, by rw [hn]; exact S.next, S.size, S.frame, fun b h => S.own b (h.weaken hg), fun x hx hd => by
    rcases hg x (by omega) with e | e
    · rw [e]; exact S.dead x hx hd
    · exact e, S.tape, S.os, S.output⟩
theorem Above.weaken {w0 : World} {ρ : Valn} {H H1 : Heap} {w : World} (A : Above w0 ρ H w) (hg : ∀ x, x < 32768 → H1.get x = H.get x ∨ (H1.get x).live = false) : Above w0 ρ H1 w :=
  ⟨A.size, A.same, fun b h => A.owns b (h.weaken hg), A.tape, A.os, A.output⟩
theorem Rel.live_lt {ρ : Valn} {H : Heap} {w : World} (R : Rel ρ H w) {x : Nat} (hx : x < 32768) (hl : (H.get x).live = true) : x < H.next := by
  obtain ⟨b, κ, h, _⟩ := (R.obj x hx).block hl
  exact R.dom x _ h
/-- an object of a number that was kept for it -/
theorem fresh_at {ρ0 ρ : Valn} {H0 H : Heap} {wst w0 w : World} (R : Rl w0 ρ H w) (S : Step ρ0 H0 wst ρ H w) {id κ : Nat} (hge : H0.next ≤ id) (hid : id < H.next) (hnone : ρ id = none) {ob : AObj} {obj : Obj} {vf : Nat → AV} {Vf : Nat → Value}
    (hn : NewOk ρ ob obj κ vf Vf) {H' : Heap} (hnx : H'.next = H.next) (hg : ∀ x, x < 32768 → H'.get x = if x = id then ob else H.get x) :
    Rl w0 (ρ.set id (w.heap.size, κ)) H' (w.alloc obj) ∧ Step ρ0 H0 wst (ρ.set id (w.heap.size, κ)) H' (w.alloc obj) ∧ VR (ρ.set id (w.heap.size, κ)) (vf id) (Vf w.heap.size) ∧ ρ.le (ρ.set id (w.heap.size, κ)) := by
  have hle : ρ.le (ρ.set id (w.heap.size, κ)) := Valn.le_set _ hnone
  have hset : (ρ.set id (w.heap.size, κ)) id = some (w.heap.size, κ) := Valn.set_same _ _ _
  obtain ⟨g1, g2⟩ := hn _ (w.alloc obj) w.heap.size id hle hset (heap_alloc_at w obj)
  have hsz : (w.alloc obj).heap.size = w.heap.size + 1 := World.size_alloc w obj
  have old : ∀ a b' κ', a < 32768 → a ≠ id → (H.get a).live = true → (ρ.set id (w.heap.size, κ)) a = some (b', κ') → b' < w.heap.size ∧ Owns ρ H b' := by
    intro a b' κ' ha hne hl hr
    rw [Valn.set_ne _ _ hne] at hr
    exact ⟨R.rel.owns_lt ⟨a, ha, hl, κ', hr⟩, a, ha, hl, κ', hr⟩
  have own : ∀ b, Owns (ρ.set id (w.heap.size, κ)) H' b → w.heap.size ≤ b ∨ Owns ρ H b := by
    rintro b ⟨a, ha, hl, κ', hr⟩
    rw [hg a ha] at hl
    by_cases e : a = id
    · rw [e, hset] at hr; cases hr; exact .inl (Nat.le_refl _)
    · rw [if_neg e] at hl
      exact .inr (old a b κ' ha e hl hr).2
  refine ⟨⟨⟨by rw [hnx]; exact R.rel.next, ?_, ?_, ?_⟩, ?_⟩, ?_, g2, hle⟩
  · intro a x hx
    rw [hnx]
    by_cases e : a = id
    · rw [e]; exact hid
    · rw [Valn.set_ne _ _ e] at hx; exact R.rel.dom a x hx
  · intro a ha
    rw [hg a ha]
    by_cases e : a = id
    · rw [if_pos e, e]; exact g1
    · rw [if_neg e]
      exact (R.rel.obj a ha).mono hle fun b' κ' hl hr => heap_alloc_lt w obj (R.rel.owns_lt ⟨a, ha, hl, κ', hr⟩)
  · intro a1 a2 h1 h2 l1 l2 b' κ1 κ2 r1 r2
    rw [hg a1 h1] at l1
    rw [hg a2 h2] at l2
    by_cases e1 : a1 = id <;> by_cases e2 : a2 = id
    · rw [e1, e2]
    · rw [if_neg e2] at l2
      have := old a2 b' κ2 h2 e2 l2 r2
      rw [e1, hset] at r1
      cases r1
      omega
    · rw [if_neg e1] at l1
      have := old a1 b' κ1 h1 e1 l1 r1
      rw [e2, hset] at r2
      cases r2
      omega
    · rw [if_neg e1] at l1
      rw [if_neg e2] at l2
      rw [Valn.set_ne _ _ e1] at r1
      rw [Valn.set_ne _ _ e2] at r2
      exact R.rel.inj a1 a2 h1 h2 l1 l2 b' κ1 κ2 r1 r2
  · refine ⟨by rw [hsz]; have := R.above.size; omega, fun b hb => ?_, fun b ho => ?_, R.above.tape, R.above.os, R.above.output⟩
    · rw [heap_alloc_lt w obj (Nat.lt_of_lt_of_le hb R.above.size)]; exact R.above.same b hb
    · rcases own b ho with h | h
      · exact Nat.le_trans R.above.size h
      · exact R.above.owns b h
  · refine ⟨Valn.le_trans S.le hle, fun a ha => ?_, by rw [hnx]; exact S.next, by rw [hsz]; have := S.size; omega, fun b hb hno => ?_, fun b ho => ?_, fun x hx hd => ?_, S.tape, S.os, S.output⟩
    · rw [Valn.set_ne _ _ (by omega)]; exact S.keep a ha
    · rw [heap_alloc_lt w obj (Nat.lt_of_lt_of_le hb S.size)]; exact S.frame b hb hno
    · rcases own b ho with h | h
      · exact .inl (Nat.le_trans S.size h)
      · exact S.own b h
    · have hx' : x < 32768 := by
        have := S.next
        have := R.rel.next
        omega
      rw [hg x hx', if_neg (by omega)]; exact S.dead x hx hd
/-- objects that a step did not see stand behind it as before it -/
theorem readd {ρ0 ρ ρ' : Valn} {H0 Hs H1 H' Hs' : Heap} {wst w0 w w' : World} (R : Rl w0 ρ Hs w) (S : Step ρ0 H0 wst ρ Hs w) (R' : Rl w0 ρ' H' w') (S' : Step ρ H1 w ρ' H' w') (hn1 : H1.next = Hs.next)
    (X : Nat → Prop) [DecidablePred X] (hX : ∀ x, X x → x < Hs.next ∧ H0.next ≤ x ∧ (H1.get x).live = false ∧ (Hs.get x).live = true) (hg1 : ∀ x, x < 32768 → ¬ X x → H1.get x = Hs.get x ∨ (H1.get x).live = false)
    (hn' : Hs'.next = H'.next) (hg' : ∀ x, x < 32768 → Hs'.get x = if X x then Hs.get x else H'.get x) : Rl w0 ρ' Hs' w' ∧ Step ρ0 H0 wst ρ' Hs' w' := by
  have hw : ∀ x, x < 32768 → H1.get x = Hs.get x ∨ (H1.get x).live = false := fun x hx => by
    by_cases h : X x
    · exact .inr (hX x h).2.2.1
    · exact hg1 x hx h
  have hlt : ∀ x, X x → x < 32768 := fun x h => Nat.lt_of_lt_of_le (hX x h).1 R.rel.next
  -- an extra object's place
  have place : ∀ x, X x → ∃ b κ, ρ x = some (b, κ) ∧ ρ' x = some (b, κ) ∧ b < w.heap.size ∧ ¬ Owns ρ H1 b ∧ Owns ρ Hs b ∧ w'.heap[b]? = w.heap[b]? := by
    intro x h
    obtain ⟨h1, h2, h3, h4⟩ := hX x h
    obtain ⟨b, κ, g1, g2⟩ := (R.rel.obj x (hlt x h)).block h4
    have hno : ¬ Owns ρ H1 b := by
      rintro ⟨a, ha, hl, κ', hr⟩
      have hl2 : (Hs.get a).live = true := by
        rcases hw a ha with e | e
        · rw [← e]; exact hl
        · rw [hl] at e; cases e
      have := R.rel.inj a x ha (hlt x h) hl2 h4 b κ' κ hr g1
      subst this
      rw [hl] at h3; cases h3
    exact ⟨b, κ, g1, S'.le x _ g1, g2, hno, ⟨x, hlt x h, h4, κ, g1⟩, S'.frame b g2 hno⟩
  have notOwn : ∀ x, X x → ∀ b κ, ρ' x = some (b, κ) → ¬ Owns ρ' H' b := by
    intro x h b κ hr ho
    obtain ⟨b', κ', g1, g2, g3, g4, g5, g6⟩ := place x h
    rw [hr] at g2
    cases g2
    rcases S'.own b ho with q | q
    · omega
    · exact g4 q
  have own : ∀ b, Owns ρ' Hs' b → w.heap.size ≤ b ∨ Owns ρ Hs b := by
    rintro b ⟨a, ha, hl, κ', hr⟩
    rw [hg' a ha] at hl
    by_cases h : X a
    · obtain ⟨b', κ'', g1, g2, g3, g4, g5, g6⟩ := place a h
      rw [hr] at g2
      cases g2
      exact .inr g5
    · rw [if_neg h] at hl
      rcases S'.own b ⟨a, ha, hl, κ', hr⟩ with q | q
      · exact .inl q
      · exact .inr (q.weaken hw)
  refine ⟨⟨⟨by rw [hn']; exact R'.rel.next, fun a x h => by rw [hn']; exact R'.rel.dom a x h, fun a ha => ?_, fun a1 a2 h1 h2 l1 l2 b κ1 κ2 r1 r2 => ?_⟩, ?_⟩, ?_⟩
  · rw [hg' a ha]
    by_cases h : X a
    · rw [if_pos h]
      refine (R.rel.obj a ha).mono S'.le fun b κ hl hr => ?_
      obtain ⟨b', κ', g1, g2, g3, g4, g5, g6⟩ := place a h
      rw [hr] at g1
      cases g1
      exact g6
    · rw [if_neg h]; exact R'.rel.obj a ha
  · rw [hg' a1 h1] at l1
    rw [hg' a2 h2] at l2
    by_cases x1 : X a1 <;> by_cases x2 : X a2
    · rw [if_pos x1] at l1
      rw [if_pos x2] at l2
      obtain ⟨b1, k1, g1, g2, _⟩ := place a1 x1
      obtain ⟨b2, k2, g3, g4, _⟩ := place a2 x2
      rw [r1] at g2
      rw [r2] at g4
      cases g2
      cases g4
      exact R.rel.inj a1 a2 h1 h2 l1 l2 b κ1 κ2 g1 g3
    · rw [if_neg x2] at l2
      exact absurd ⟨a2, h2, l2, κ2, r2⟩ (notOwn a1 x1 b κ1 r1)
    · rw [if_neg x1] at l1
      exact absurd ⟨a1, h1, l1, κ1, r1⟩ (notOwn a2 x2 b κ2 r2)
    · rw [if_neg x1] at l1
      rw [if_neg x2] at l2
      exact R'.rel.inj a1 a2 h1 h2 l1 l2 b κ1 κ2 r1 r2
  · exact ⟨R'.above.size, R'.above.same, fun b ho => by
      rcases own b ho with q | q
      · exact Nat.le_trans R.above.size q
      · exact R.above.owns b q, R'.above.tape, R'.above.os, R'.above.output⟩
  · refine ⟨Valn.le_trans S.le S'.le, fun a ha => ?_, by rw [hn']; have h1 := S'.next; have h2 := S.next; omega, Nat.le_trans S.size S'.size, fun b hb hno => ?_, fun b ho => ?_, fun x hx hd => ?_,
      S'.tape.trans S.tape, S'.os.trans S.os, S'.output.trans S.output⟩
    · rw [S'.keep a (by have := S.next; omega)]; exact S.keep a ha
    · have hb' := Nat.lt_of_lt_of_le hb S.size
      rw [S'.frame b hb' fun ho => ?_]
      · exact S.frame b hb hno
      · rcases S.own b (ho.weaken hw) with q | q
        · omega
        · exact hno q
    · rcases own b ho with q | q
      · exact .inl (Nat.le_trans S.size q)
      · exact S.own b q
    · have hx' : x < 32768 := by
        have := S.next
        have := R.rel.next
        omega
      rw [hg' x hx', if_neg (fun h => by have := (hX x h).2.1; omega)]
      refine S'.dead x (by have := S.next; omega) ?_
      rcases hw x hx' with e | e
      · rw [e]; exact S.dead x hx hd
      · exact e
end Go.Ev

namespace Go.Ev
open Go
set_option linter.unusedVariables false

/-! ### the log of what was evaluated -/
inductive EK where
  | pure
  | load (t : TypeId) (p : AV)
  | alloc (id : Nat) (ob : AObj)
  | writer
structure Ent where
  i : Nat
  v : AV
  k : EK
def lds (ops : List Oper) (lg : List Ent) : List (Option Nat) := lg.map fun e => (ops[e.i]?).bind (·.dst)
def lvs (lg : List Ent) : List AV := lg.map (·.v)
def lhas (lg : List Ent) (i : Nat) : Prop := ∃ e ∈ lg, e.i = i
/-- an operation that is not pure -/
def Loud (P : Program) (o : Oper) : Prop := isLoad o.op = true ∨ (match clsOf P o.op with | .pure => false | _ => true) = true
section
variable (P : Program) (es : List Nat) (nt : Nat) (T : TT) (ops : List Oper)
def LooksOk (ρ : Valn) (o : Oper) (lg : List Ent) (a : Act) : Prop := ∀ t ∈ looks ops o, Sees ρ es (lds ops lg) (lvs lg) T a t
/-- what an entry says about its operation -/
def EntFact (lg : List Ent) (e : Ent) (o : Oper) : Prop := match e.k with
  | .pure => ∀ ρ a, LooksOk es T ops ρ o lg a → ∃ V, VR ρ e.v V ∧ Yields P ops.toArray o V a
  | .load t p => Loud P o ∧ ∀ ρ a, LooksOk es T ops ρ o lg a → Region.wanted o (yielded ops.toArray a.tmps) = true ∧ ∃ V0, VR ρ p V0 ∧ ∀ w V, (Instr.loadAt t V0).run P w = .ok V w → (execOp a.eval o).run P w = .ok (.value V) w
  | .alloc id ob => Loud P o ∧ ob.live = true ∧ ∀ ρ a, LooksOk es T ops ρ o lg a → Region.wanted o (yielded ops.toArray a.tmps) = true ∧ ∃ obj κ vf Vf, vf id = e.v ∧ NewOk ρ ob obj κ vf Vf ∧
      ∀ w, (execOp a.eval o).run P w = .ok (.value (Vf w.heap.size)) (w.alloc obj)
  | .writer => True
def EntOk (M : List Nat) (lg : List Ent) (e : Ent) : Prop := ∃ o, ops[e.i]? = some o ∧ (∀ d, o.dst = some d → d < nt) ∧ (∀ j, tbit (mk M e.i) j = true → lhas lg j) ∧ ¬ lhas lg e.i ∧ EntFact P es T ops lg e o
def LgOk (M : List Nat) : List Ent → Prop
  | [] => True
  | e :: lg => EntOk P es nt T ops M lg e ∧ LgOk M lg
end
end Go.Ev

namespace Go.Ev
open Go
set_option linter.unusedVariables false

section
variable {P : Program} {es : List Nat} {nt : Nat} {T : TT} {ops : List Oper}
/-- what a light operation leaves behind in the evaluator -/
def After (P : Program) (i : Nat) (vf : Bool) (e : Ent) (H H' : Heap) (rds rds' : List Rd) (pds pds' : List Pd) : Prop := match e.k with
  | .pure => H' = H ∧ rds' = rds ∧ pds' = pds
  | .load t p => H' = H ∧ pds' = pds ∧ LoadIs P H t p e.v ∧ rds' = if vf then ⟨i, p, cload P t, e.v⟩ :: rds else rds
  | .alloc id ob => id = H.next ∧ H.next < 32768 ∧ H' = ⟨H.next + 1, H.t⟩ ∧ rds' = rds ∧ pds' = ⟨i, id, ob⟩ :: pds
  | .writer => False
theorem LooksOk.opd {ρ : Valn} {o : Oper} {lg : List Ent} {a : Act} (h : LooksOk es T ops ρ o lg a) : ∀ x ∈ o.op.operands.toList, OpdOk ρ es (lds ops lg) (lvs lg) T a x := by
  intro x hx
  refine OpdOk.of_sees fun t ht => h t ?_
  unfold looks opTmps
  refine List.mem_append_left _ (List.mem_filterMap.2 ⟨x, hx, ?_⟩)
  rw [ht]
theorem LooksOk.guard {ρ : Valn} {o : Oper} {lg : List Ent} {a : Act} (h : LooksOk es T ops ρ o lg a) {j : Nat} {want : Bool} (hg : o.guard = some (j, want)) {d : Nat} (hd : (ops[j]?).bind (·.dst) = some d) : Sees ρ es (lds ops lg) (lvs lg) T a d := by
  refine h d ?_
  unfold looks
  refine List.mem_append_right _ ?_
  rw [hg]
  simp [hd]
/-- a light operation, its guard aside -/
theorem clight_sound {lg : List Ent} {i : Nat} {o : Oper} {vf : Bool} {call : CallK} {H : Heap} {rds : List Rd} {pds : List Pd} {k : KD} {kp : AV → Heap → Bool} (hw : ∀ ρ a, LooksOk es T ops ρ o lg a → Region.wanted o (yielded ops.toArray a.tmps) = true)
    (h : (clight P es (lds ops lg) i vf o.op).f call (lvs lg) T H rds pds k kp = true) :
    ∃ e H' rds' pds', e.i = i ∧ EntFact P es T ops lg e o ∧ k (e.v :: lvs lg) H' rds' pds' = true ∧ After P i vf e H H' rds rds' pds pds' := by
  generalize hop : o.op = op at h
  unfold clight at h
  split at h
  · rename_i t x
    have main : ∀ w, LoadIs P H t ((cget es (lds ops lg) x).g (lvs lg) T) w → EntFact P es T ops lg ⟨i, w, .load t ((cget es (lds ops lg) x).g (lvs lg) T)⟩ o := by
      intro w hw2
      refine ⟨.inl (by rw [hop]; rfl), fun ρ a hl => ?_⟩
      refine ⟨hw ρ a hl, a.eval x, ?_, fun w V hV => ?_⟩
      · have := hl.opd x (by rw [hop]; simp [Op.operands])
        exact this
      · unfold execOp
        rw [hop]
        show (do pure (.value (← Instr.loadAt t (a.eval x))) : Sem Next).run P w = _
        rw [Sem.run_bind, hV]; rfl
    generalize hg : cget es (lds ops lg) x = g at h main
    have hld := fun k => cload_is (P := P) (t := t) (p := g.g (lvs lg) T) (H := H) (k := k)
    generalize hf : cload P t = f at h hld
    obtain ⟨g⟩ := g
    obtain ⟨f⟩ := f
    cases vf with
    | true =>
      obtain ⟨w, h1, h2⟩ := hld _ h
      exact ⟨⟨i, w, .load t (g (lvs lg) T)⟩, H, _, pds, rfl, main w h2, h1, rfl, rfl, h2, by simp [hf]⟩
    | false =>
      obtain ⟨w, h1, h2⟩ := hld _ h
      exact ⟨⟨i, w, .load t (g (lvs lg) T)⟩, H, _, pds, rfl, main w h2, h1, rfl, rfl, h2, by simp⟩
  · split at h
    · have hu := fun k => cpu_uniform (P := P) (es := es) (ds := lds ops lg) (L := lvs lg) (T := T) (o := o) (k := k)
      rw [hop] at hu
      split at h
      rename_i f hf
      have hu' := hu (fun w => k (w :: lvs lg) H rds pds) (by rw [hf]; exact h)
      obtain ⟨v, h1, h2⟩ := hu'
      refine ⟨⟨i, v, .pure⟩, H, rds, pds, rfl, fun ρ a hl => ?_, h1, rfl, rfl, rfl⟩
      obtain ⟨V, h3, h4⟩ := h2 ρ a (by rw [← hop]; exact hl.opd)
      exact ⟨V, h3, .inl ⟨hw ρ a hl, h4⟩⟩
    · rename_i hcls
      have hu := fun k => cal_sound (P := P) (es := es) (ds := lds ops lg) (L := lvs lg) (T := T) (o := o) (k := k)
      rw [hop] at hu
      split at h
      rename_i f hf
      obtain ⟨ob, vf', h1, h2, h3⟩ := hu (fun o w => hCase H fun nx t => bIf (Nat.blt nx 32768) (k (w nx :: lvs lg) ⟨Nat.succ nx, t⟩ rds (⟨i, nx, o⟩ :: pds)) false) (by rw [hf]; exact h)
      rw [hCase_eq] at h1
      obtain ⟨h4, h5⟩ := bIf_yes h1
      refine ⟨⟨i, vf' H.next, .alloc H.next ob⟩, _, rds, _, rfl, ⟨.inr (by rw [hop, hcls]), h2, fun ρ a hl => ⟨hw ρ a hl, ?_⟩⟩, h5, rfl, blt_iff.1 h4, rfl, rfl, rfl⟩
      obtain ⟨obj, κ, Vf, h6, h7⟩ := h3 ρ a (by rw [← hop]; exact hl.opd)
      exact ⟨obj, κ, vf', Vf, rfl, h6, h7⟩
    · exact absurd h Bool.false_ne_true
/-- a light operation with its guard -/
theorem gD_light {lg : List Ent} {i : Nat} {o : Oper} {vf : Bool} {call : CallK} {H : Heap} {rds : List Rd} {pds : List Pd} {k : KD} {kp : AV → Heap → Bool}
    (h : (gD es nt ops (lds ops lg) o (clight P es (lds ops lg) i vf o.op)).f call (lvs lg) T H rds pds k kp = true) :
    (∀ d, o.dst = some d → d < nt) ∧ ∃ e H' rds' pds', e.i = i ∧ EntFact P es T ops lg e o ∧ k (e.v :: lvs lg) H' rds' pds' = true ∧ After P i vf e H H' rds rds' pds pds' := by
  have hd : ∀ d, o.dst = some d → Nat.blt d nt = true := by
    intro d hdd
    cases hq : Nat.blt d nt with
    | true => rfl
    | false =>
      unfold gD at h
      simp only [hdd, hq] at h
      exact absurd h Bool.false_ne_true
  have h : (match o.guard with
      | none => clight P es (lds ops lg) i vf o.op
      | some (j, w) => match (ops[j]?).bind (·.dst) with
        | some d => guardD (cgetTmp es (lds ops lg) d) w (clight P es (lds ops lg) i vf o.op)
        | none => failD).f call (lvs lg) T H rds pds k kp = true := by
    unfold gD at h
    cases hdst : o.dst with
    | none => simp only [hdst] at h; exact h
    | some d => simp only [hdst, hd d hdst] at h; exact h
  refine ⟨fun d hdd => blt_iff.1 (hd d hdd), ?_⟩
  cases hg : o.guard with
  | none =>
    rw [hg] at h
    exact clight_sound (fun ρ a _ => by unfold Region.wanted; rw [hg]) h
  | some jw =>
    obtain ⟨j, want⟩ := jw
    rw [hg] at h
    simp only at h
    cases hdd : (ops[j]?).bind (·.dst) with
    | none => rw [hdd] at h; exact absurd h Bool.false_ne_true
    | some d =>
      rw [hdd] at h
      simp only at h
      have hdd' : (ops.toArray[j]?).bind (·.dst) = some d := by simpa using hdd
      have yes : (∃ b, (cgetTmp es (lds ops lg) d).g (lvs lg) T = .bool b ∧ (b == want) = true) → (clight P es (lds ops lg) i vf o.op).f call (lvs lg) T H rds pds k kp = true →
          ∃ e H' rds' pds', e.i = i ∧ EntFact P es T ops lg e o ∧ k (e.v :: lvs lg) H' rds' pds' = true ∧ After P i vf e H H' rds rds' pds pds' := by
        rintro ⟨b, hb, hbw⟩ h2
        exact clight_sound (fun ρ a hl => by rw [(wanted_guard hg hdd' (hl.guard hg hdd)).1 b hb]; exact hbw) h2
      have no : ((∃ b, (cgetTmp es (lds ops lg) d).g (lvs lg) T = .bool b ∧ (b == want) = false) ∨ (cgetTmp es (lds ops lg) d).g (lvs lg) T = .undef) → k (.undef :: lvs lg) H rds pds = true →
          ∃ e H' rds' pds', e.i = i ∧ EntFact P es T ops lg e o ∧ k (e.v :: lvs lg) H' rds' pds' = true ∧ After P i vf e H H' rds rds' pds pds' := by
        intro hn h2
        refine ⟨⟨i, .undef, .pure⟩, H, rds, pds, rfl, fun ρ a hl => ⟨undef, VR_undef, .inr ⟨?_, rfl⟩⟩, h2, rfl, rfl, rfl⟩
        obtain ⟨w1, w2⟩ := wanted_guard hg hdd' (hl.guard hg hdd)
        rcases hn with ⟨b, hb, hbw⟩ | hu
        · rw [w1 b hb]; exact hbw
        · exact w2 hu
      generalize cgetTmp es (lds ops lg) d = g at h yes no
      generalize clight P es (lds ops lg) i vf o.op = y at h yes
      obtain ⟨g⟩ := g
      obtain ⟨y⟩ := y
      cases want with
      | true =>
        rcases vGuard_inv h with ⟨b, e, h3⟩ | ⟨e, h3⟩
        · rcases bIf_inv h3 with ⟨hb, h4⟩ | ⟨hb, h4⟩
          · exact yes ⟨b, e, by rw [hb]; rfl⟩ h4
          · exact no (.inl ⟨b, e, by rw [hb]; rfl⟩) h4
        · exact no (.inr e) h3
      | false =>
        rcases vGuard_inv h with ⟨b, e, h3⟩ | ⟨e, h3⟩
        · rcases bIf_inv h3 with ⟨hb, h4⟩ | ⟨hb, h4⟩
          · exact no (.inl ⟨b, e, by rw [hb]; rfl⟩) h4
          · exact yes ⟨b, e, by rw [hb]; rfl⟩ h4
        · exact no (.inr e) h3
end
end Go.Ev

namespace Go.Ev
open Go
set_option linter.unusedVariables false

section
variable {P : Program} {es : List Nat} {nt : Nat} {T : TT} {ops : List Oper}
theorem getO_congr {H H' : Heap} (h : H'.t = H.t) (a : Nat) : H'.get a = H.get a := by unfold Heap.get; rw [h]
theorem rowOf_congr {H H' : Heap} (h : ∀ a, H'.get a = H.get a) (p : AV) (k : Nat → Nat → List AV → Bool) : rowOf p H' k = rowOf p H k := by
  unfold rowOf
  congr 1
  funext a r s z
  rw [getO_eq, getO_eq, h]
theorem cload_congr {H H' : Heap} (h : ∀ a, H'.get a = H.get a) (t : TypeId) (p : AV) (k : AV → Bool) : (cload P t).f p H' k = (cload P t).f p H k := by
  unfold cload
  split
  · exact rowOf_congr h p _
  · exact rowOf_congr h p _
  · rfl
theorem LoadIs.congr {H H' : Heap} (h : ∀ a, H'.get a = H.get a) {t : TypeId} {p v : AV} (l : LoadIs P H t p v) : LoadIs P H' t p v := fun k => by rw [cload_congr h]; exact l k
def DoneIs (done : Nat) (lg : List Ent) : Prop := ∀ j, tbit done j = true ↔ lhas lg j
theorem DoneIs.add {done : Nat} {lg : List Ent} (h : DoneIs done lg) (e : Ent) : DoneIs (Nat.lor done (Nat.pow 2 e.i)) (e :: lg) := by
  intro j
  rw [tbit_lor, tbit_pow, h j]
  unfold lhas
  constructor
  · rintro (⟨e', h1, h2⟩ | h1)
    · exact ⟨e', by simp [h1], h2⟩
    · exact ⟨e, by simp, h1.symm⟩
  · rintro ⟨e', h1, h2⟩
    rcases List.mem_cons.1 h1 with rfl | h1
    · exact .inr h2.symm
    · exact .inl ⟨e', h1, h2⟩
theorem sub_iff {a b : Nat} (h : sub a b = true) {j : Nat} (hj : tbit a j = true) : tbit b j = true := by
  unfold sub at h
  have h := beq_iff'.1 h
  rw [tbit_iff] at hj ⊢
  have h2 : (a &&& b).testBit j = true := by
    show (Nat.land a b).testBit j = true
    rw [h]; exact hj
  rw [Nat.testBit_and, Bool.and_eq_true] at h2
  exact h2.2
/-- pending objects: their numbers are apart, and below the next one -/
def PdsApart (H : Heap) (pds : List Pd) : Prop := (∀ q ∈ pds, q.id < H.next) ∧ ∀ q ∈ pds, ∀ q' ∈ pds, q.id = q'.id → q = q'
def RdsCl (P : Program) (l : List Rd) : Prop := ∀ r ∈ l, ∃ t, r.ld = cload P t
/-- what the evaluation of light operations adds -/
structure Grow (P : Program) (M : List Nat) (mw lastW : Option Nat) (lg : List Ent) (H : Heap) (rds : List Rd) (pds : List Pd) (lg' : List Ent) (H' : Heap) (rds' : List Rd) (pds' : List Pd) : Prop where
  ents : ∃ E, lg' = E ++ lg ∧ (∀ e ∈ E, e.k ≠ .writer ∧ (∀ w, lastW = some w → tbit (mk M e.i) w = true) ∧
    (∀ t p, e.k = .load t p → LoadIs P H' t p e.v ∧ ((⟨e.i, p, cload P t, e.v⟩ : Rd) ∈ rds' ∨ ∀ m, mw = some m → tbit m e.i = true)) ∧
    (∀ id ob, e.k = .alloc id ob → (⟨e.i, id, ob⟩ : Pd) ∈ pds')) ∧
    ∀ q ∈ pds', q ∈ pds ∨ ∃ e ∈ E, e.i = q.i ∧ e.k = .alloc q.id q.obj ∧ H.next ≤ q.id
  ht : H'.t = H.t
  next : H.next ≤ H'.next
  cap : H.next ≤ 32768 → H'.next ≤ 32768
  keepR : ∀ r ∈ rds, r ∈ rds'
  keepP : ∀ q ∈ pds, q ∈ pds'
  apart : PdsApart H pds → PdsApart H' pds'
  cl : RdsCl P rds → RdsCl P rds'
theorem Grow.refl {M : List Nat} {mw lastW : Option Nat} {lg : List Ent} {H : Heap} {rds : List Rd} {pds : List Pd} : Grow P M mw lastW lg H rds pds lg H rds pds :=
  ⟨⟨[], rfl, by simp, fun _ h => .inl h⟩, rfl, Nat.le_refl _, id, fun _ h => h, fun _ h => h, id, id⟩
theorem Grow.trans {M : List Nat} {mw lastW : Option Nat} {lg lg1 lg2 : List Ent} {H H1 H2 : Heap} {rds rds1 rds2 : List Rd} {pds pds1 pds2 : List Pd} (g : Grow P M mw lastW lg H rds pds lg1 H1 rds1 pds1) (g' : Grow P M mw lastW lg1 H1 rds1 pds1 lg2 H2 rds2 pds2) :
    Grow P M mw lastW lg H rds pds lg2 H2 rds2 pds2 := by
  obtain ⟨E, e1, e2, n1⟩ := g.ents
  obtain ⟨E', e3, e4, n2⟩ := g'.ents
  refine ⟨⟨E' ++ E, by rw [e3, e1]; simp, fun e he => ?_, fun q h => ?_⟩, g'.ht.trans g.ht, Nat.le_trans g.next g'.next, fun h => g'.cap (g.cap h), fun r h => g'.keepR r (g.keepR r h), fun q h => g'.keepP q (g.keepP q h), fun h => g'.apart (g.apart h), fun h => g'.cl (g.cl h)⟩
  · rcases List.mem_append.1 he with he | he
    · exact e4 e he
    · obtain ⟨a1, a2, a3, a4⟩ := e2 e he
      refine ⟨a1, a2, fun t p h => ?_, fun id ob h => g'.keepP _ (a4 id ob h)⟩
      obtain ⟨b1, b2⟩ := a3 t p h
      exact ⟨b1.congr (getO_congr g'.ht), b2.imp (g'.keepR _) (fun h => h)⟩
  · rcases n2 q h with h | ⟨e, h1, h2, h3, h4⟩
    · rcases n1 q h with h | ⟨e, h1, h2, h3, h4⟩
      · exact .inl h
      · exact .inr ⟨e, List.mem_append_right _ h1, h2, h3, h4⟩
    · exact .inr ⟨e, List.mem_append_left _ h1, h2, h3, Nat.le_trans g.next h4⟩
theorem Grow.one {M : List Nat} {mw lastW : Option Nat} {lg : List Ent} {H H' : Heap} {rds rds' : List Rd} {pds pds' : List Pd} {e : Ent} {vf : Bool} (hw : ∀ w, lastW = some w → tbit (Ev.mk M e.i) w = true)
    (hvf : vf = false → ∀ m, mw = some m → tbit m e.i = true) (h : After P e.i vf e H H' rds rds' pds pds') : Grow P M mw lastW lg H rds pds (e :: lg) H' rds' pds' := by
  obtain ⟨i, v, ek⟩ := e
  cases ek with
  | pure =>
    obtain ⟨rfl, rfl, rfl⟩ := h
    exact ⟨⟨[⟨i, v, .pure⟩], rfl, by simp; exact hw, fun _ h => .inl h⟩, rfl, Nat.le_refl _, id, fun _ h => h, fun _ h => h, id, id⟩
  | writer => exact h.elim
  | load t p =>
    obtain ⟨rfl, rfl, h3, rfl⟩ := h
    refine ⟨⟨[⟨i, v, .load t p⟩], rfl, fun e he => ?_, fun _ h => .inl h⟩, rfl, Nat.le_refl _, id, fun r hr => ?_, fun _ h => h, id, fun hc r hr => ?_⟩
    · simp only [List.mem_singleton] at he
      subst he
      refine ⟨by simp, hw, fun t' p' hk => ?_, fun id ob hk => by cases hk⟩
      cases hk
      refine ⟨h3, ?_⟩
      cases vf with
      | true => exact .inl (by simp)
      | false => exact .inr (hvf rfl)
    · cases vf with
      | true => simp [hr]
      | false => simpa using hr
    · cases vf with
      | true =>
        simp only [if_true] at hr
        rcases List.mem_cons.1 hr with h | h
        · exact ⟨t, by rw [h]⟩
        · exact hc r h
      | false => simp only [Bool.false_eq_true, if_false] at hr; exact hc r hr
  | alloc id ob =>
    obtain ⟨rfl, h2, rfl, rfl, rfl⟩ := h
    refine ⟨⟨[⟨i, v, .alloc H.next ob⟩], rfl, fun e he => ?_, fun q hq => ?_⟩, rfl, by simp, fun _ => by simp; omega, fun _ h => h, fun q hq => by simp [hq], fun ha => ⟨fun q hq => ?_, fun q hq q' hq' hqq => ?_⟩, id⟩
    · simp only [List.mem_singleton] at he
      subst he
      refine ⟨by simp, hw, fun t' p' hk => (by cases hk), fun id ob hk => ?_⟩
      cases hk
      simp
    · rcases List.mem_cons.1 hq with rfl | hq
      · exact .inr ⟨⟨i, v, .alloc H.next ob⟩, by simp, rfl, rfl, Nat.le_refl _⟩
      · exact .inl hq
    · show q.id < H.next + 1
      rcases List.mem_cons.1 hq with rfl | hq
      · simp
      · have := ha.1 q hq; omega
    · rcases List.mem_cons.1 hq with rfl | hq <;> rcases List.mem_cons.1 hq' with rfl | hq'
      · rfl
      · have := ha.1 q' hq'; simp at hqq; omega
      · have := ha.1 q hq; simp at hqq; omega
      · exact ha.2 q hq q' hq' hqq
end
end Go.Ev

namespace Go.Ev
open Go
set_option linter.unusedVariables false

section
variable {P : Program} {es : List Nat} {nt : Nat} {T : TT} {ops : List Oper} {M : List Nat}
/-- need a load be looked at again behind the next writer? -/
def vfOf (mw : Option Nat) (i : Nat) : Bool := match mw with | some m => !tbit m i | none => false
theorem lds_cons (e : Ent) (lg : List Ent) : lds ops (e :: lg) = ((ops[e.i]?).bind (·.dst)) :: lds ops lg := rfl
/-- light operations in order -/
theorem clights_sound {mw lastW : Option Nat} {call : CallK} {kp : AV → Heap → Bool} : ∀ (ls : List Nat) {lg : List Ent} {H : Heap} {rds : List Rd} {pds : List Pd} {k : KD} {done done' : Nat},
    (clights P es nt ops mw (lds ops lg) ls).f call (lvs lg) T H rds pds k kp = true → lightsOk P ops M lastW done ls = some done' → DoneIs done lg → LgOk P es nt T ops M lg →
    ∃ lg' H' rds' pds', k (lvs lg') H' rds' pds' = true ∧ LgOk P es nt T ops M lg' ∧ DoneIs done' lg' ∧ lds ops lg' = dsAfter ops (lds ops lg) ls ∧ Grow P M mw lastW lg H rds pds lg' H' rds' pds'
  | [], lg, H, rds, pds, k, done, done', h, hl, hd, hg => by
    cases hl
    exact ⟨lg, H, rds, pds, h, hg, hd, rfl, Grow.refl⟩
  | i :: ls, lg, H, rds, pds, k, done, done', h, hl, hd, hg => by
    unfold lightsOk at hl
    cases ho : ops[i]? with
    | none => rw [ho] at hl; cases hl
    | some o =>
      rw [ho] at hl
      simp only at hl
      split at hl
      · rename_i hc
        simp only [Bool.and_eq_true] at hc
        obtain ⟨⟨⟨c1, c2⟩, c3⟩, c4⟩ := hc
        unfold clights at h
        rw [ho] at h
        simp only at h
        change (seqD (gD es nt ops (lds ops lg) o (clight P es (lds ops lg) i (vfOf mw i) o.op)) (clights P es nt ops mw (o.dst :: lds ops lg) ls)).f call (lvs lg) T H rds pds k kp = true at h
        generalize hvf : vfOf mw i = vf at h
        have hgd := fun k => gD_light (P := P) (es := es) (nt := nt) (T := T) (ops := ops) (lg := lg) (i := i) (o := o) (vf := vf) (call := call) (H := H) (rds := rds) (pds := pds) (k := k) (kp := kp)
        have e1 : ∀ v ek, lds ops ((⟨i, v, ek⟩ : Ent) :: lg) = o.dst :: lds ops lg := fun v ek => by
          show ((ops[i]?).bind (·.dst)) :: lds ops lg = _
          rw [ho]; rfl
        have e2 : dsAfter ops (lds ops lg) (i :: ls) = dsAfter ops (o.dst :: lds ops lg) ls := by
          show dsAfter ops (((ops[i]?).bind (·.dst)) :: lds ops lg) ls = _
          rw [ho]; rfl
        generalize gD es nt ops (lds ops lg) o (clight P es (lds ops lg) i vf o.op) = g at h hgd
        generalize hcl : clights P es nt ops mw (o.dst :: lds ops lg) ls = r at h
        obtain ⟨g⟩ := g
        obtain ⟨r⟩ := r
        obtain ⟨hdst, e, H1, rds1, pds1, g1, g2, g3, g4⟩ := hgd _ h
        have hent : EntOk P es nt T ops M lg e := by
          refine ⟨o, by rw [g1]; exact ho, hdst, fun j hj => (hd j).1 (sub_iff c2 (by rw [← g1]; exact hj)), fun hh => ?_, g2⟩
          rw [g1] at hh
          rw [(hd i).2 hh] at c3
          cases c3
        have hds : lds ops (e :: lg) = o.dst :: lds ops lg := by
          rw [lds_cons, g1, ho]; rfl
        have hd' : DoneIs (Nat.lor done (Nat.pow 2 i)) (e :: lg) := by rw [← g1]; exact hd.add e
        have h2 : (clights P es nt ops mw (lds ops (e :: lg)) ls).f call (lvs (e :: lg)) T H1 rds1 pds1 k kp = true := by rw [hds, hcl]; exact g3
        obtain ⟨lg', H', rds', pds', q1, q2, q3, q4, q5⟩ := clights_sound ls h2 hl hd' ⟨hent, hg⟩
        refine ⟨lg', H', rds', pds', q1, q2, q3, by rw [q4, hds, e2], Grow.trans (Grow.one (vf := vf) ?_ ?_ (by rw [g1]; exact g4)) q5⟩
        · intro w hw
          rw [hw] at c4
          rw [g1]; exact c4
        · intro hf m hm
          rw [hm] at hvf
          rw [g1]
          simp only [vfOf] at hvf
          rw [hf] at hvf
          cases hq : tbit m i with
          | true => rfl
          | false => rw [hq] at hvf; cases hvf
      · cases hl
end
end Go.Ev

namespace Go.Ev
open Go
set_option linter.unusedVariables false

/-! ### heaps with objects put in -/
def putAll : List Pd → Heap → Heap
  | [], H => H
  | q :: l, H => putAll l (H.put q.id q.obj)
theorem putAll_next : ∀ (l : List Pd) (H : Heap), (putAll l H).next = H.next
  | [], H => rfl
  | q :: l, H => by rw [putAll, putAll_next]; rfl
theorem putAll_get {x : Nat} (hx : x < 32768) : ∀ (l : List Pd) (H : Heap), (∀ q ∈ l, q.id < 32768) → (∀ q ∈ l, ∀ q' ∈ l, q.id = q'.id → q = q') →
    (∀ q ∈ l, q.id = x → (putAll l H).get x = q.obj) ∧ ((∀ q ∈ l, q.id ≠ x) → (putAll l H).get x = H.get x)
  | [], H, _, _ => ⟨by simp, fun _ => rfl⟩
  | q :: l, H, hl, ha => by
    obtain ⟨h1, h2⟩ := putAll_get hx l (H.put q.id q.obj) (fun q' h => hl q' (by simp [h])) (fun q' h q'' h' => ha q' (by simp [h]) q'' (by simp [h']))
    have hq := hl q (by simp)
    refine ⟨fun q' hq' e => ?_, fun h => ?_⟩
    · show (putAll l (H.put q.id q.obj)).get x = _
      by_cases hex : ∃ q'' ∈ l, q''.id = x
      · obtain ⟨q'', g1, g2⟩ := hex
        rw [h1 q'' g1 g2, ha q'' (by simp [g1]) q' hq' (g2.trans e.symm)]
      · have hne : ∀ q'' ∈ l, q''.id ≠ x := fun q'' g e' => hex ⟨q'', g, e'⟩
        rw [h2 hne]
        rcases List.mem_cons.1 hq' with rfl | hq'
        · rw [Heap.get_put _ _ _ _ hq hx, if_pos e.symm]
        · exact absurd e (hne q' hq')
    · show (putAll l (H.put q.id q.obj)).get x = _
      rw [h2 fun q' g => h q' (by simp [g]), Heap.get_put _ _ _ _ hq hx, if_neg (fun e => h q (by simp) e.symm)]
theorem pdsAll_eq : ∀ (l : List Pd) (H : Heap) (k : Heap → Bool), pdsAll l H k = k (putAll l H)
  | [], H, k => rfl
  | q :: l, H, k => by
    show putO H q.id q.obj (fun H => pdsAll l H k) = _
    rw [putO_eq, pdsAll_eq]; rfl
theorem pdsIn_eq (m : Nat) : ∀ (l : List Pd) (H : Heap) (k : Heap → Bool), pdsIn m l H k = k (putAll (l.filter fun q => tbit m q.i) H)
  | [], H, k => rfl
  | q :: l, H, k => by
    show bIf (tbit m q.i) (putO H q.id q.obj fun H => pdsIn m l H k) (pdsIn m l H k) = _
    cases hb : tbit m q.i with
    | true =>
      rw [bIf_true, putO_eq, pdsIn_eq, List.filter_cons]
      simp only [hb, if_true]; rfl
    | false =>
      rw [bIf_false, pdsIn_eq, List.filter_cons]
      simp only [hb, Bool.false_eq_true, if_false]
theorem pdsLeft_eq (m : Nat) : ∀ l : List Pd, pdsLeft m l = l.filter fun q => !tbit m q.i
  | [] => rfl
  | q :: l => by
    rw [pdsLeft, List.filter_cons, pdsLeft_eq m l]
    cases tbit m q.i <;> simp
theorem rdsLeft_eq (m : Nat) : ∀ l : List Rd, rdsLeft m l = l.filter fun q => !tbit m q.i
  | [] => rfl
  | q :: l => by
    rw [rdsLeft, List.filter_cons, rdsLeft_eq m l]
    cases tbit m q.i <;> simp
theorem avEq_eq {a b : AV} (h : avEq a b = true) : a = b := by
  cases a <;> cases b <;> simp only [avEq, Bool.and_eq_true, beq_iff', decide_eq_true_eq, beq_iff_eq] at h <;> first
    | (exact absurd h Bool.false_ne_true)
    | (subst h; rfl)
    | (obtain ⟨rfl, rfl⟩ := h; rfl)
    | (obtain ⟨⟨⟨rfl, rfl⟩, rfl⟩, rfl⟩ := h; rfl)
    | (obtain ⟨⟨⟨⟨⟨rfl, rfl⟩, rfl⟩, rfl⟩, rfl⟩, rfl⟩ := h; rfl)
theorem avsEq_eq : ∀ {a b : List AV}, avsEq a b = true → a = b
  | [], [], _ => rfl
  | [], _ :: _, h => absurd h Bool.false_ne_true
  | _ :: _, [], h => absurd h Bool.false_ne_true
  | a :: l, b :: l', h => by
    unfold avsEq at h
    split at h
    · rename_i h1; rw [avEq_eq h1, avsEq_eq h]
    · exact absurd h Bool.false_ne_true
theorem loadedEq_eq {a b : AV} (h : loadedEq a b = true) : a = b := by
  unfold loadedEq at h
  split at h
  · simp only [Bool.and_eq_true, beq_iff'] at h
    rw [h.1, avsEq_eq h.2]
  · exact avEq_eq h
/-- loads that were looked at again -/
theorem rdsOk_sound {P : Program} {m : Nat} {H : Heap} : ∀ {l : List Rd}, RdsCl P l → rdsOk m H l = true → ∀ r ∈ l, tbit m r.i = false → ∀ t, r.ld = cload P t → LoadIs P H t r.p r.v
  | [], _, _, r, hr, _, _, _ => by cases hr
  | x :: l, hc, h, r, hr, hm, t, e => by
    unfold rdsOk at h
    rcases List.mem_cons.1 hr with rfl | hr
    · rw [hm, bIf_false, e] at h
      obtain ⟨v', h1, h2⟩ := cload_is h
      obtain ⟨h3, _⟩ := bIf_yes h1
      rw [← loadedEq_eq h3]; exact h2
    · have hc' : RdsCl P l := fun r h => hc r (by simp [h])
      rcases bIf_inv h with ⟨_, h⟩ | ⟨_, h⟩
      · exact rdsOk_sound hc' h r hr hm t e
      · obtain ⟨t', he⟩ := hc x (by simp)
        rw [he] at h
        obtain ⟨v', h1, h2⟩ := cload_is h
        exact rdsOk_sound hc' (bIf_yes h1).2 r hr hm t e

/-! ### pairs of operations -/
section
variable {P : Program} {es : List Nat} {nt : Nat} {T : TT} {ops : List Oper} {M : List Nat}
theorem pairsOk1_spec {i : Nat} {x : Oper} : ∀ {l : List Oper} {j0 : Nat}, pairsOk1 ops M i x j0 l = true → ∀ n y, l[n]? = some y → pairOk ops x y (tbit (mk M i) (j0 + n) || tbit (mk M (j0 + n)) i) = true
  | [], j0, _, n, y, h => by simp at h
  | z :: l, j0, h, n, y, hy => by
    unfold pairsOk1 at h
    rw [Bool.and_eq_true] at h
    cases n with
    | zero => simp at hy; subst hy; exact h.1
    | succ n =>
      have := pairsOk1_spec h.2 n y (by simpa using hy)
      have e : j0 + 1 + n = j0 + (n + 1) := by omega
      rwa [e] at this
theorem pairsOk_spec : ∀ {l : List Oper} {i0 : Nat}, pairsOk ops M i0 l = true → ∀ n m x y, n < m → l[n]? = some x → l[m]? = some y → pairOk ops x y (tbit (mk M (i0 + n)) (i0 + m) || tbit (mk M (i0 + m)) (i0 + n)) = true
  | [], i0, _, n, m, x, y, _, h, _ => by simp at h
  | z :: l, i0, h, n, m, x, y, hlt, hx, hy => by
    unfold pairsOk at h
    rw [Bool.and_eq_true] at h
    cases m with
    | zero => omega
    | succ m =>
      cases n with
      | zero =>
        simp at hx; subst hx
        have := pairsOk1_spec h.1 m y (by simpa using hy)
        have e : i0 + 1 + m = i0 + (m + 1) := by omega
        rw [e] at this
        exact this
      | succ n =>
        have := pairsOk_spec h.2 n m x y (by omega) (by simpa using hx) (by simpa using hy)
        have e : i0 + 1 + m = i0 + (m + 1) := by omega
        have e' : i0 + 1 + n = i0 + (n + 1) := by omega
        rwa [e, e'] at this
theorem pair_facts (h : pairsOk ops M 0 ops = true) {i j : Nat} {x y : Oper} (hij : i ≠ j) (hx : ops[i]? = some x) (hy : ops[j]? = some y) :
    (∀ d, x.dst = some d → y.dst ≠ some d) ∧ ∀ d, x.dst = some d → d ∈ looks ops y → tbit (mk M i) j = true ∨ tbit (mk M j) i = true := by
  have key : pairOk ops x y (tbit (mk M i) j || tbit (mk M j) i) = true ∨ pairOk ops y x (tbit (mk M j) i || tbit (mk M i) j) = true := by
    rcases Nat.lt_or_gt_of_ne hij with hlt | hlt
    · exact .inl (by have := pairsOk_spec h i j x y hlt hx hy; simpa using this)
    · exact .inr (by have := pairsOk_spec h j i y x hlt hy hx; simpa using this)
  have dd : ∀ (x y : Oper) (b : Bool), pairOk ops x y b = true → (∀ d, x.dst = some d → y.dst ≠ some d) ∧ (b = true ∨ (∀ d, x.dst = some d → d ∉ looks ops y) ∧ ∀ d, y.dst = some d → d ∉ looks ops x) := by
    intro x y b hp
    unfold pairOk at hp
    rw [Bool.and_eq_true, Bool.or_eq_true, Bool.and_eq_true] at hp
    obtain ⟨h1, h2⟩ := hp
    refine ⟨fun d hd hd' => ?_, h2.imp id fun h2 => ⟨fun d hd hm => ?_, fun d hd hm => ?_⟩⟩
    · rw [hd, hd'] at h1
      simp only [Bool.not_eq_eq_eq_not, Bool.not_true] at h1
      exact beq_not h1 rfl
    · have := h2.1
      rw [hd] at this
      simp at this
      exact this hm
    · have := h2.2
      rw [hd] at this
      simp at this
      exact this hm
  rcases key with k | k
  · obtain ⟨h1, h2⟩ := dd _ _ _ k
    refine ⟨h1, fun d hd hm => ?_⟩
    rcases h2 with h2 | h2
    · rw [Bool.or_eq_true] at h2; exact h2
    · exact absurd hm (h2.1 d hd)
  · obtain ⟨h1, h2⟩ := dd _ _ _ k
    refine ⟨fun d hd hd' => h1 d hd' hd, fun d hd hm => ?_⟩
    rcases h2 with h2 | h2
    · rw [Bool.or_eq_true] at h2; exact h2.symm
    · exact absurd hm (h2.2 d hd)

/-! ### the log -/
theorem LgOk.ent : ∀ {lg : List Ent}, LgOk P es nt T ops M lg → ∀ e ∈ lg, ∃ E lt, lg = E ++ e :: lt ∧ EntOk P es nt T ops M lt e ∧ LgOk P es nt T ops M lt
  | [], _, e, he => by cases he
  | x :: lg, h, e, he => by
    rcases List.mem_cons.1 he with rfl | he
    · exact ⟨[], lg, rfl, h.1, h.2⟩
    · obtain ⟨E, lt, h1, h2⟩ := LgOk.ent h.2 e he
      exact ⟨x :: E, lt, by rw [h1]; rfl, h2⟩
theorem LgOk.before {lg : List Ent} (h : LgOk P es nt T ops M lg) {e : Ent} (he : e ∈ lg) {j : Nat} (hj : tbit (mk M e.i) j = true) : lhas lg j := by
  obtain ⟨E, lt, h1, ⟨o, _, _, h2, _⟩, _⟩ := h.ent e he
  obtain ⟨e', g1, g2⟩ := h2 j hj
  exact ⟨e', by rw [h1]; simp [g1], g2⟩
theorem LgOk.uniq : ∀ {lg : List Ent}, LgOk P es nt T ops M lg → ∀ e ∈ lg, ∀ e' ∈ lg, e.i = e'.i → e = e'
  | [], _, e, he, _, _, _ => by cases he
  | x :: lg, h, e, he, e', he', hi => by
    obtain ⟨⟨o, _, _, _, hno, _⟩, h2⟩ := h
    rcases List.mem_cons.1 he with g | g <;> rcases List.mem_cons.1 he' with g' | g'
    · rw [g, g']
    · exact absurd ⟨e', g', by rw [← hi, g]⟩ hno
    · exact absurd ⟨e, g, by rw [hi, g']⟩ hno
    · exact LgOk.uniq h2 e g e' g' hi
theorem posn_none : ∀ {l : List (Option Nat)} {t : Nat}, posn t l = none → some t ∉ l
  | [], t, _ => by simp
  | none :: l, t, h => by
    simp only [posn, Option.map_eq_none_iff] at h
    simp [posn_none h]
  | some a :: l, t, h => by
    simp only [posn] at h
    split at h
    · cases h
    · rename_i hb
      simp only [Option.map_eq_none_iff] at h
      have := beq_not hb
      simp only [List.mem_cons, Option.some.injEq, not_or]
      exact ⟨fun e => this e.symm, posn_none h⟩

/-! ### temporaries -/
structure Tmps (nt : Nat) (ops : List Oper) (listed : Array Bool) (a a0 : Act) (ρ : Valn) (lg : List Ent) : Prop where
  size : a.tmps.size = nt
  defers : a.defers = a0.defers
  val : ∀ e ∈ lg, listed.getD e.i false = true → ∀ o d, ops[e.i]? = some o → o.dst = some d → VR ρ e.v (a.tmps.getD d undef)
  old : ∀ t, (∀ j o, ops[j]? = some o → listed.getD j false = true → o.dst ≠ some t) → a.tmps.getD t undef = a0.tmps.getD t undef
theorem getD_tf {listed : Array Bool} {i : Nat} (h : listed.getD i true = false) : listed.getD i false = false := by
  simp only [Array.getD_eq_getD_getElem?] at h ⊢
  cases hq : listed[i]? with
  | none => rfl
  | some b => rw [hq] at h; simpa using h
theorem getD_ft {listed : Array Bool} {i : Nat} (hi : i < listed.size) (h : listed.getD i false = false) : listed.getD i true = false := by
  simp only [Array.getD_eq_getD_getElem?] at h ⊢
  rw [Array.getElem?_eq_getElem hi] at h ⊢
  simpa using h
theorem Tmps.looks {listed : Array Bool} {a a0 : Act} {ρ ρ0 : Valn} {lg lt : List Ent} (h : Tmps nt ops listed a a0 ρ lg) (hp : pairsOk ops M 0 ops = true) (hM : M = masks [] ops) (hD : Down ops.toArray listed) (I0 : TR ρ0 es nt T a0) (hle : ρ0.le ρ)
    (hlt : ∀ e ∈ lt, e ∈ lg) (hlg : LgOk P es nt T ops M lt) {i : Nat} {o : Oper} (ho : ops[i]? = some o) (hno : ¬ lhas lt i) (hb : ∀ j, tbit (Ev.mk M i) j = true → lhas lt j) (hr : ∀ j, tbit (Ev.mk M i) j = true → listed.getD j false = true)
    (hi : listed.getD i false = false) : LooksOk es T ops ρ o lt a := by
  subst hM
  intro t ht
  unfold Sees cgetTmp
  cases hq : posn t (lds ops lt) with
  | some k =>
    simp only
    rw [getL_eq]
    have hk := posn_some hq
    unfold lds at hk
    rw [List.getElem?_map] at hk
    cases hek : lt[k]? with
    | none => rw [hek] at hk; cases hk
    | some e =>
      rw [hek] at hk
      simp only [Option.map_some, Option.some.injEq] at hk
      have hmem : e ∈ lt := List.mem_of_getElem? hek
      have hL : (lvs lt).getD k .any = e.v := by
        unfold lvs
        rw [List.getD_eq_getElem?_getD, List.getElem?_map, hek]; rfl
      rw [hL]
      cases hoe : ops[e.i]? with
      | none => rw [hoe] at hk; cases hk
      | some o' =>
        rw [hoe] at hk
        have hd : o'.dst = some t := hk
        have hne : e.i ≠ i := fun he => hno ⟨e, hmem, he⟩
        have hl : listed.getD e.i false = true := by
          rcases (pair_facts hp hne hoe ho).2 t hd ht with g | g
          · exact absurd (hlg.before hmem g) hno
          · exact hr _ g
        exact h.val e (hlt e hmem) hl o' t hoe hd
  | none =>
    simp only
    cases hs : idxIn t es with
    | none => exact VR_any _
    | some s =>
      simp only
      cases hb2 : Nat.blt s 64 with
      | false => exact VR_any _
      | true =>
        simp only
        rw [getT_eq, h.old t fun j o' hj hl hd => ?_]
        · exact VR.mono hle _ _ (I0.tmp t s hs (blt_iff.1 hb2))
        · have hne : j ≠ i := fun e => by rw [e, hi] at hl; cases hl
          rcases (pair_facts hp hne hj ho).2 t hd ht with g | g
          · have := hD.mask (by simpa using hj) hl g
            rw [hi] at this; cases this
          · obtain ⟨e, he, hei⟩ := hb j g
            refine posn_none hq ?_
            unfold lds
            refine List.mem_map.2 ⟨e, he, ?_⟩
            rw [hei, hj]; exact hd
theorem Tmps.put {listed : Array Bool} {a a0 : Act} {ρ ρ' : Valn} {lg lg' : List Ent} (h : Tmps nt ops listed a a0 ρ lg) (hp : pairsOk ops M 0 ops = true) (hle : ρ.le ρ') {i : Nat} {o : Oper} (ho : ops[i]? = some o) (hsz : i < listed.size)
    (hi : listed.getD i false = false) (hd : ∀ d, o.dst = some d → d < nt) {V : Value} (h1 : ∀ e ∈ lg', e.i = i → VR ρ' e.v V) (h2 : ∀ e ∈ lg', e.i ≠ i → e ∈ lg) : Tmps nt ops (listed.setIfInBounds i true) (a.put o.dst V) a0 ρ' lg' := by
  have hset : (listed.setIfInBounds i true).getD i false = true := by simp [hsz]
  have hget : ∀ t, o.dst ≠ some t → (a.put o.dst V).tmps.getD t undef = a.tmps.getD t undef := by
    intro t ht
    cases hdd : o.dst with
    | none => rfl
    | some d =>
      rw [hdd] at ht
      rw [put_tmps, getD_set _ _ _ _ (by rw [h.size]; exact hd d hdd), if_neg (fun e => ht (by rw [e]))]
  refine ⟨?_, ?_, fun e he hl oe d hoe hde => ?_, fun t ht => ?_⟩
  · cases hdd : o.dst with
    | none => exact h.size
    | some d => rw [put_tmps, Array.size_setIfInBounds]; exact h.size
  · cases hdd : o.dst <;> exact h.defers
  · by_cases hei : e.i = i
    · rw [hei, ho] at hoe
      cases hoe
      rw [hde, put_tmps, getD_set _ _ _ _ (by rw [h.size]; exact hd d hde), if_pos rfl]
      exact h1 e he hei
    · rw [getD_set_ne false (fun e' => hei e'.symm)] at hl
      rw [hget d fun e' => (pair_facts hp (fun e' => hei e'.symm) ho hoe).1 d e' hde]
      exact VR.mono hle _ _ (h.val e (h2 e he hei) hl oe d hoe hde)
  · rw [hget t fun e' => ht i o ho hset e']
    exact h.old t fun j o' hj hl => ht j o' hj (getD_set_true hl)
end
end Go.Ev

namespace Go.Ev
open Go
set_option linter.unusedVariables false

/-- the heap with the listed ones of the objects that were kept back -/
def lput (listed : Array Bool) (pds : List Pd) (H : Heap) : Heap := putAll (pds.filter fun q => listed.getD q.i false) H
theorem lput_next (listed : Array Bool) (pds : List Pd) (H : Heap) : (lput listed pds H).next = H.next := putAll_next _ _
theorem lput_get {listed : Array Bool} {pds : List Pd} {H : Heap} (hc : H.next ≤ 32768) (ha : PdsApart H pds) {x : Nat} (hx : x < 32768) :
    (∀ q ∈ pds, listed.getD q.i false = true → q.id = x → (lput listed pds H).get x = q.obj) ∧ ((∀ q ∈ pds, listed.getD q.i false = true → q.id ≠ x) → (lput listed pds H).get x = H.get x) := by
  obtain ⟨h1, h2⟩ := putAll_get hx (pds.filter fun q => listed.getD q.i false) H (fun q h => Nat.lt_of_lt_of_le (ha.1 q (List.mem_filter.1 h).1) hc)
    (fun q h q' h' => ha.2 q (List.mem_filter.1 h).1 q' (List.mem_filter.1 h').1)
  exact ⟨fun q hq hl => h1 q (List.mem_filter.2 ⟨hq, hl⟩), fun h => h2 fun q hq => h q (List.mem_filter.1 hq).1 (List.mem_filter.1 hq).2⟩

structure Inv (P : Program) (es : List Nat) (nt : Nat) (w0 : World) (T : TT) (ops : List Oper) (M : List Nat) (ρ0 : Valn) (H0 : Heap) (wst : World) (a0 : Act) (mok : Nat → Prop)
    (listed : Array Bool) (a : Act) (w : World) (ρ : Valn) (lg : List Ent) (H : Heap) (rds : List Rd) (pds : List Pd) : Prop where
  size : listed.size = ops.length
  down : Down ops.toArray listed
  log : LgOk P es nt T ops M lg
  sub : ∀ j, listed.getD j false = true → lhas lg j
  wr : ∀ e ∈ lg, e.k = .writer → listed.getD e.i false = true
  tmps : Tmps nt ops listed a a0 ρ lg
  rl : Rl w0 ρ (lput listed pds H) w
  st : Step ρ0 H0 wst ρ (lput listed pds H) w
  apart : PdsApart H pds
  pd : ∀ q ∈ pds, H0.next ≤ q.id ∧ (H.get q.id).live = false ∧ (∃ e ∈ lg, e.i = q.i ∧ e.k = .alloc q.id q.obj) ∧ (listed.getD q.i false = false → ρ q.id = none)
  al : ∀ e ∈ lg, ∀ id ob, e.k = .alloc id ob → listed.getD e.i false = false → (⟨e.i, id, ob⟩ : Pd) ∈ pds
  ld : ∀ e ∈ lg, ∀ t p, e.k = .load t p → listed.getD e.i false = false → LoadIs P H t p e.v ∧ ((⟨e.i, p, cload P t, e.v⟩ : Rd) ∈ rds ∨ mok e.i)
  rd : RdsCl P rds

section
variable {P : Program} {es : List Nat} {nt : Nat} {w0 : World} {T : TT} {ops : List Oper} {M : List Nat} {ρ0 : Valn} {H0 : Heap} {wst : World} {a0 : Act} {mok : Nat → Prop}
variable {listed : Array Bool} {a : Act} {w : World} {ρ : Valn} {lg : List Ent} {H : Heap} {rds : List Rd} {pds : List Pd}
theorem Inv.cap (I : Inv P es nt w0 T ops M ρ0 H0 wst a0 mok listed a w ρ lg H rds pds) : H.next ≤ 32768 := by
  have := I.rl.rel.next
  rwa [lput_next] at this
theorem not_set {i j : Nat} (h : (listed.setIfInBounds i true).getD j false = false) : listed.getD j false = false := by
  cases hq : listed.getD j false with
  | false => rfl
  | true => rw [getD_set_true hq] at h; cases h
theorem Inv.after (I : Inv P es nt w0 T ops M ρ0 H0 wst a0 mok listed a w ρ lg H rds pds) (hp : pairsOk ops M 0 ops = true) {i : Nat} {o : Oper} (ho : ops[i]? = some o) (hr : i ∈ Region.ready .any ops.toArray listed) {e : Ent} (he : e ∈ lg) (hei : e.i = i)
    (hd : ∀ d, o.dst = some d → d < nt) {ρ' : Valn} (hle : ρ.le ρ') {V : Value} (hV : VR ρ' e.v V) {w' : World} (rl : Rl w0 ρ' (lput (listed.setIfInBounds i true) pds H) w') (st : Step ρ0 H0 wst ρ' (lput (listed.setIfInBounds i true) pds H) w')
    (hpd : ∀ q ∈ pds, (listed.setIfInBounds i true).getD q.i false = false → ρ' q.id = none) : Inv P es nt w0 T ops M ρ0 H0 wst a0 mok (listed.setIfInBounds i true) (a.put o.dst V) w' ρ' lg H rds pds := by
  have hf := getD_tf (mem_ready.1 hr).1
  have hsz : i < listed.size := by rw [I.size]; exact (List.getElem?_eq_some_iff.1 ho).1
  refine ⟨by simp [I.size], I.down.add hr, I.log, fun j hj => ?_, fun e he hk => getD_set_true (I.wr e he hk), ?_, rl, st, I.apart, fun q hq => ?_, fun e he id ob hk hl => I.al e he id ob hk (not_set hl), fun e he t p hk hl => I.ld e he t p hk (not_set hl), I.rd⟩
  · rcases getD_setI hj with rfl | hj
    · exact ⟨e, he, hei⟩
    · exact I.sub j hj
  · exact I.tmps.put hp hle ho hsz hf hd (fun e' he' hi' => by rw [I.log.uniq e' he' e he (hi'.trans hei.symm)]; exact hV) fun e' he' _ => he'
  · obtain ⟨h1, h2, h3, _⟩ := I.pd q hq
    exact ⟨h1, h2, h3, hpd q hq⟩
/-- an evaluated light operation comes up -/
theorem Inv.light (I : Inv P es nt w0 T ops M ρ0 H0 wst a0 mok listed a w ρ lg H rds pds) (hM : M = masks [] ops) (hp : pairsOk ops M 0 ops = true) (I0 : TR ρ0 es nt T a0) {i : Nat} (hr : i ∈ Region.ready .any ops.toArray listed) (hi : lhas lg i)
    {K : Act → World → Prop} {Q : Exit → Act → World → Prop} (hK : ∀ a' w' ρ', Inv P es nt w0 T ops M ρ0 H0 wst a0 mok (listed.setIfInBounds i true) a' w' ρ' lg H rds pds → K a' w') : wpOp P ops.toArray Q i K a w := by
  obtain ⟨e, he, hei⟩ := hi
  have hf := getD_tf (mem_ready.1 hr).1
  obtain ⟨E, lt, hsplit, ⟨o, ho, hd, hb, hno, hfact⟩, hlt⟩ := I.log.ent e he
  have hlook : LooksOk es T ops ρ o lt a := by
    refine I.tmps.looks hp hM I.down I0 I.st.le (fun e' he' => by rw [hsplit]; simp [he']) hlt ho hno hb (fun j hj => ?_) (by rw [hei]; exact hf)
    subst hM
    rw [hei] at hj
    exact I.down.ready hr (by simpa using hj)
  rw [hei] at ho
  have ho' : ops.toArray[i]? = some o := by simpa using ho
  have hsz : i < listed.size := by rw [I.size]; exact (List.getElem?_eq_some_iff.1 ho).1
  have same : (∀ id ob, e.k ≠ .alloc id ob) → lput (listed.setIfInBounds i true) pds H = lput listed pds H := by
    intro hk
    unfold lput
    congr 1
    refine List.filter_congr fun q hq => ?_
    obtain ⟨_, _, ⟨e', h1, h2, h3⟩, _⟩ := I.pd q hq
    refine getD_set_ne false fun hiq => ?_
    have : e' = e := I.log.uniq e' h1 e he (h2.trans (hiq.symm.trans hei.symm))
    exact hk _ _ (this ▸ h3)
  have keep : (∀ id ob, e.k ≠ .alloc id ob) → ∀ V, VR ρ e.v V → Inv P es nt w0 T ops M ρ0 H0 wst a0 mok (listed.setIfInBounds i true) (a.put o.dst V) w ρ lg H rds pds := by
    intro hk V hV
    refine I.after hp ho hr he hei hd (Valn.le_refl _) hV (by rw [same hk]; exact I.rl) (by rw [same hk]; exact I.st) fun q hq hl => (I.pd q hq).2.2.2 (not_set hl)
  unfold EntFact at hfact
  cases hk : e.k with
  | writer =>
    have := I.wr e he hk
    rw [hei, hf] at this
    cases this
  | pure =>
    rw [hk] at hfact
    obtain ⟨V, hV, hY⟩ := hfact ρ a hlook
    exact hY.wpOp ho' (hK _ _ _ (keep (by simp [hk]) V hV))
  | load t p =>
    rw [hk] at hfact
    obtain ⟨hw, V0, hV0, hrun⟩ := hfact.2 ρ a hlook
    obtain ⟨hld, _⟩ := I.ld e he t p hk (by rw [hei]; exact hf)
    obtain ⟨x, r, s, z, hpe, hlive, hval⟩ := hld.run
    have hρ : ∃ y, ρ x = some y := by
      rw [hpe] at hV0
      simp only [VR] at hV0
      obtain ⟨b, κ, h, _⟩ := hV0
      exact ⟨_, h⟩
    obtain ⟨y, hy⟩ := hρ
    have hx := VR.lt I.rl.rel hy
    have hget : (lput listed pds H).get x = H.get x := (lput_get I.cap I.apart hx).2 fun q hq _ e' => by
      have := (I.pd q hq).2.1
      rw [e', hlive] at this; cases this
    have hobj := I.rl.rel.obj x hx
    rw [hget] at hobj
    obtain ⟨V, hV, hld2⟩ := hval ρ w V0 hV0 hobj
    unfold wpOp
    simp only [ho']
    rw [if_pos hw]
    refine .inl ?_
    unfold Oper.wp
    rw [hrun w V hld2]
    exact hK _ _ _ (keep (by simp [hk]) V hV)
  | alloc id ob =>
    rw [hk] at hfact
    obtain ⟨_, hoblive, hfact⟩ := hfact
    obtain ⟨hw, obj, κ, vf, Vf, hvf, hnew, hrun⟩ := hfact ρ a hlook
    have hq := I.al e he id ob hk (by rw [hei]; exact hf)
    obtain ⟨q1, q2, _, q4⟩ := I.pd _ hq
    have hnone := q4 (by rw [hei]; exact hf)
    simp only at q1 q2 hnone
    have hidlt := I.apart.1 _ hq
    simp only at hidlt
    have hset : (listed.setIfInBounds i true).getD i false = true := by simp [hsz]
    obtain ⟨r1, r2, r3, r4⟩ := fresh_at (H' := lput (listed.setIfInBounds i true) pds H) I.rl I.st q1 (by rw [lput_next]; exact hidlt) hnone hnew (by rw [lput_next, lput_next]) (fun x hx => by
      by_cases hxid : x = id
      · rw [if_pos hxid]
        exact (lput_get I.cap I.apart hx).1 _ hq (by rw [hei]; exact hset) hxid.symm
      · rw [if_neg hxid]
        by_cases hex : ∃ q ∈ pds, listed.getD q.i false = true ∧ q.id = x
        · obtain ⟨q, h1, h2, h3⟩ := hex
          rw [(lput_get I.cap I.apart hx).1 q h1 h2 h3, (lput_get I.cap I.apart hx).1 q h1 (getD_set_true h2) h3]
        · rw [(lput_get (listed := listed) I.cap I.apart hx).2 fun q h1 h2 h3 => hex ⟨q, h1, h2, h3⟩, (lput_get I.cap I.apart hx).2 fun q h1 h2 h3 => ?_]
          rcases getD_setI h2 with h2 | h2
          · obtain ⟨_, _, ⟨e', g1, g2, g3⟩, _⟩ := I.pd q h1
            have : e' = e := I.log.uniq e' g1 e he (g2.trans (h2.trans hei.symm))
            rw [this, hk] at g3
            cases g3
            exact hxid h3.symm
          · exact hex ⟨q, h1, h2, h3⟩)
    unfold wpOp
    simp only [ho']
    rw [if_pos hw]
    refine .inl ?_
    unfold Oper.wp
    rw [hrun w]
    refine hK _ _ _ (I.after hp ho hr he hei hd r4 (by rw [← hvf]; exact r3) r1 r2 fun q hq' hl => ?_)
    rw [Valn.set_ne]
    · exact (I.pd q hq').2.2.2 (not_set hl)
    · intro e'
      have := I.apart.2 q hq' _ hq e'
      rw [this] at hl
      simp only at hl
      rw [hei, hset] at hl
      cases hl
end
end Go.Ev

namespace Go.Ev
open Go
set_option linter.unusedVariables false

theorem Rel.grow {ρ : Valn} {H H1 : Heap} {w : World} (R : Rel ρ H w) (hn : H.next ≤ H1.next) (hc : H1.next ≤ 32768) (hg : ∀ x, x < 32768 → H1.get x = H.get x) : Rel ρ H1 w :=
  ⟨hc, fun a x h => Nat.lt_of_lt_of_le (R.dom a x h) hn, fun a ha => by rw [hg a ha]; exact R.obj a ha, fun a a' h1 h2 l1 l2 => R.inj a a' h1 h2 (by rw [← hg a h1]; exact l1) (by rw [← hg a' h2]; exact l2)⟩
theorem Owns.grow {ρ : Valn} {H H1 : Heap} (hg : ∀ x, x < 32768 → H1.get x = H.get x) {b : Nat} (h : Owns ρ H1 b) : Owns ρ H b := by
  obtain ⟨a, ha, hl, κ, hr⟩ := h
  exact ⟨a, ha, by rw [← hg a ha]; exact hl, κ, hr⟩
theorem Rl.grow {w0 : World} {ρ : Valn} {H H1 : Heap} {w : World} (R : Rl w0 ρ H w) (hn : H.next ≤ H1.next) (hc : H1.next ≤ 32768) (hg : ∀ x, x < 32768 → H1.get x = H.get x) : Rl w0 ρ H1 w :=
  ⟨R.rel.grow hn hc hg, ⟨R.above.size, R.above.same, fun b h => R.above.owns b (h.grow hg), R.above.tape, R.above.os, R.above.output⟩⟩
theorem Step.grow {ρ0 ρ : Valn} {H0 H H1 : Heap} {w0 w : World} (S : Step ρ0 H0 w0 ρ H w) (hnx : H0.next ≤ 32768) (hn : H.next ≤ H1.next) (hg : ∀ x, x < 32768 → H1.get x = H.get x) : Step ρ0 H0 w0 ρ H1 w :=
  ⟨S.le, S.keep, Nat.le_trans S.next hn, S.size, S.frame, fun b h => S.own b (h.grow hg), fun x hx hd => by rw [hg x (by omega)]; exact S.dead x hx hd, S.tape, S.os, S.output⟩
theorem Rl.weaken {w0 : World} {ρ : Valn} {H H1 : Heap} {w : World} (R : Rl w0 ρ H w) (hn : H1.next = H.next) (hg : ∀ x, x < 32768 → H1.get x = H.get x ∨ (H1.get x).live = false) : Rl w0 ρ H1 w :=
  ⟨R.rel.weaken hn hg, R.above.weaken hg⟩

section
variable {P : Program} {es : List Nat} {nt : Nat} {w0 : World} {T : TT} {ops : List Oper} {M : List Nat} {ρ0 : Valn} {H0 : Heap} {wst : World} {a0 : Act} {mok : Nat → Prop}
variable {listed : Array Bool} {a : Act} {w : World} {ρ : Valn} {lg : List Ent} {H : Heap} {rds : List Rd} {pds : List Pd}
theorem LgOk.apart : ∀ {E : List Ent} {lg : List Ent}, LgOk P es nt T ops M (E ++ lg) → ∀ e ∈ E, ¬ lhas lg e.i
  | [], _, _, e, he => by cases he
  | x :: E, lg, h, e, he => by
    rcases List.mem_cons.1 he with rfl | he
    · obtain ⟨⟨o, _, _, _, hno, _⟩, _⟩ := h
      rintro ⟨e', h1, h2⟩
      exact hno ⟨e', by simp [h1], h2⟩
    · exact LgOk.apart h.2 e he
/-- the evaluation of light operations changes nothing that was done -/
theorem Inv.grow (I : Inv P es nt w0 T ops M ρ0 H0 wst a0 (fun _ => False) listed a w ρ lg H rds pds) {mw lastW : Option Nat} {lg' : List Ent} {H' : Heap} {rds' : List Rd} {pds' : List Pd} (hH0 : H0.next ≤ 32768)
    (g : Grow P M mw lastW lg H rds pds lg' H' rds' pds') (hlg : LgOk P es nt T ops M lg') : Inv P es nt w0 T ops M ρ0 H0 wst a0 (fun i => ∀ m, mw = some m → tbit m i = true) listed a w ρ lg' H' rds' pds' := by
  obtain ⟨E, hE, hents, hnew⟩ := g.ents
  have hcap' := g.cap I.cap
  have hap' := g.apart I.apart
  have hget : ∀ x, H'.get x = H.get x := getO_congr g.ht
  have hun : ∀ e ∈ E, listed.getD e.i false = false := by
    intro e he
    cases hq : listed.getD e.i false with
    | false => rfl
    | true =>
      subst hE
      exact absurd (I.sub _ hq) (hlg.apart e he)
  have hlput : ∀ x, x < 32768 → (lput listed pds' H').get x = (lput listed pds H).get x := by
    intro x hx
    by_cases hex : ∃ q ∈ pds, listed.getD q.i false = true ∧ q.id = x
    · obtain ⟨q, h1, h2, h3⟩ := hex
      rw [(lput_get I.cap I.apart hx).1 q h1 h2 h3, (lput_get hcap' hap' hx).1 q (g.keepP q h1) h2 h3]
    · rw [(lput_get (listed := listed) I.cap I.apart hx).2 fun q h1 h2 h3 => hex ⟨q, h1, h2, h3⟩, (lput_get hcap' hap' hx).2 fun q h1 h2 h3 => ?_, hget]
      rcases hnew q h1 with h1 | ⟨e, h4, h5, _⟩
      · exact hex ⟨q, h1, h2, h3⟩
      · rw [← h5, hun e h4] at h2; cases h2
  have hrl : Rl w0 ρ (lput listed pds' H') w := I.rl.grow (by rw [lput_next, lput_next]; exact g.next) (by rw [lput_next]; exact hcap') hlput
  refine ⟨I.size, I.down, hlg, fun j hj => ?_, fun e he hk => ?_, ⟨I.tmps.size, I.tmps.defers, fun e he hl => ?_, I.tmps.old⟩, hrl, I.st.grow hH0 (by rw [lput_next, lput_next]; exact g.next) hlput, hap', fun q hq => ?_, fun e he id ob hk hl => ?_, fun e he t p hk hl => ?_, g.cl I.rd⟩
  · obtain ⟨e, h1, h2⟩ := I.sub j hj
    exact ⟨e, by rw [hE]; simp [h1], h2⟩
  · rw [hE] at he
    rcases List.mem_append.1 he with he | he
    · exact absurd hk (hents e he).1
    · exact I.wr e he hk
  · rw [hE] at he
    rcases List.mem_append.1 he with he | he
    · rw [hun e he] at hl; cases hl
    · exact I.tmps.val e he hl
  · rcases hnew q hq with h | ⟨e, h1, h2, h3, h4⟩
    · obtain ⟨q1, q2, ⟨e, q3, q4⟩, q5⟩ := I.pd q h
      exact ⟨q1, by rw [hget]; exact q2, ⟨e, by rw [hE]; simp [q3], q4⟩, q5⟩
    · have hst := I.st.next
      rw [lput_next] at hst
      have hlt := hap'.1 q hq
      refine ⟨Nat.le_trans hst h4, ?_, ⟨e, by rw [hE]; simp [h1], h2, h3⟩, fun _ => ?_⟩
      · rw [hget]
        cases hlv : (H.get q.id).live with
        | false => rfl
        | true =>
          have hq' : q.id < 32768 := by omega
          have := I.rl.rel.live_lt hq' (by
            rw [(lput_get I.cap I.apart hq').2 fun q' g1 g2 g3 => ?_]
            · exact hlv
            · have := I.apart.1 q' g1; omega)
          rw [lput_next] at this
          omega
      · cases hρ : ρ q.id with
        | none => rfl
        | some y =>
          have := I.rl.rel.dom _ _ hρ
          rw [lput_next] at this
          omega
  · rw [hE] at he
    rcases List.mem_append.1 he with he | he
    · exact (hents e he).2.2.2 id ob hk
    · exact g.keepP _ (I.al e he id ob hk hl)
  · rw [hE] at he
    rcases List.mem_append.1 he with he | he
    · exact (hents e he).2.2.1 t p hk
    · obtain ⟨h1, h2⟩ := I.ld e he t p hk hl
      exact ⟨h1.congr hget, .inl (g.keepR _ (h2.resolve_right id))⟩
/-- an operation that writes came up -/
theorem Inv.wrote (I : Inv P es nt w0 T ops M ρ0 H0 wst a0 mok listed a w ρ lg H rds pds) (hp : pairsOk ops M 0 ops = true) {i : Nat} {o : Oper} (ho : ops[i]? = some o) (hr : i ∈ Region.ready .any ops.toArray listed) (hno : ¬ lhas lg i)
    (hd : ∀ d, o.dst = some d → d < nt) (hb : ∀ j, tbit (Ev.mk M i) j = true → lhas lg j) {ρ' : Valn} (hle : ρ.le ρ') {v : AV} {V : Value} (hV : VR ρ' v V) {w' : World} {H' : Heap} {rds' : List Rd} {pds' : List Pd}
    (rl : Rl w0 ρ' (lput (listed.setIfInBounds i true) pds' H') w') (st : Step ρ0 H0 wst ρ' (lput (listed.setIfInBounds i true) pds' H') w') (hap : PdsApart H' pds')
    (hpd : ∀ q ∈ pds', q ∈ pds ∧ (H'.get q.id).live = false ∧ (listed.getD q.i false = false → ρ' q.id = none)) (hal : ∀ q ∈ pds, listed.getD q.i false = false → q ∈ pds')
    (hld : ∀ e ∈ lg, ∀ t p, e.k = .load t p → listed.getD e.i false = false → LoadIs P H' t p e.v ∧ (⟨e.i, p, cload P t, e.v⟩ : Rd) ∈ rds') (hrd : RdsCl P rds') :
    Inv P es nt w0 T ops M ρ0 H0 wst a0 (fun _ => False) (listed.setIfInBounds i true) (a.put o.dst V) w' ρ' (⟨i, v, .writer⟩ :: lg) H' rds' pds' := by
  have hf := getD_tf (mem_ready.1 hr).1
  have hsz : i < listed.size := by rw [I.size]; exact (List.getElem?_eq_some_iff.1 ho).1
  have hset : (listed.setIfInBounds i true).getD i false = true := by simp [hsz]
  refine ⟨by simp [I.size], I.down.add hr, ⟨⟨o, ho, hd, hb, hno, trivial⟩, I.log⟩, fun j hj => ?_, fun e he hk => ?_, ?_, rl, st, hap, fun q hq => ?_, fun e he id ob hk hl => ?_, fun e he t p hk hl => ?_, hrd⟩
  · rcases getD_setI hj with rfl | hj
    · exact ⟨_, List.mem_cons_self, rfl⟩
    · obtain ⟨e, h1, h2⟩ := I.sub j hj
      exact ⟨e, by simp [h1], h2⟩
  · rcases List.mem_cons.1 he with rfl | he
    · exact hset
    · exact getD_set_true (I.wr e he hk)
  · refine I.tmps.put hp hle ho hsz hf hd (fun e he hei => ?_) fun e he hei => ?_
    · rcases List.mem_cons.1 he with rfl | he
      · exact hV
      · exact absurd ⟨e, he, hei⟩ hno
    · rcases List.mem_cons.1 he with rfl | he
      · exact absurd rfl hei
      · exact he
  · obtain ⟨h1, h2, h3⟩ := hpd q hq
    obtain ⟨g1, _, ⟨e, g3, g4⟩, _⟩ := I.pd q h1
    exact ⟨g1, h2, ⟨e, by simp [g3], g4⟩, fun hl => h3 (not_set hl)⟩
  · rcases List.mem_cons.1 he with rfl | he
    · cases hk
    · exact hal _ (I.al e he id ob hk (not_set hl)) (not_set hl)
  · rcases List.mem_cons.1 he with rfl | he
    · cases hk
    · obtain ⟨h1, h2⟩ := hld e he t p hk (not_set hl)
      exact ⟨h1, .inl h2⟩
theorem cwriter_inv {ds : List (Option Nat)} {m : Nat} {op : Op} {call : CallK} {L : List AV} {k : KD} {kp : AV → Heap → Bool} (h : (cwriter P es ds m op).f call L T H rds pds k kp = true) :
    ∃ k', (chp P es ds op).f call L T (putAll (pds.filter fun q => tbit m q.i) H) k' kp = true ∧ ∀ v H', k' v H' = true → rdsOk m H' rds = true ∧ k (v :: L) H' (rdsLeft m rds) (pdsLeft m pds) = true := by
  unfold cwriter at h
  generalize chp P es ds op = c at h
  obtain ⟨f⟩ := c
  cases pds with
  | nil =>
    refine ⟨_, h, fun v H' hk => ?_⟩
    cases rds with
    | nil => exact ⟨rfl, hk⟩
    | cons r l => exact bIf_yes hk
  | cons q l =>
    have h : pdsIn m (q :: l) H (fun H => f call L T H (fun v H => bIf (rdsOk m H rds) (k (v :: L) H (rdsLeft m rds) (pdsLeft m (q :: l))) false) kp) = true := h
    rw [pdsIn_eq] at h
    exact ⟨_, h, fun v H' hk => bIf_yes hk⟩
/-- an operation with its guard -/
theorem gD_inv {i : Nat} {o : Oper} {y : Dr} {call : CallK} {k : KD} {kp : AV → Heap → Bool} (h : (gD es nt ops (lds ops lg) o y).f call (lvs lg) T H rds pds k kp = true) :
    (∀ d, o.dst = some d → d < nt) ∧ (((∀ ρ a, LooksOk es T ops ρ o lg a → Region.wanted o (yielded ops.toArray a.tmps) = true) ∧ y.f call (lvs lg) T H rds pds k kp = true) ∨
      ((∀ ρ a, LooksOk es T ops ρ o lg a → Region.wanted o (yielded ops.toArray a.tmps) = false) ∧ k (.undef :: lvs lg) H rds pds = true)) := by
  have hd : ∀ d, o.dst = some d → Nat.blt d nt = true := by
    intro d hdd
    cases hq : Nat.blt d nt with
    | true => rfl
    | false =>
      unfold gD at h
      simp only [hdd, hq] at h
      exact absurd h Bool.false_ne_true
  have h : (match o.guard with
      | none => y
      | some (j, w) => match (ops[j]?).bind (·.dst) with
        | some d => guardD (cgetTmp es (lds ops lg) d) w y
        | none => failD).f call (lvs lg) T H rds pds k kp = true := by
    unfold gD at h
    cases hdst : o.dst with
    | none => simp only [hdst] at h; exact h
    | some d => simp only [hdst, hd d hdst] at h; exact h
  refine ⟨fun d hdd => blt_iff.1 (hd d hdd), ?_⟩
  cases hg : o.guard with
  | none =>
    rw [hg] at h
    exact .inl ⟨fun ρ a _ => by unfold Region.wanted; rw [hg], h⟩
  | some jw =>
    obtain ⟨j, want⟩ := jw
    rw [hg] at h
    simp only at h
    cases hdd : (ops[j]?).bind (·.dst) with
    | none => rw [hdd] at h; exact absurd h Bool.false_ne_true
    | some d =>
      rw [hdd] at h
      simp only at h
      have hdd' : (ops.toArray[j]?).bind (·.dst) = some d := by simpa using hdd
      have w1 : ∀ b, (cgetTmp es (lds ops lg) d).g (lvs lg) T = .bool b → ∀ ρ a, LooksOk es T ops ρ o lg a → Region.wanted o (yielded ops.toArray a.tmps) = (b == want) := fun b hb ρ a hl =>
        (wanted_guard hg hdd' (hl.guard hg hdd)).1 b hb
      have w2 : (cgetTmp es (lds ops lg) d).g (lvs lg) T = .undef → ∀ ρ a, LooksOk es T ops ρ o lg a → Region.wanted o (yielded ops.toArray a.tmps) = false := fun hb ρ a hl =>
        (wanted_guard hg hdd' (hl.guard hg hdd)).2 hb
      generalize cgetTmp es (lds ops lg) d = g at h w1 w2
      obtain ⟨g⟩ := g
      obtain ⟨y⟩ := y
      cases want with
      | true =>
        rcases vGuard_inv h with ⟨b, e, h3⟩ | ⟨e, h3⟩
        · rcases bIf_inv h3 with ⟨hb, h4⟩ | ⟨hb, h4⟩
          · exact .inl ⟨fun ρ a hl => by rw [w1 b e ρ a hl, hb]; rfl, h4⟩
          · exact .inr ⟨fun ρ a hl => by rw [w1 b e ρ a hl, hb]; rfl, h4⟩
        · exact .inr ⟨w2 e, h3⟩
      | false =>
        rcases vGuard_inv h with ⟨b, e, h3⟩ | ⟨e, h3⟩
        · rcases bIf_inv h3 with ⟨hb, h4⟩ | ⟨hb, h4⟩
          · exact .inr ⟨fun ρ a hl => by rw [w1 b e ρ a hl, hb]; rfl, h4⟩
          · exact .inl ⟨fun ρ a hl => by rw [w1 b e ρ a hl, hb]; rfl, h4⟩
        · exact .inr ⟨w2 e, h3⟩
end
end Go.Ev

namespace Go.Ev
open Go
set_option linter.unusedVariables false

section
variable {P : Program} {es : List Nat} {nt : Nat} {w0 : World} {T : TT} {ops : List Oper} {M : List Nat} {ρ0 : Valn} {H0 : Heap} {wst : World} {a0 : Act} {mok : Nat → Prop}
variable {listed : Array Bool} {a : Act} {w : World} {ρ : Valn} {lg : List Ent} {H : Heap} {rds : List Rd} {pds : List Pd}
/-- the temporaries that no operation of the region writes are as they were -/
def OldTmps (nt : Nat) (ops : List Oper) (a0 a : Act) : Prop := a.tmps.size = nt ∧ a.defers = a0.defers ∧ ∀ t, (∀ o ∈ ops, o.dst ≠ some t) → a.tmps.getD t undef = a0.tmps.getD t undef
theorem Inv.oldTmps (I : Inv P es nt w0 T ops M ρ0 H0 wst a0 mok listed a w ρ lg H rds pds) : OldTmps nt ops a0 a :=
  ⟨I.tmps.size, I.tmps.defers, fun t ht => I.tmps.old t fun j o hj _ => ht o (List.mem_of_getElem? hj)⟩
/-- an operation that writes comes up -/
theorem Inv.writer (I : Inv P es nt w0 T ops M ρ0 H0 wst a0 mok listed a w ρ lg H rds pds) (hM : M = masks [] ops) (hp : pairsOk ops M 0 ops = true) (I0 : TR ρ0 es nt T a0) (hH0 : H0.next ≤ 32768) {i : Nat} {o : Oper} (ho : ops[i]? = some o)
    (hr : i ∈ Region.ready .any ops.toArray listed) (hno : ¬ lhas lg i) (hb : ∀ j, tbit (Ev.mk M i) j = true → lhas lg j) (hmok : ∀ j, mok j → tbit (Ev.mk M i) j = true) {call : CallK} (hcall : CallOk P w0 call) (hn : Named P) {k : KD} {kp : AV → Heap → Bool}
    (h : (gD es nt ops (lds ops lg) o (cwriter P es (lds ops lg) (Ev.mk M i) o.op)).f call (lvs lg) T H rds pds k kp = true) {K : Act → World → Prop} {Q : Exit → Act → World → Prop}
    (hK : ∀ a' w' ρ' v H' rds' pds', Inv P es nt w0 T ops M ρ0 H0 wst a0 (fun _ => False) (listed.setIfInBounds i true) a' w' ρ' (⟨i, v, .writer⟩ :: lg) H' rds' pds' → k (v :: lvs lg) H' rds' pds' = true → K a' w')
    (hQ : ∀ a' ρ' H' v V w', OldTmps nt ops a0 a' → Rl w0 ρ' H' w' → Step ρ0 H0 wst ρ' H' w' → VR ρ' v V → kp v H' = true → Q (.panic [{ v := V, recovered := false }]) a' w') : wpOp P ops.toArray Q i K a w := by
  have hf := getD_tf (mem_ready.1 hr).1
  have hsz : i < listed.size := by rw [I.size]; exact (List.getElem?_eq_some_iff.1 ho).1
  have ho' : ops.toArray[i]? = some o := by simpa using ho
  have hlist : ∀ j, tbit (Ev.mk M i) j = true → listed.getD j false = true := fun j hj => by
    subst hM
    exact I.down.ready hr (by simpa using hj)
  have hlook : LooksOk es T ops ρ o lg a := I.tmps.looks hp hM I.down I0 I.st.le (fun e he => he) I.log ho hno hb hlist hf
  have hne : ∀ q ∈ pds, q.i ≠ i := fun q hq e => by
    obtain ⟨_, _, ⟨e', g1, g2, _⟩, _⟩ := I.pd q hq
    exact hno ⟨e', g1, g2.trans e⟩
  have hset : ∀ q ∈ pds, (listed.setIfInBounds i true).getD q.i false = listed.getD q.i false := fun q hq => getD_set_ne false fun e => hne q hq e.symm
  have hldr : ∀ e ∈ lg, ∀ t p, e.k = .load t p → listed.getD e.i false = false → LoadIs P H t p e.v ∧ (⟨e.i, p, cload P t, e.v⟩ : Rd) ∈ rds := fun e he t p hk hl => by
    obtain ⟨h1, h2⟩ := I.ld e he t p hk hl
    refine ⟨h1, h2.resolve_right fun hm => ?_⟩
    rw [hlist _ (hmok _ hm)] at hl
    cases hl
  obtain ⟨hd, h | h⟩ := gD_inv (i := i) h
  · obtain ⟨hw, h⟩ := h
    obtain ⟨k', h1, h2⟩ := cwriter_inv h
    have hw := hw ρ a hlook
    have apF : ∀ q ∈ pds.filter (fun q => tbit (Ev.mk M i) q.i), ∀ q' ∈ pds.filter (fun q => tbit (Ev.mk M i) q.i), q.id = q'.id → q = q' := fun q h q' h' => I.apart.2 q (List.mem_filter.1 h).1 q' (List.mem_filter.1 h').1
    have ltF : ∀ q ∈ pds.filter (fun q => tbit (Ev.mk M i) q.i), q.id < 32768 := fun q h => Nat.lt_of_lt_of_le (I.apart.1 q (List.mem_filter.1 h).1) I.cap
    generalize hH1 : putAll (pds.filter fun q => tbit (Ev.mk M i) q.i) H = H1 at h1
    have hn1 : H1.next = H.next := by rw [← hH1]; exact putAll_next _ _
    have get1 : ∀ x, x < 32768 → (∀ q ∈ pds, tbit (Ev.mk M i) q.i = true → q.id = x → H1.get x = q.obj) ∧ ((∀ q ∈ pds, tbit (Ev.mk M i) q.i = true → q.id ≠ x) → H1.get x = H.get x) := fun x hx => by
      obtain ⟨g1, g2⟩ := putAll_get hx _ H ltF apF
      rw [← hH1]
      exact ⟨fun q hq ht he => g1 q (List.mem_filter.2 ⟨hq, ht⟩) he, fun hh => g2 fun q hq => hh q (List.mem_filter.1 hq).1 (List.mem_filter.1 hq).2⟩
    let X : Nat → Prop := fun x => ∃ q ∈ pds, q.id = x ∧ listed.getD q.i false = true ∧ tbit (Ev.mk M i) q.i = false
    have _ : DecidablePred X := fun x => Classical.propDecidable _
    have hX : ∀ x, X x → x < (lput listed pds H).next ∧ H0.next ≤ x ∧ (H1.get x).live = false ∧ ((lput listed pds H).get x).live = true := by
      rintro x ⟨q, hq, rfl, hl, ht⟩
      obtain ⟨p1, p2, ⟨e, p3, p4, p5⟩, _⟩ := I.pd q hq
      have hx := Nat.lt_of_lt_of_le (I.apart.1 q hq) I.cap
      refine ⟨by rw [lput_next]; exact I.apart.1 q hq, p1, ?_, ?_⟩
      · rw [(get1 _ hx).2 fun q' h' ht' e' => by rw [I.apart.2 q' h' q hq e', ht] at ht'; cases ht']
        exact p2
      · rw [(lput_get I.cap I.apart hx).1 q hq hl rfl]
        obtain ⟨E, lt, _, ⟨o', _, _, _, _, hfact⟩, _⟩ := I.log.ent e p3
        unfold EntFact at hfact
        rw [p5] at hfact
        exact hfact.2.1
    have hg1 : ∀ x, x < 32768 → ¬ X x → H1.get x = (lput listed pds H).get x ∨ (H1.get x).live = false := by
      intro x hx hnx
      by_cases hex : ∃ q ∈ pds, listed.getD q.i false = true ∧ q.id = x
      · obtain ⟨q, g1, g2, g3⟩ := hex
        have ht : tbit (Ev.mk M i) q.i = true := by
          cases hq : tbit (Ev.mk M i) q.i with
          | true => rfl
          | false => exact absurd ⟨q, g1, g3, g2, hq⟩ hnx
        exact .inl (by rw [(get1 x hx).1 q g1 ht g3, (lput_get I.cap I.apart hx).1 q g1 g2 g3])
      · exact .inl (by
          rw [(get1 x hx).2 fun q g1 g2 g3 => hex ⟨q, g1, hlist _ g2, g3⟩, (lput_get I.cap I.apart hx).2 fun q g1 g2 g3 => hex ⟨q, g1, g2, g3⟩])
    have hgw : ∀ x, x < 32768 → H1.get x = (lput listed pds H).get x ∨ (H1.get x).live = false := fun x hx => by
      by_cases hq : X x
      · exact .inr (hX x hq).2.2.1
      · exact hg1 x hx hq
    have hnl : H1.next = (lput listed pds H).next := by rw [hn1, lput_next]
    have R1 : Rl w0 ρ H1 w := I.rl.weaken hnl hgw
    have S1 : Step ρ0 H0 wst ρ H1 w := I.st.weaken hH0 hnl hgw
    have hout := chp_sound (es := es) (ds := lds ops lg) (L := lvs lg) (T := T) (o := o) (a := a) R1 hcall hn h1 (fun x hx => hlook.opd x hx)
    unfold wpOp
    simp only [ho']
    rw [if_pos hw]
    refine .inl (hout K Q (fun ρ' H' v V w' q1 q2 q3 q4 => ?_) fun ρ' H' v V w' q1 q2 q3 q4 => hQ a ρ' H' v V w' I.oldTmps q1 (S1.trans q2) q3 q4)
    obtain ⟨h5, h6⟩ := h2 v H' q4
    have hap' : PdsApart H' (pdsLeft (Ev.mk M i) pds) := by
      have := q2.next
      refine ⟨fun q hq => ?_, fun q hq q' hq' => ?_⟩
      · rw [pdsLeft_eq] at hq
        have := I.apart.1 q (List.mem_filter.1 hq).1
        omega
      · rw [pdsLeft_eq] at hq hq'
        exact I.apart.2 q (List.mem_filter.1 hq).1 q' (List.mem_filter.1 hq').1
    have memL : ∀ q, q ∈ pdsLeft (Ev.mk M i) pds ↔ q ∈ pds ∧ tbit (Ev.mk M i) q.i = false := fun q => by
      rw [pdsLeft_eq, List.mem_filter]
      simp
    obtain ⟨r1, r2⟩ := readd (Hs' := lput (listed.setIfInBounds i true) (pdsLeft (Ev.mk M i) pds) H') I.rl I.st q1 q2 hnl X hX hg1 (lput_next _ _ _) (fun x hx => by
      by_cases hq : X x
      · rw [if_pos hq]
        obtain ⟨q, g1, g2, g3, g4⟩ := hq
        rw [(lput_get q1.rel.next hap' hx).1 q ((memL q).2 ⟨g1, g4⟩) (by rw [hset q g1]; exact g3) g2, (lput_get I.cap I.apart hx).1 q g1 g3 g2]
      · rw [if_neg hq, (lput_get q1.rel.next hap' hx).2 fun q g1 g2 g3 => ?_]
        obtain ⟨g1, g4⟩ := (memL q).1 g1
        exact hq ⟨q, g1, g3, by rw [← hset q g1]; exact g2, g4⟩)
    refine hK _ _ _ v _ _ _ (I.wrote hp ho hr hno hd hb q2.le q3 r1 r2 hap' (fun q hq => ?_) (fun q hq hl => (memL q).2 ⟨hq, ?_⟩) (fun e he t p hk hl => ?_) fun r hr' => ?_) h6
    · obtain ⟨g1, g4⟩ := (memL q).1 hq
      obtain ⟨p1, p2, p3, p4⟩ := I.pd q g1
      have hlt := I.apart.1 q g1
      have hx := Nat.lt_of_lt_of_le hlt I.cap
      refine ⟨g1, q2.dead _ (by rw [hn1]; exact hlt) ?_, fun hl => ?_⟩
      · rw [(get1 _ hx).2 fun q' h' ht' e' => by rw [I.apart.2 q' h' q g1 e', g4] at ht'; cases ht']
        exact p2
      · rw [q2.keep _ (by rw [hn1]; exact hlt)]; exact p4 hl
    · cases hq' : tbit (Ev.mk M i) q.i with
      | false => rfl
      | true => rw [hlist _ hq'] at hl; cases hl
    · obtain ⟨g1, g2⟩ := hldr e he t p hk hl
      have hm : tbit (Ev.mk M i) e.i = false := by
        cases hq' : tbit (Ev.mk M i) e.i with
        | false => rfl
        | true => rw [hlist _ hq'] at hl; cases hl
      refine ⟨rdsOk_sound I.rd h5 _ g2 hm t rfl, ?_⟩
      rw [rdsLeft_eq, List.mem_filter]
      exact ⟨g2, by simp [hm]⟩
    · rw [rdsLeft_eq, List.mem_filter] at hr'
      exact I.rd r hr'.1
  · obtain ⟨hw, h⟩ := h
    have hw := hw ρ a hlook
    have hsame : lput (listed.setIfInBounds i true) pds H = lput listed pds H := by
      unfold lput
      congr 1
      exact List.filter_congr fun q hq => hset q hq
    unfold wpOp
    simp only [ho']
    rw [if_neg (by rw [hw]; exact Bool.false_ne_true)]
    exact hK _ _ ρ .undef H rds pds (I.wrote hp ho hr hno hd hb (Valn.le_refl _) VR_undef (by rw [hsame]; exact I.rl) (by rw [hsame]; exact I.st) I.apart (fun q hq => ⟨hq, (I.pd q hq).2.1, (I.pd q hq).2.2.2⟩) (fun q hq _ => hq) hldr I.rd) h
end
end Go.Ev

namespace Go.Ev
open Go
set_option linter.unusedVariables false

theorem seqD_f (x y : Dr) (call : CallK) (L : List AV) (T : TT) (H : Heap) (rds : List Rd) (pds : List Pd) (k : KD) (kp : AV → Heap → Bool) :
    (seqD x y).f call L T H rds pds k kp = x.f call L T H rds pds (fun L H rds pds => y.f call L T H rds pds k kp) kp := by cases x; cases y; rfl
section
variable {P : Program} {es : List Nat} {nt : Nat} {T : TT} {ops : List Oper} {M : List Nat}
/-! ### readiness through the plan -/
theorem lightsOk_mono {lastW : Option Nat} : ∀ {ls : List Nat} {done done' : Nat}, lightsOk P ops M lastW done ls = some done' → ∀ j, tbit done j = true → tbit done' j = true
  | [], done, done', h, j, hj => by simp only [lightsOk, Option.some.injEq] at h; rw [← h]; exact hj
  | i :: ls, done, done', h, j, hj => by
    unfold lightsOk at h
    split at h
    · split at h
      · exact lightsOk_mono h j (tbit_lor.2 (.inl hj))
      · cases h
    · cases h
theorem lightsOk_chain {lastW : Option Nat} : ∀ {ls : List Nat} {done done' : Nat}, lightsOk P ops M lastW done ls = some done' → ∀ j, tbit done' j = true → ¬ tbit done j = true → ∀ v, lastW = some v → tbit (mk M j) v = true
  | [], done, done', h, j, hj, hn, v, hv => by simp only [lightsOk, Option.some.injEq] at h; rw [← h] at hj; exact absurd hj hn
  | i :: ls, done, done', h, j, hj, hn, v, hv => by
    unfold lightsOk at h
    split at h
    · split at h
      · rename_i hc
        simp only [Bool.and_eq_true] at hc
        by_cases hji : j = i
        · have := hc.2
          rw [hv] at this
          rw [hji]; exact this
        · refine lightsOk_chain h j hj (fun hh => ?_) v hv
          rcases tbit_lor.1 hh with hh | hh
          · exact hn hh
          · exact hji (tbit_pow.1 hh)
      · cases h
    · cases h
theorem phasesOk_mono : ∀ {l : List (List Nat × Nat)} {lastW lw : Option Nat} {done dn : Nat}, phasesOk P ops M lastW done l = some (lw, dn) → ∀ j, tbit done j = true → tbit dn j = true
  | [], lastW, lw, done, dn, h, j, hj => by simp only [phasesOk, Option.some.injEq, Prod.mk.injEq] at h; rw [← h.2]; exact hj
  | (ls, w) :: l, lastW, lw, done, dn, h, j, hj => by
    unfold phasesOk at h
    split at h
    · rename_i d1 h1
      split at h
      · split at h
        · exact phasesOk_mono h j (tbit_lor.2 (.inl (lightsOk_mono h1 j hj)))
        · cases h
      · cases h
    · cases h
/-- what comes behind a writer in the plan comes behind it -/
theorem phasesOk_chain (hM : M = masks [] ops) {listed : Array Bool} (hD : Down ops.toArray listed) : ∀ {l : List (List Nat × Nat)} {lastW lw : Option Nat} {done dn : Nat}, phasesOk P ops M lastW done l = some (lw, dn) → ∀ v, lastW = some v →
    (∃ u, lw = some u ∧ (listed.getD u false = true → listed.getD v false = true)) ∧ ∀ j, tbit dn j = true → ¬ tbit done j = true → (∀ j', tbit (mk M j) j' = true → listed.getD j' false = true) → listed.getD v false = true
  | [], lastW, lw, done, dn, h, v, hv => by
    simp only [phasesOk, Option.some.injEq, Prod.mk.injEq] at h
    exact ⟨⟨v, by rw [← h.1]; exact hv, id⟩, fun j hj hn => by rw [← h.2] at hj; exact absurd hj hn⟩
  | (ls, w) :: l, lastW, lw, done, dn, h, v, hv => by
    unfold phasesOk at h
    split at h
    · rename_i d1 h1
      split at h
      · rename_i o ho
        split at h
        · rename_i hc
          simp only [Bool.and_eq_true] at hc
          have hwv : tbit (mk M w) v = true := by
            have := hc.2
            rw [hv] at this
            exact this
          have hstep : listed.getD w false = true → listed.getD v false = true := fun hl => by
            subst hM
            exact hD.mask (by simpa using ho) hl (by simpa using hwv)
          obtain ⟨⟨u, h2, h3⟩, h4⟩ := phasesOk_chain hM hD h w rfl
          refine ⟨⟨u, h2, fun hu => hstep (h3 hu)⟩, fun j hj hn hl => ?_⟩
          by_cases hd1 : tbit d1 j = true
          · exact hl _ (lightsOk_chain h1 j hd1 hn v hv)
          · by_cases hjw : j = w
            · subst hjw; exact hl _ hwv
            · refine hstep (h4 j hj (fun hh => ?_) hl)
              rcases tbit_lor.1 hh with hh | hh
              · exact hd1 hh
              · exact hjw (tbit_pow.1 hh)
        · cases h
      · cases h
    · cases h

/-! ### where the evaluator stands -/
structure GoodT (P : Program) (ops : List Oper) (M : List Nat) (tails : List Nat) (dn : Nat) : Prop where
  all : ∀ j, j < ops.length → tbit dn j = true ∨ j ∈ tails
  apart : ∀ t ∈ tails, ¬ tbit dn t = true
  loud : ∀ t ∈ tails, ∀ j o, ops[j]? = some o → Loud P o → j ∉ tails → tbit (mk M t) j = true
  msk : ∀ t ∈ tails, ∀ j, tbit (mk M t) j = true → tbit dn j = true
  shape : tails = [] ∨ ∃ a b x y, tails = [a, b] ∧ a ≠ b ∧ ops[a]? = some x ∧ ops[b]? = some y ∧ isStore x.op = true ∧ isStore y.op = true ∧ x.dst = none ∧ y.dst = none ∧ x.guard = none ∧ y.guard = none
def mwOf (M : List Nat) : List (List Nat × Nat) → Option Nat
  | [] => none
  | (_, w) :: _ => some (mk M w)
/-- the last lights, then what follows -/
noncomputable def lastF (P : Program) (es : List Nat) (nt : Nat) (T : TT) (ops : List Oper) (M : List Nat) (last : List Nat) (call : CallK) (fin : KD) (kp : AV → Heap → Bool) (ds : List (Option Nat)) (l : List (List Nat × Nat)) : KD :=
  fun L H rds pds => (clights P es nt ops none (dsPhases ops ds l) last).f call L T H rds pds fin kp
def Before (P : Program) (es : List Nat) (nt : Nat) (T : TT) (ops : List Oper) (M : List Nat) (last tails : List Nat) (call : CallK) (fin : KD) (kp : AV → Heap → Bool) (DS : List (Option Nat)) (l : List (List Nat × Nat)) (lastW : Option Nat)
    (lg : List Ent) (H : Heap) (rds : List Rd) (pds : List Pd) : Prop :=
  ∃ done, DoneIs done lg ∧ dsAfter ops (dsPhases ops (lds ops lg) l) last = DS ∧ (∃ lw dn dn', phasesOk P ops M lastW done l = some (lw, dn) ∧ lightsOk P ops M lw dn last = some dn' ∧ GoodT P ops M tails dn') ∧
    (cphases P es nt ops M (lds ops lg) l).f call (lvs lg) T H rds pds (lastF P es nt T ops M last call fin kp (lds ops lg) l) kp = true
def At (P : Program) (es : List Nat) (nt : Nat) (T : TT) (ops : List Oper) (M : List Nat) (last tails : List Nat) (call : CallK) (fin : KD) (kp : AV → Heap → Bool) (DS : List (Option Nat)) :
    List (List Nat × Nat) → List Ent → Heap → List Rd → List Pd → Prop
  | [], lg, H, rds, pds => lds ops lg = DS ∧ (∃ dn, DoneIs dn lg ∧ GoodT P ops M tails dn) ∧ fin (lvs lg) H rds pds = true
  | (_, w) :: l, lg, H, rds, pds => ∃ done o, DoneIs done lg ∧ ops[w]? = some o ∧ isLight P o.op = false ∧ sub (mk M w) done = true ∧ tbit done w = false ∧ dsAfter ops (dsPhases ops (o.dst :: lds ops lg) l) last = DS ∧
      (∃ lw dn dn', phasesOk P ops M (some w) (Nat.lor done (Nat.pow 2 w)) l = some (lw, dn) ∧ lightsOk P ops M lw dn last = some dn' ∧ GoodT P ops M tails dn') ∧
      (gD es nt ops (lds ops lg) o (cwriter P es (lds ops lg) (mk M w) o.op)).f call (lvs lg) T H rds pds
        (fun L H rds pds => (cphases P es nt ops M (o.dst :: lds ops lg) l).f call L T H rds pds (lastF P es nt T ops M last call fin kp (o.dst :: lds ops lg) l) kp) kp = true
variable {last tails : List Nat} {call : CallK} {fin : KD} {kp : AV → Heap → Bool} {DS : List (Option Nat)} {lg : List Ent} {H : Heap} {rds : List Rd} {pds : List Pd}
theorem Before.advance {l : List (List Nat × Nat)} {lastW : Option Nat} (h : Before P es nt T ops M last tails call fin kp DS l lastW lg H rds pds) (hlg : LgOk P es nt T ops M lg) :
    ∃ lg' H' rds' pds', At P es nt T ops M last tails call fin kp DS l lg' H' rds' pds' ∧ LgOk P es nt T ops M lg' ∧ Grow P M (mwOf M l) lastW lg H rds pds lg' H' rds' pds' := by
  obtain ⟨done, h1, h2, ⟨lw, dn, dn', h3, h4, h5⟩, h6⟩ := h
  match l, h2, h3, h6 with
  | [], h2, h3, h6 =>
    simp only [phasesOk, Option.some.injEq, Prod.mk.injEq] at h3
    obtain ⟨rfl, rfl⟩ := h3
    have h6 : (clights P es nt ops none (lds ops lg) last).f call (lvs lg) T H rds pds fin kp = true := h6
    obtain ⟨lg', H', rds', pds', q1, q2, q3, q4, q5⟩ := clights_sound last h6 h4 h1 hlg
    exact ⟨lg', H', rds', pds', ⟨q4.trans h2, ⟨dn', q3, h5⟩, q1⟩, q2, q5⟩
  | (ls, w) :: l, h2, h3, h6 =>
    unfold phasesOk at h3
    split at h3
    · rename_i d1 g1
      split at h3
      · rename_i o ho
        split at h3
        · rename_i hc
          simp only [Bool.and_eq_true] at hc
          obtain ⟨⟨⟨c1, c2⟩, c3⟩, c4⟩ := hc
          unfold cphases at h6
          rw [ho] at h6
          simp only at h6
          rw [seqD_f] at h6
          obtain ⟨lg', H', rds', pds', q1, q2, q3, q4, q5⟩ := clights_sound ls h6 g1 h1 hlg
          have e2 : dsPhases ops (lds ops lg) ((ls, w) :: l) = dsPhases ops (o.dst :: lds ops lg') l := by
            show dsPhases ops (((ops[w]?).bind (·.dst)) :: dsAfter ops (lds ops lg) ls) l = _
            rw [ho, q4]; rfl
          refine ⟨lg', H', rds', pds', ⟨d1, o, q3, ho, by simpa using c1, c2, by simpa using c3, by rw [← e2]; exact h2, ⟨lw, dn, dn', h3, h4, h5⟩, ?_⟩, q2, q5⟩
          rw [seqD_f] at q1
          rw [← q4] at q1
          unfold lastF at q1 ⊢
          rw [e2] at q1
          exact q1
        · cases h3
      · cases h3
    · cases h3
/-- what is ready while a writer waits: a light operation that was evaluated, or that writer -/
theorem At.ready {l : List (List Nat × Nat)} {ls : List Nat} {wi : Nat} (h : At P es nt T ops M last tails call fin kp DS ((ls, wi) :: l) lg H rds pds) (hM : M = masks [] ops) {listed : Array Bool} (hD : Down ops.toArray listed)
    (hsub : ∀ j, listed.getD j false = true → lhas lg j) {i : Nat} (hr : i ∈ Region.ready .any ops.toArray listed) : lhas lg i ∨ i = wi := by
  obtain ⟨done, o, h1, h2, h3, h4, h5, h6, ⟨lw, dn, dn', g1, g2, g3⟩, h7⟩ := h
  by_cases hi : lhas lg i
  · exact .inl hi
  by_cases hw : i = wi
  · exact .inr hw
  exfalso
  have hwno : ¬ listed.getD wi false = true := fun hl => by
    have := (h1 wi).2 (hsub _ hl)
    rw [h5] at this; cases this
  have hl : ∀ j', tbit (mk M i) j' = true → listed.getD j' false = true := fun j' hj' => by
    subst hM
    exact hD.ready hr (by simpa using hj')
  obtain ⟨⟨u, c1, c2⟩, c3⟩ := phasesOk_chain hM hD g1 wi rfl
  have hin : i < ops.length := by
    obtain ⟨_, o', ho', _⟩ := mem_ready.1 hr
    have := (Array.getElem?_eq_some_iff.1 ho').1
    simpa using this
  have hnd : ¬ tbit (Nat.lor done (Nat.pow 2 wi)) i = true := fun hh => by
    rcases tbit_lor.1 hh with hh | hh
    · exact hi ((h1 i).1 hh)
    · exact hw (tbit_pow.1 hh)
  rcases g3.all i hin with hd | ht
  · by_cases hdn : tbit dn i = true
    · exact hwno (c3 i hdn hnd hl)
    · exact hwno (c2 (hl _ (lightsOk_chain g2 i hd hdn u c1)))
  · refine hwno (hl _ (g3.loud i ht wi o h2 ?_ ?_))
    · unfold Loud
      unfold isLight at h3
      cases hil : isLoad o.op with
      | true => exact .inl rfl
      | false =>
        rw [hil] at h3
        refine .inr ?_
        cases hcl : clsOf P o.op <;> rw [hcl] at h3 <;> first | rfl | cases h3
    · intro hwt
      refine g3.apart wi hwt (lightsOk_mono g2 _ (phasesOk_mono g1 _ ?_))
      exact tbit_lor.2 (.inr (tbit_pow.2 rfl))
/-- the oldest operation that did not come up yet is ready -/
theorem LgOk.first {listed : Array Bool} (hM : M = masks [] ops) (hsz : listed.size = ops.length) : ∀ {lg : List Ent}, LgOk P es nt T ops M lg → (∃ e ∈ lg, listed.getD e.i false = false) → ∃ i, i ∈ Region.ready .any ops.toArray listed
  | [], _, ⟨e, he, _⟩ => by cases he
  | x :: lg, h, ⟨e, he, hl⟩ => by
    by_cases hex : ∃ e ∈ lg, listed.getD e.i false = false
    · exact LgOk.first hM hsz h.2 hex
    · rcases List.mem_cons.1 he with rfl | he
      · obtain ⟨⟨o, ho, _, hb, _, _⟩, _⟩ := h
        have hlt := (List.getElem?_eq_some_iff.1 ho).1
        refine ⟨e.i, ready_of (by simpa using ho) (getD_ft (by omega) hl) fun j hj => ?_⟩
        obtain ⟨e', g1, g2⟩ := hb j (by subst hM; simpa using hj)
        cases hq : listed.getD j false with
        | true => rfl
        | false => exact absurd ⟨e', g1, by rw [g2]; exact hq⟩ hex
      · exact absurd ⟨e, he, hl⟩ hex
end
end Go.Ev

namespace Go.Ev
open Go
set_option linter.unusedVariables false

section
variable {P : Program} {es : List Nat} {nt : Nat} {w0 : World} {T : TT} {ops : List Oper} {M : List Nat} {ρ0 : Valn} {H0 : Heap} {wst : World} {a0 : Act}
/-! ### the lasting temporaries behind the region -/
theorem cflush_sound {k : TT → Bool} : ∀ (lg : List Ent) {T : TT}, (cflush es (lds ops lg)).f (lvs lg) T k = true → ∃ T', k T' = true ∧ T'.ds = T.ds ∧ ∀ (ρ : Valn) (a : Act),
    (∀ e ∈ lg, ∀ d, (ops[e.i]?).bind (·.dst) = some d → VR ρ e.v (a.tmps.getD d undef)) → ∀ t s, idxIn t es = some s → s < 64 → (VR ρ (T.slot s) (a.tmps.getD t undef) ∨ ∃ e ∈ lg, (ops[e.i]?).bind (·.dst) = some t) → VR ρ (T'.slot s) (a.tmps.getD t undef)
  | [], T, h => ⟨T, h, rfl, fun ρ a _ t s _ _ hh => by
      rcases hh with hh | ⟨e, he, _⟩
      · exact hh
      · cases he⟩
  | e :: lg, T, h => by
    have ih := fun T => cflush_sound (k := k) lg (T := T)
    unfold lds at h ih
    rw [List.map_cons] at h
    unfold cflush at h
    generalize cflush es (lg.map fun e => (ops[e.i]?).bind (·.dst)) = r at h ih
    obtain ⟨r⟩ := r
    simp only at h
    have same : r (lvs lg) T k = true → (∀ d, (ops[e.i]?).bind (·.dst) = some d → idxIn d es = none) → ∃ T', k T' = true ∧ T'.ds = T.ds ∧ ∀ (ρ : Valn) (a : Act),
        (∀ e' ∈ e :: lg, ∀ d, (ops[e'.i]?).bind (·.dst) = some d → VR ρ e'.v (a.tmps.getD d undef)) → ∀ t s, idxIn t es = some s → s < 64 → (VR ρ (T.slot s) (a.tmps.getD t undef) ∨ ∃ e' ∈ e :: lg, (ops[e'.i]?).bind (·.dst) = some t) → VR ρ (T'.slot s) (a.tmps.getD t undef) := by
      intro h hn
      obtain ⟨T', q1, q2, q3⟩ := ih T h
      refine ⟨T', q1, q2, fun ρ a hv t s ht hs hh => q3 ρ a (fun e' he' => hv e' (by simp [he'])) t s ht hs ?_⟩
      rcases hh with hh | ⟨e', he', hd⟩
      · exact .inl hh
      · rcases List.mem_cons.1 he' with rfl | he'
        · rw [hn t hd] at ht; cases ht
        · exact .inr ⟨e', he', hd⟩
    cases hd : (ops[e.i]?).bind (·.dst) with
    | none =>
      rw [hd] at h
      exact same h fun d hd' => by rw [hd] at hd'; cases hd'
    | some d =>
      rw [hd] at h
      simp only at h
      split at h
      · rename_i hi
        exact same h fun d' hd' => by rw [hd] at hd'; cases hd'; exact hi
      · rename_i i hi
        split at h
        · rename_i p hs hp
          have h5 : (putT i).p T (Ev.hd (lvs (e :: lg))) (fun T => r (lvs lg) T k) = true := by rw [hp]; exact h
          rw [putT_eq] at h5
          obtain ⟨T', q1, q2, q3⟩ := ih _ h5
          refine ⟨T', q1, by rw [q2, TT.ds_setSlot], fun ρ a hv t s ht hs' hh => q3 ρ a (fun e' he' => hv e' (by simp [he'])) t s ht hs' ?_⟩
          rw [TT.slot_setSlot _ _ _ _ (blt_iff.1 hs) hs']
          by_cases hsi : s = i
          · have htd : t = d := idxIn_inj (by rw [← hsi]; exact ht) hi
            rw [if_pos hsi, htd]
            exact .inl (hv e (by simp) d hd)
          · rw [if_neg hsi]
            rcases hh with hh | ⟨e', he', hd'⟩
            · exact .inl hh
            · rcases List.mem_cons.1 he' with rfl | he'
              · rw [hd] at hd'; cases hd'
                rw [hi] at ht; cases ht
                exact absurd rfl hsi
              · exact .inr ⟨e', he', hd'⟩
        · exact absurd h Bool.false_ne_true
theorem cpoison_sound {L : List AV} {k : TT → Bool} : ∀ (ops : List Oper) {T : TT}, (cpoison es ops).f L T k = true → ∃ T', k T' = true ∧ T'.ds = T.ds ∧ ∀ (ρ : Valn) (a : Act),
    ∀ t s, idxIn t es = some s → s < 64 → (VR ρ (T.slot s) (a.tmps.getD t undef) ∨ ∃ o ∈ ops, o.dst = some t) → VR ρ (T'.slot s) (a.tmps.getD t undef)
  | [], T, h => ⟨T, h, rfl, fun ρ a t s _ _ hh => by
      rcases hh with hh | ⟨e, he, _⟩
      · exact hh
      · cases he⟩
  | o :: l, T, h => by
    have ih := fun T => cpoison_sound (L := L) (k := k) l (T := T)
    unfold cpoison at h
    generalize cpoison es l = r at h ih
    obtain ⟨r⟩ := r
    simp only at h
    have same : r L T k = true → (∀ d, o.dst = some d → idxIn d es = none) → ∃ T', k T' = true ∧ T'.ds = T.ds ∧ ∀ (ρ : Valn) (a : Act),
        ∀ t s, idxIn t es = some s → s < 64 → (VR ρ (T.slot s) (a.tmps.getD t undef) ∨ ∃ o' ∈ o :: l, o'.dst = some t) → VR ρ (T'.slot s) (a.tmps.getD t undef) := by
      intro h hn
      obtain ⟨T', q1, q2, q3⟩ := ih T h
      refine ⟨T', q1, q2, fun ρ a t s ht hs hh => q3 ρ a t s ht hs ?_⟩
      rcases hh with hh | ⟨e', he', hd⟩
      · exact .inl hh
      · rcases List.mem_cons.1 he' with rfl | he'
        · rw [hn t hd] at ht; cases ht
        · exact .inr ⟨e', he', hd⟩
    cases hd : o.dst with
    | none =>
      rw [hd] at h
      exact same h fun d hd' => by rw [hd] at hd'; cases hd'
    | some d =>
      rw [hd] at h
      simp only at h
      split at h
      · rename_i hi
        exact same h fun d' hd' => by rw [hd] at hd'; cases hd'; exact hi
      · rename_i i hi
        split at h
        · rename_i p hs hp
          have h5 : (putT i).p T .any (fun T => r L T k) = true := by rw [hp]; exact h
          rw [putT_eq] at h5
          obtain ⟨T', q1, q2, q3⟩ := ih _ h5
          refine ⟨T', q1, by rw [q2, TT.ds_setSlot], fun ρ a t s ht hs' hh => q3 ρ a t s ht hs' ?_⟩
          rw [TT.slot_setSlot _ _ _ _ (blt_iff.1 hs) hs']
          by_cases hsi : s = i
          · rw [if_pos hsi]; exact .inl (VR_any _)
          · rw [if_neg hsi]
            rcases hh with hh | ⟨e', he', hd'⟩
            · exact .inl hh
            · rcases List.mem_cons.1 he' with rfl | he'
              · rw [hd] at hd'; cases hd'
                rw [hi] at ht; cases ht
                exact absurd rfl hsi
              · exact .inr ⟨e', he', hd'⟩
        · exact absurd h Bool.false_ne_true
end
end Go.Ev

namespace Go.Ev
open Go
set_option linter.unusedVariables false

/-! ### how many operations did not come up yet -/
def unl (listed : Array Bool) : Nat → Nat
  | 0 => 0
  | n + 1 => unl listed n + (if listed.getD n false = true then 0 else 1)
theorem unl_zero {listed : Array Bool} : ∀ {n : Nat}, unl listed n = 0 → ∀ j, j < n → listed.getD j false = true
  | 0, _, j, hj => by omega
  | n + 1, h, j, hj => by
    unfold unl at h
    have h1 : unl listed n = 0 := by omega
    by_cases hjn : j = n
    · subst hjn
      by_cases hq : listed.getD j false = true
      · exact hq
      · rw [if_neg hq] at h; omega
    · exact unl_zero h1 j (by omega)
theorem unl_le {listed : Array Bool} (i : Nat) : ∀ n, unl (listed.setIfInBounds i true) n ≤ unl listed n
  | 0 => Nat.le_refl _
  | n + 1 => by
    unfold unl
    have := unl_le (listed := listed) i n
    by_cases hq : listed.getD n false = true
    · rw [if_pos hq, if_pos (getD_set_true hq)]; omega
    · rw [if_neg hq]
      split <;> omega
theorem unl_lt {listed : Array Bool} {i : Nat} (hi : listed.getD i false = false) (hs : i < listed.size) : ∀ {n}, i < n → unl (listed.setIfInBounds i true) n < unl listed n
  | 0, h => by omega
  | n + 1, h => by
    unfold unl
    by_cases hin : i = n
    · subst hin
      have := unl_le (listed := listed) i i
      rw [if_pos (by simp [hs]), if_neg (by rw [hi]; exact Bool.false_ne_true)]
      omega
    · have := unl_lt hi hs (n := n) (by omega)
      rw [getD_set_ne false hin]
      omega

section
variable {P : Program} {es : List Nat} {nt : Nat} {w0 : World} {T : TT} {ops : List Oper} {M : List Nat} {ρ0 : Valn} {H0 : Heap} {wst : World} {a0 : Act}
theorem draw_finish {k : TT → Heap → Bool} {Q : Exit → Act → World → Prop} (I0 : TR ρ0 es nt T a0) {listed : Array Bool} {a : Act} {w : World} {ρ : Valn} {lg : List Ent} {Hend : Heap} (ht : Tmps nt ops listed a a0 ρ lg)
    (hall : ∀ e ∈ lg, listed.getD e.i false = true) (hdst : ∀ j o d, ops[j]? = some o → o.dst = some d → lhas lg j) (R : Rl w0 ρ Hend w) (S : Step ρ0 H0 wst ρ Hend w)
    (hfl : (cflush es (lds ops lg)).f (lvs lg) T (fun T => k T Hend) = true) (hk : ToN Q w0 es nt ρ0 H0 wst k) : Q .normal a w := by
  obtain ⟨T', h1, h2, h3⟩ := cflush_sound lg hfl
  refine hk ρ Hend T' a w ⟨ht.size, fun t s hs hlt => h3 ρ a (fun e he d hd => ?_) t s hs hlt ?_, by rw [h2, ht.defers]; exact I0.defers.mono S.le⟩ R S h1
  · cases ho : ops[e.i]? with
    | none => rw [ho] at hd; cases hd
    | some o => rw [ho] at hd; exact ht.val e he (hall e he) o d ho hd
  · by_cases hex : ∃ e ∈ lg, (ops[e.i]?).bind (·.dst) = some t
    · exact .inr hex
    · refine .inl ?_
      rw [ht.old t fun j o hj hl hd => ?_]
      · exact VR.mono S.le _ _ (I0.tmp t s hs hlt)
      · obtain ⟨e, he, hei⟩ := hdst j o t hj hd
        exact hex ⟨e, he, by rw [hei, hj]; exact hd⟩
/-- a store at the end -/
theorem tail_sound {o : Oper} {t : TypeId} {p v : Operand} (hop : o.op = .store t p v) {lg : List Ent} {Hf : Heap} {k : Heap → Bool} (h : (cstore P t).f ((cget es (lds ops lg) p).g (lvs lg) T) ((cget es (lds ops lg) v).g (lvs lg) T) Hf k = true) :
    ∃ aX r s z obX, (cget es (lds ops lg) p).g (lvs lg) T = .ptr aX r s z ∧ k (Hf.put aX obX) = true ∧ ∀ (ρ : Valn) (a : Act) (w : World) (Hs : Heap), LooksOk es T ops ρ o lg a → Rl w0 ρ Hs w → Hs.get aX = Hf.get aX →
      ∃ w', (execOp a.eval o).run P w = .ok .skip w' ∧ Rl w0 ρ (Hs.put aX obX) w' ∧ Step ρ Hs w ρ (Hs.put aX obX) w' := by
  obtain ⟨aX, r, s, z, ob, g1, g2, g3, g4, g5, g6⟩ := cstore_inv h
  refine ⟨aX, r, s, z, ob, g1, g2, fun ρ a w Hs hl R hg => ?_⟩
  have hx := hl.opd p (by rw [hop]; simp [Op.operands])
  have hy := hl.opd v (by rw [hop]; simp [Op.operands])
  unfold OpdOk at hx hy
  have hρ : ∃ y, ρ aX = some y := by
    have hx := hx
    rw [g1] at hx
    simp only [VR] at hx
    obtain ⟨b, κ, q, _⟩ := hx
    exact ⟨_, q⟩
  obtain ⟨q, hq⟩ := hρ
  have ha := VR.lt R.rel hq
  have hobj := R.rel.obj aX ha
  rw [hg] at hobj
  obtain ⟨w', b, κ, q1, q2, q3, q4, q5, q6, q7, q8⟩ := g6 ρ w _ _ hx hy hobj
  obtain ⟨k2, k3⟩ := put_rel R.rel ha (by rw [hg]; exact g3) q2 q3 q4 q5 q6 q7 q8
  exact ⟨w', run_execStore hop a.eval q1, ⟨k2, R.above.step k3⟩, k3⟩

structure CInv (P : Program) (es : List Nat) (nt : Nat) (w0 : World) (T : TT) (ops : List Oper) (M : List Nat) (ρ0 : Valn) (H0 : Heap) (wst : World) (a0 : Act) (lg : List Ent) (Hf : Heap) (ta tb aA aB : Nat) (obA obB : AObj)
    (listed : Array Bool) (a : Act) (w : World) (ρ : Valn) (Hs : Heap) : Prop where
  size : listed.size = ops.length
  down : Down ops.toArray listed
  sub : ∀ j, listed.getD j false = true → lhas lg j ∨ j = ta ∨ j = tb
  pure : ∀ e ∈ lg, listed.getD e.i false = false → e.k = .pure
  tmps : Tmps nt ops listed a a0 ρ lg
  rl : Rl w0 ρ Hs w
  st : Step ρ0 H0 wst ρ Hs w
  nx : Hs.next = Hf.next
  get : ∀ x, x < 32768 → Hs.get x = if x = aA ∧ listed.getD ta false = true then obA else if x = aB ∧ listed.getD tb false = true then obB else Hf.get x
/-- the stores at the end -/
structure TailEnv (P : Program) (es : List Nat) (nt : Nat) (w0 : World) (T : TT) (ops : List Oper) (M : List Nat) (lg : List Ent) (Hf : Heap) (ta tb aA aB : Nat) (obA obB : AObj) (x y : Oper) : Prop where
  log : LgOk P es nt T ops M lg
  ne : ta ≠ tb
  ox : ops[ta]? = some x
  oy : ops[tb]? = some y
  nx : ¬ lhas lg ta
  ny : ¬ lhas lg tb
  dx : x.dst = none
  dy : y.dst = none
  gx : x.guard = none
  gy : y.guard = none
  mx : ∀ j, tbit (Ev.mk M ta) j = true → lhas lg j
  my : ∀ j, tbit (Ev.mk M tb) j = true → lhas lg j
  all : ∀ j, j < ops.length → lhas lg j ∨ j = ta ∨ j = tb
  la : aA < 32768
  lb : aB < 32768
  ab : aA ≠ aB
  ra : ∀ (ρ : Valn) (a : Act) (w : World) (Hs : Heap), LooksOk es T ops ρ x lg a → Rl w0 ρ Hs w → Hs.get aA = Hf.get aA → ∃ w', (execOp a.eval x).run P w = .ok .skip w' ∧ Rl w0 ρ (Hs.put aA obA) w' ∧ Step ρ Hs w ρ (Hs.put aA obA) w'
  rb : ∀ (ρ : Valn) (a : Act) (w : World) (Hs : Heap), LooksOk es T ops ρ y lg a → Rl w0 ρ Hs w → Hs.get aB = Hf.get aB → ∃ w', (execOp a.eval y).run P w = .ok .skip w' ∧ Rl w0 ρ (Hs.put aB obB) w' ∧ Step ρ Hs w ρ (Hs.put aB obB) w'
variable {lg : List Ent} {Hf : Heap} {ta tb aA aB : Nat} {obA obB : AObj} {x y : Oper} {listed : Array Bool} {a : Act} {w : World} {ρ : Valn} {Hs : Heap}
theorem CInv.step (I : CInv P es nt w0 T ops M ρ0 H0 wst a0 lg Hf ta tb aA aB obA obB listed a w ρ Hs) (E : TailEnv P es nt w0 T ops M lg Hf ta tb aA aB obA obB x y) (hM : M = masks [] ops) (hp : pairsOk ops M 0 ops = true) (I0 : TR ρ0 es nt T a0)
    {i : Nat} (hr : i ∈ Region.ready .any ops.toArray listed) {K : Act → World → Prop} {Q : Exit → Act → World → Prop} (hK : ∀ a' w' ρ' Hs', CInv P es nt w0 T ops M ρ0 H0 wst a0 lg Hf ta tb aA aB obA obB (listed.setIfInBounds i true) a' w' ρ' Hs' → K a' w') :
    wpOp P ops.toArray Q i K a w := by
  have hf := getD_tf (mem_ready.1 hr).1
  have hin : i < ops.length := by
    obtain ⟨_, o', ho', _⟩ := mem_ready.1 hr
    have := (Array.getElem?_eq_some_iff.1 ho').1
    simpa using this
  have hsz : i < listed.size := by rw [I.size]; exact hin
  have hset : (listed.setIfInBounds i true).getD i false = true := by simp [hsz]
  have hlist : ∀ j, tbit (Ev.mk M i) j = true → listed.getD j false = true := fun j hj => by
    subst hM
    exact I.down.ready hr (by simpa using hj)
  -- a tail
  have tail : ∀ {o : Oper} {aX : Nat} {obX : AObj}, ops[i]? = some o → ¬ lhas lg i → o.dst = none → o.guard = none → (∀ j, tbit (Ev.mk M i) j = true → lhas lg j) → aX < 32768 → Hs.get aX = Hf.get aX → (i = ta ∨ i = tb) →
      (∀ (ρ : Valn) (a : Act) (w : World) (Hs : Heap), LooksOk es T ops ρ o lg a → Rl w0 ρ Hs w → Hs.get aX = Hf.get aX → ∃ w', (execOp a.eval o).run P w = .ok .skip w' ∧ Rl w0 ρ (Hs.put aX obX) w' ∧ Step ρ Hs w ρ (Hs.put aX obX) w') →
      (∀ z, z < 32768 → (Hs.put aX obX).get z = if z = aA ∧ (listed.setIfInBounds i true).getD ta false = true then obA else if z = aB ∧ (listed.setIfInBounds i true).getD tb false = true then obB else Hf.get z) → wpOp P ops.toArray Q i K a w := by
    intro o aX obX ho hno hd hg hb hlt hget hit hrun hget2
    have hlook : LooksOk es T ops ρ o lg a := I.tmps.looks hp hM I.down I0 I.st.le (fun e he => he) E.log ho hno hb hlist hf
    obtain ⟨w', h1, h2, h3⟩ := hrun ρ a w Hs hlook I.rl hget
    have ho' : ops.toArray[i]? = some o := by simpa using ho
    unfold wpOp
    simp only [ho']
    rw [if_pos (by unfold Region.wanted; rw [hg])]
    refine .inl ?_
    unfold Oper.wp
    rw [h1]
    refine hK _ _ ρ (Hs.put aX obX) ⟨by simp [I.size], I.down.add hr, fun j hj => ?_, fun e he hl => I.pure e he (not_set hl), ?_, h2, I.st.trans h3, I.nx, hget2⟩
    · rcases getD_setI hj with rfl | hj
      · exact .inr hit
      · exact I.sub j hj
    · exact I.tmps.put hp (Valn.le_refl _) ho hsz hf (fun d hdd => by rw [hd] at hdd; cases hdd) (fun e he hei => absurd ⟨e, he, hei⟩ hno) fun e he _ => he
  rcases E.all i hin with ⟨e, he, hei⟩ | hi | hi
  · have hk := I.pure e he (by rw [hei]; exact hf)
    obtain ⟨E1, lt, hsplit, ⟨o, ho, hd, hb, hno, hfact⟩, hlt⟩ := E.log.ent e he
    rw [hei] at ho hb hno
    have hlook : LooksOk es T ops ρ o lt a := I.tmps.looks hp hM I.down I0 I.st.le (fun e' he' => by rw [hsplit]; simp [he']) hlt ho hno hb hlist hf
    unfold EntFact at hfact
    rw [hk] at hfact
    obtain ⟨V, hV, hY⟩ := hfact ρ a hlook
    have ita : i ≠ ta := fun h => E.nx ⟨e, he, hei.trans h⟩
    have itb : i ≠ tb := fun h => E.ny ⟨e, he, hei.trans h⟩
    refine hY.wpOp (by simpa using ho) (hK _ _ ρ Hs ⟨by simp [I.size], I.down.add hr, fun j hj => ?_, fun e he hl => I.pure e he (not_set hl), ?_, I.rl, I.st, I.nx, ?_⟩)
    · rcases getD_setI hj with rfl | hj
      · exact .inl ⟨e, he, hei⟩
      · exact I.sub j hj
    · exact I.tmps.put hp (Valn.le_refl _) ho hsz hf hd (fun e' he' hi' => by rw [E.log.uniq e' he' e he (hi'.trans hei.symm)]; exact hV) fun e' he' _ => he'
    · rw [getD_set_ne false ita, getD_set_ne false itb]; exact I.get
  · subst hi
    refine tail (aX := aA) (obX := obA) E.ox E.nx E.dx E.gx E.mx E.la ?_ (.inl rfl) E.ra fun z hz => ?_
    · rw [I.get aA E.la, if_neg (fun h => by rw [hf] at h; exact absurd h.2 Bool.false_ne_true), if_neg (fun h => E.ab h.1)]
    · rw [Heap.get_put _ _ _ _ E.la hz, hset, getD_set_ne false E.ne]
      by_cases hza : z = aA
      · rw [if_pos hza, if_pos ⟨hza, rfl⟩]
      · rw [if_neg hza, if_neg (fun h => hza h.1), I.get z hz, if_neg (fun h => hza h.1)]
  · subst hi
    refine tail (aX := aB) (obX := obB) E.oy E.ny E.dy E.gy E.my E.lb ?_ (.inr rfl) E.rb fun z hz => ?_
    · rw [I.get aB E.lb, if_neg (fun h => E.ab h.1.symm), if_neg (fun h => by rw [hf] at h; exact absurd h.2 Bool.false_ne_true)]
    · rw [Heap.get_put _ _ _ _ E.lb hz, hset, getD_set_ne false (fun h => E.ne h.symm)]
      by_cases hzb : z = aB
      · rw [if_pos hzb, if_neg (fun h => E.ab (h.1.symm.trans hzb)), if_pos ⟨hzb, rfl⟩]
      · rw [if_neg hzb, I.get z hz, if_neg (fun (h : z = aB ∧ true = true) => hzb h.1), if_neg (fun (h : z = aB ∧ listed.getD i false = true) => hzb h.1)]
theorem CInv.run (E : TailEnv P es nt w0 T ops M lg Hf ta tb aA aB obA obB x y) (hM : M = masks [] ops) (hp : pairsOk ops M 0 ops = true) (I0 : TR ρ0 es nt T a0) (hH0 : H0.next ≤ 32768) {k : TT → Heap → Bool} {Q : Exit → Act → World → Prop}
    (hfl : (cflush es (lds ops lg)).f (lvs lg) T (fun T => k T ((Hf.put aA obA).put aB obB)) = true) (hk : ToN Q w0 es nt ρ0 H0 wst k) : ∀ (fuel : Nat) {listed : Array Bool} {a : Act} {w : World} {ρ : Valn} {Hs : Heap},
    unl listed ops.length ≤ fuel → CInv P es nt w0 T ops M ρ0 H0 wst a0 lg Hf ta tb aA aB obA obB listed a w ρ Hs → wpAny P .any ops.toArray Q fuel listed a w := by
  have fin : ∀ {listed : Array Bool} {a : Act} {w : World} {ρ : Valn} {Hs : Heap}, (∀ j, j < ops.length → listed.getD j false = true) → CInv P es nt w0 T ops M ρ0 H0 wst a0 lg Hf ta tb aA aB obA obB listed a w ρ Hs → Q .normal a w := by
    intro listed a w ρ Hs hall I
    have hta := hall ta (List.getElem?_eq_some_iff.1 E.ox).1
    have htb := hall tb (List.getElem?_eq_some_iff.1 E.oy).1
    have hg : ∀ z, z < 32768 → ((Hf.put aA obA).put aB obB).get z = Hs.get z := fun z hz => by
      rw [I.get z hz, hta, htb, Heap.get_put _ _ _ _ E.lb hz]
      by_cases hzb : z = aB
      · rw [if_pos hzb, if_neg (fun h => E.ab (h.1.symm.trans hzb)), if_pos ⟨hzb, rfl⟩]
      · rw [if_neg hzb, Heap.get_put _ _ _ _ E.la hz]
        by_cases hza : z = aA
        · rw [if_pos hza, if_pos ⟨hza, rfl⟩]
        · rw [if_neg hza, if_neg (fun h => hza h.1), if_neg (fun h => hzb h.1)]
    have hn : Hs.next ≤ ((Hf.put aA obA).put aB obB).next := by rw [I.nx]; exact Nat.le_refl _
    have hc : ((Hf.put aA obA).put aB obB).next ≤ 32768 := by
      have := I.rl.rel.next
      rw [I.nx] at this
      exact this
    refine draw_finish I0 I.tmps (fun e he => ?_) (fun j o d hj hd => ?_) (I.rl.grow hn hc hg) (I.st.grow hH0 hn hg) hfl hk
    · obtain ⟨_, _, _, ⟨o, ho, _⟩, _⟩ := E.log.ent e he
      exact hall _ (List.getElem?_eq_some_iff.1 ho).1
    · rcases E.all j (List.getElem?_eq_some_iff.1 hj).1 with h | h | h
      · exact h
      · rw [h, E.ox] at hj; cases hj; rw [E.dx] at hd; cases hd
      · rw [h, E.oy] at hj; cases hj; rw [E.dy] at hd; cases hd
  have nilAll : ∀ {listed : Array Bool} {a : Act} {w : World} {ρ : Valn} {Hs : Heap}, CInv P es nt w0 T ops M ρ0 H0 wst a0 lg Hf ta tb aA aB obA obB listed a w ρ Hs → Region.ready .any ops.toArray listed = [] → ∀ j, j < ops.length → listed.getD j false = true := by
    intro listed a w ρ Hs I hnil
    have hlg : ∀ e ∈ lg, listed.getD e.i false = true := fun e he => by
      cases hq : listed.getD e.i false with
      | true => rfl
      | false =>
        obtain ⟨i, hi⟩ := E.log.first hM I.size ⟨e, he, hq⟩
        rw [hnil] at hi; cases hi
    have hlh : ∀ j, lhas lg j → listed.getD j false = true := by
      rintro j ⟨e, he, rfl⟩; exact hlg e he
    intro j hj
    rcases E.all j hj with h | h | h
    · exact hlh j h
    · cases hq : listed.getD j false with
      | true => rfl
      | false =>
        have := ready_of (ops := ops.toArray) (i := j) (o := x) (by rw [h]; simpa using E.ox) (getD_ft (by rw [I.size]; exact hj) hq) fun j' hj' => hlh j' (E.mx j' (by subst hM; rw [h] at hj'; simpa using hj'))
        rw [hnil] at this; cases this
    · cases hq : listed.getD j false with
      | true => rfl
      | false =>
        have := ready_of (ops := ops.toArray) (i := j) (o := y) (by rw [h]; simpa using E.oy) (getD_ft (by rw [I.size]; exact hj) hq) fun j' hj' => hlh j' (E.my j' (by subst hM; rw [h] at hj'; simpa using hj'))
        rw [hnil] at this; cases this
  intro fuel
  induction fuel with
  | zero =>
    intro listed a w ρ Hs hu I
    have hall := unl_zero (Nat.le_zero.1 hu)
    refine ⟨?_, fin hall I⟩
    cases hq : Region.ready .any ops.toArray listed with
    | nil => rfl
    | cons i l =>
      have hi : i ∈ Region.ready .any ops.toArray listed := by rw [hq]; simp
      have hf := getD_tf (mem_ready.1 hi).1
      have hin : i < ops.length := by
        obtain ⟨_, o', ho', _⟩ := mem_ready.1 hi
        have := (Array.getElem?_eq_some_iff.1 ho').1
        simpa using this
      rw [hall i hin] at hf; cases hf
  | succ fuel ih =>
    intro listed a w ρ Hs hu I
    refine ⟨fun hnil => fin (nilAll I hnil) I, fun i hi => I.step E hM hp I0 hi fun a' w' ρ' Hs' I' => ih ?_ I'⟩
    have hf := getD_tf (mem_ready.1 hi).1
    have hin : i < ops.length := by
      obtain ⟨_, o', ho', _⟩ := mem_ready.1 hi
      have := (Array.getElem?_eq_some_iff.1 ho').1
      simpa using this
    have := unl_lt hf (by rw [I.size]; exact hin) hin
    omega
end
end Go.Ev

namespace Go.Ev
open Go
set_option linter.unusedVariables false

section
variable {P : Program} {es : List Nat} {nt : Nat} {w0 : World} {T : TT} {ops : List Oper} {M : List Nat} {ρ0 : Valn} {H0 : Heap} {wst : World} {a0 : Act}
/-- what follows the last lights -/
noncomputable def finF (P : Program) (es : List Nat) (T : TT) (ops : List Oper) (DS : List (Option Nat)) (tails : List Nat) (k : TT → Heap → Bool) : KD := fun L H _ pds =>
  pdsAll pds H fun H => (ctails P es DS ops tails).f L T H fun H => (cflush es DS).f L T fun T => k T H
variable {last tails : List Nat} {call : CallK} {k : TT → Heap → Bool} {kp : AV → Heap → Bool} {DS : List (Option Nat)}
theorem draw_run {Q : Exit → Act → World → Prop} (hM : M = masks [] ops) (hp : pairsOk ops M 0 ops = true) (I0 : TR ρ0 es nt T a0) (hH0 : H0.next ≤ 32768) (hcall : CallOk P w0 call) (hn : Named P) (hk : ToN Q w0 es nt ρ0 H0 wst k)
    (hQ : ∀ a' ρ' H' v V w', OldTmps nt ops a0 a' → Rl w0 ρ' H' w' → Step ρ0 H0 wst ρ' H' w' → VR ρ' v V → kp v H' = true → Q (.panic [{ v := V, recovered := false }]) a' w') :
    ∀ (fuel : Nat) {listed : Array Bool} {a : Act} {w : World} {ρ : Valn} {lg : List Ent} {H : Heap} {rds : List Rd} {pds : List Pd} {l : List (List Nat × Nat)}, unl listed ops.length ≤ fuel →
      Inv P es nt w0 T ops M ρ0 H0 wst a0 (fun i => ∀ m, mwOf M l = some m → tbit m i = true) listed a w ρ lg H rds pds → At P es nt T ops M last tails call (finF P es T ops DS tails k) kp DS l lg H rds pds → wpAny P .any ops.toArray Q fuel listed a w := by
  -- all came up
  have fin : ∀ {listed : Array Bool} {a : Act} {w : World} {ρ : Valn} {lg : List Ent} {H : Heap} {rds : List Rd} {pds : List Pd} {l : List (List Nat × Nat)}, (∀ j, j < ops.length → listed.getD j false = true) →
      Inv P es nt w0 T ops M ρ0 H0 wst a0 (fun i => ∀ m, mwOf M l = some m → tbit m i = true) listed a w ρ lg H rds pds → At P es nt T ops M last tails call (finF P es T ops DS tails k) kp DS l lg H rds pds → Q .normal a w := by
    intro listed a w ρ lg H rds pds l hall I hA
    cases l with
    | cons lw l =>
      obtain ⟨ls, wi⟩ := lw
      obtain ⟨done, o, h1, h2, h3, h4, h5, _⟩ := hA
      have := (h1 wi).2 (I.sub wi (hall wi (List.getElem?_eq_some_iff.1 h2).1))
      rw [h5] at this; cases this
    | nil =>
      obtain ⟨h1, ⟨dn, h2, h3⟩, h4⟩ := hA
      rcases h3.shape with ht | ⟨ta, tb, x, y, ht, _, hx, _⟩
      · subst ht
        unfold finF at h4
        rw [pdsAll_eq] at h4
        have h4 : (cflush es DS).f (lvs lg) T (fun T => k T (putAll pds H)) = true := h4
        rw [← h1] at h4
        have he : lput listed pds H = putAll pds H := by
          unfold lput
          congr 1
          refine List.filter_eq_self.2 fun q hq => ?_
          obtain ⟨_, _, ⟨e, he, hei, _⟩, _⟩ := I.pd q hq
          obtain ⟨_, _, _, ⟨o, ho, _⟩, _⟩ := I.log.ent e he
          rw [← hei]
          exact hall _ (List.getElem?_eq_some_iff.1 ho).1
        refine draw_finish I0 I.tmps (fun e he => ?_) (fun j o d hj hd => ?_) (he ▸ I.rl) (he ▸ I.st) h4 hk
        · obtain ⟨_, _, _, ⟨o, ho, _⟩, _⟩ := I.log.ent e he
          exact hall _ (List.getElem?_eq_some_iff.1 ho).1
        · exact I.sub j (hall j (List.getElem?_eq_some_iff.1 hj).1)
      · have := (h2 ta).2 (I.sub ta (hall ta (List.getElem?_eq_some_iff.1 hx).1))
        exact absurd this (h3.apart ta (by rw [ht]; simp))
  -- something is ready
  have nilAll : ∀ {listed : Array Bool} {a : Act} {w : World} {ρ : Valn} {lg : List Ent} {H : Heap} {rds : List Rd} {pds : List Pd} {l : List (List Nat × Nat)},
      Inv P es nt w0 T ops M ρ0 H0 wst a0 (fun i => ∀ m, mwOf M l = some m → tbit m i = true) listed a w ρ lg H rds pds → At P es nt T ops M last tails call (finF P es T ops DS tails k) kp DS l lg H rds pds →
      Region.ready .any ops.toArray listed = [] → ∀ j, j < ops.length → listed.getD j false = true := by
    intro listed a w ρ lg H rds pds l I hA hnil
    have hlh : ∀ j, lhas lg j → listed.getD j false = true := by
      rintro j ⟨e, he, rfl⟩
      cases hq : listed.getD e.i false with
      | true => rfl
      | false =>
        obtain ⟨i, hi⟩ := I.log.first hM I.size ⟨e, he, hq⟩
        rw [hnil] at hi; cases hi
    have none : ∀ j o, ops[j]? = some o → (∀ j', tbit (Ev.mk M j) j' = true → lhas lg j') → listed.getD j false = true := by
      intro j o ho hb
      have hj := (List.getElem?_eq_some_iff.1 ho).1
      cases hq : listed.getD j false with
      | true => rfl
      | false =>
        have := ready_of (ops := ops.toArray) (i := j) (o := o) (by simpa using ho) (getD_ft (by rw [I.size]; exact hj) hq) fun j' hj' => hlh j' (hb j' (by subst hM; simpa using hj'))
        rw [hnil] at this; cases this
    cases l with
    | cons lw l =>
      obtain ⟨ls, wi⟩ := lw
      obtain ⟨done, o, h1, h2, h3, h4, h5, _⟩ := hA
      have := none wi o h2 fun j' hj' => (h1 j').1 (sub_iff h4 hj')
      have := (h1 wi).2 (I.sub wi this)
      rw [h5] at this; cases this
    | nil =>
      obtain ⟨h1, ⟨dn, h2, h3⟩, h4⟩ := hA
      intro j hj
      rcases h3.all j hj with h | h
      · exact hlh j ((h2 j).1 h)
      · exact none j _ (List.getElem?_eq_getElem hj) fun j' hj' => (h2 j').1 (h3.msk j h j' hj')
  intro fuel
  induction fuel with
  | zero =>
    intro listed a w ρ lg H rds pds l hu I hA
    have hall := unl_zero (Nat.le_zero.1 hu)
    refine ⟨?_, fin hall I hA⟩
    cases hq : Region.ready .any ops.toArray listed with
    | nil => rfl
    | cons i l =>
      have hi : i ∈ Region.ready .any ops.toArray listed := by rw [hq]; simp
      have hf := getD_tf (mem_ready.1 hi).1
      have hin : i < ops.length := by
        obtain ⟨_, o', ho', _⟩ := mem_ready.1 hi
        have := (Array.getElem?_eq_some_iff.1 ho').1
        simpa using this
      rw [hall i hin] at hf; cases hf
  | succ fuel ih =>
    intro listed a w ρ lg H rds pds l hu I hA
    refine ⟨fun hnil => fin (nilAll I hA hnil) I hA, fun i hi => ?_⟩
    have hf := getD_tf (mem_ready.1 hi).1
    have hin : i < ops.length := by
      obtain ⟨_, o', ho', _⟩ := mem_ready.1 hi
      have := (Array.getElem?_eq_some_iff.1 ho').1
      simpa using this
    have hu' : unl (listed.setIfInBounds i true) ops.length ≤ fuel := by
      have := unl_lt hf (by rw [I.size]; exact hin) hin
      omega
    by_cases hlog : lhas lg i
    · exact I.light hM hp I0 hi hlog fun a' w' ρ' I' => ih hu' I' hA
    cases l with
    | cons lw l =>
      obtain ⟨ls, wi⟩ := lw
      have hiw := (hA.ready hM I.down I.sub hi).resolve_left hlog
      subst hiw
      obtain ⟨done, o, h1, h2, h3, h4, h5, h6, h7, h8⟩ := hA
      have hb : ∀ j, tbit (Ev.mk M i) j = true → lhas lg j := fun j hj => (h1 j).1 (sub_iff h4 hj)
      refine I.writer hM hp I0 hH0 h2 hi hlog hb (fun j hj => hj _ rfl) hcall hn h8 (fun a' w' ρ' v H' rds' pds' I' hk' => ?_) hQ
      have hds : lds ops ((⟨i, v, .writer⟩ : Ent) :: lg) = o.dst :: lds ops lg := by
        show ((ops[i]?).bind (·.dst)) :: lds ops lg = _
        rw [h2]; rfl
      have hB : Before P es nt T ops M last tails call (finF P es T ops DS tails k) kp DS l (some i) (⟨i, v, .writer⟩ :: lg) H' rds' pds' :=
        ⟨Nat.lor done (Nat.pow 2 i), h1.add ⟨i, v, .writer⟩, by rw [hds]; exact h6, h7, by rw [hds]; exact hk'⟩
      obtain ⟨lg2, H2, rds2, pds2, g1, g2, g3⟩ := hB.advance I'.log
      exact ih hu' (I'.grow hH0 g3 g2) g1
    | nil =>
      obtain ⟨h1, ⟨dn, h2, h3⟩, h4⟩ := hA
      have hit : i ∈ tails := (h3.all i hin).resolve_left fun h => hlog ((h2 i).1 h)
      rcases h3.shape with ht | ⟨ta, tb, x, y, ht, hne, hx, hy, sx, sy, dx, dy, gx, gy⟩
      · rw [ht] at hit; cases hit
      · subst ht
        have hlist : ∀ j, tbit (Ev.mk M i) j = true → listed.getD j false = true := fun j hj => by
          subst hM
          exact I.down.ready hi (by simpa using hj)
        have noT : ∀ t ∈ [ta, tb], ¬ lhas lg t := fun t ht h => h3.apart t ht ((h2 t).2 h)
        have hloud : ∀ j o, ops[j]? = some o → Loud P o → lhas lg j → listed.getD j false = true := fun j o ho hl hlh => hlist j (h3.loud i hit j o ho hl fun h => noT j h hlh)
        unfold finF at h4
        rw [pdsAll_eq, ← h1] at h4
        unfold ctails at h4
        simp only [hx, hy] at h4
        cases hox : x.op with
        | store t p v =>
          cases hoy : y.op with
          | store t' p' v' =>
            simp only [hox, hoy] at h4
            have sA := fun kk => tail_sound (w0 := w0) (P := P) (es := es) (T := T) (ops := ops) hox (lg := lg) (Hf := putAll pds H) (k := kk)
            have sB := fun Hf kk => tail_sound (w0 := w0) (P := P) (es := es) (T := T) (ops := ops) hoy (lg := lg) (Hf := Hf) (k := kk)
            generalize cget es (lds ops lg) p = gp at h4 sA
            generalize cget es (lds ops lg) v = gv at h4 sA
            generalize cget es (lds ops lg) p' = gp' at h4 sB
            generalize cget es (lds ops lg) v' = gv' at h4 sB
            generalize cstore P t = f at h4 sA
            generalize cstore P t' = f' at h4 sB
            obtain ⟨gp⟩ := gp
            obtain ⟨gv⟩ := gv
            obtain ⟨gp'⟩ := gp'
            obtain ⟨gv'⟩ := gv'
            obtain ⟨f⟩ := f
            obtain ⟨f'⟩ := f'
            simp only at h4 sA sB
            unfold apartPtr at h4
            obtain ⟨aA, rA, sA', zA, eA, h4⟩ := vPtr_inv h4
            obtain ⟨aB, rB, sB', zB, eB, h4⟩ := vPtr_inv h4
            obtain ⟨lA, h4⟩ := bIf_yes h4
            obtain ⟨lB, h4⟩ := bIf_yes h4
            obtain ⟨nAB, h4⟩ := bIf_no h4
            have lA := blt_iff.1 lA
            have lB := blt_iff.1 lB
            have nAB := beq_not nAB
            obtain ⟨aX, _, _, _, obA, e1, h5, runA⟩ := sA _ h4
            rw [eA] at e1
            cases e1
            obtain ⟨aY, _, _, _, obB, e2, h6, runB⟩ := sB _ _ h5
            rw [eB] at e2
            cases e2
            have hfl : (cflush es (lds ops lg)).f (lvs lg) T (fun T => k T (((putAll pds H).put aA obA).put aB obB)) = true := h6
            have hpds : lput listed pds H = putAll pds H := by
              unfold lput
              congr 1
              refine List.filter_eq_self.2 fun q hq => ?_
              obtain ⟨_, _, ⟨e, he, hei, hk'⟩, _⟩ := I.pd q hq
              obtain ⟨_, _, _, ⟨o, ho, _, _, _, hfact⟩, _⟩ := I.log.ent e he
              unfold EntFact at hfact
              rw [hk'] at hfact
              rw [← hei]
              exact hloud _ o ho hfact.1 ⟨e, he, rfl⟩
            have E : TailEnv P es nt w0 T ops M lg (putAll pds H) ta tb aA aB obA obB x y :=
              ⟨I.log, hne, hx, hy, noT ta (by simp), noT tb (by simp), dx, dy, gx, gy, fun j hj => (h2 j).1 (h3.msk ta (by simp) j hj), fun j hj => (h2 j).1 (h3.msk tb (by simp) j hj),
                fun j hj => by
                  rcases h3.all j hj with h | h
                  · exact .inl ((h2 j).1 h)
                  · exact .inr (by simpa using h), lA, lB, nAB, runA, fun ρ a w Hs hl R hg => runB ρ a w Hs hl R (by rw [hg, Heap.get_put _ _ _ _ lA lB, if_neg (fun h => nAB h.symm)])⟩
            have C : CInv P es nt w0 T ops M ρ0 H0 wst a0 lg (putAll pds H) ta tb aA aB obA obB listed a w ρ (putAll pds H) := by
              refine ⟨I.size, I.down, fun j hj => .inl (I.sub j hj), fun e he hl => ?_, I.tmps, hpds ▸ I.rl, hpds ▸ I.st, rfl, fun z hz => ?_⟩
              · obtain ⟨_, _, _, ⟨o, ho, _, _, _, hfact⟩, _⟩ := I.log.ent e he
                unfold EntFact at hfact
                cases hk' : e.k with
                | pure => rfl
                | writer => rw [I.wr e he hk'] at hl; cases hl
                | load t p =>
                  rw [hk'] at hfact
                  rw [hloud _ o ho hfact.1 ⟨e, he, rfl⟩] at hl; cases hl
                | alloc id ob =>
                  rw [hk'] at hfact
                  rw [hloud _ o ho hfact.1 ⟨e, he, rfl⟩] at hl; cases hl
              · have na : ¬ listed.getD ta false = true := fun h => noT ta (by simp) (I.sub ta h)
                have nb : ¬ listed.getD tb false = true := fun h => noT tb (by simp) (I.sub tb h)
                rw [if_neg (fun h => na h.2), if_neg (fun h => nb h.2)]
            exact C.step E hM hp I0 hi fun a' w' ρ' Hs' C' => CInv.run E hM hp I0 hH0 hfl hk fuel hu' C'
          | _ => rw [hoy] at sy; cases sy
        | _ => rw [hox] at sx; cases sx
end
end Go.Ev

namespace Go.Ev
open Go
set_option linter.unusedVariables false

section
variable {P : Program} {es : List Nat} {nt : Nat} {w0 : World}
theorem loudMask_spec {tails : List Nat} : ∀ {l : List Oper} {i0 j : Nat} {o : Oper}, l[j]? = some o → Loud P o → i0 + j ∉ tails → tbit (loudMask P tails i0 l) (i0 + j) = true
  | [], i0, j, o, h, _, _ => by simp at h
  | x :: l, i0, j, o, h, hl, hn => by
    unfold loudMask
    cases j with
    | zero =>
      simp at h
      subst h
      have hc : ((match isLoad x.op with | true => true | false => match clsOf P x.op with | .pure => false | _ => true) && !tails.contains i0) = true := by
        rw [Bool.and_eq_true]
        refine ⟨?_, by simpa using hn⟩
        cases hil : isLoad x.op with
        | true => rfl
        | false =>
          rcases hl with hl | hl
          · rw [hil] at hl; cases hl
          · exact hl
      split
      · exact tbit_lor.2 (.inl (tbit_pow.2 rfl))
      · rename_i hq
        exact absurd (hc.symm.trans hq) (by decide)
    | succ j =>
      have := loudMask_spec (tails := tails) (l := l) (i0 := i0 + 1) (j := j) (o := o) (by simpa using h) hl (by rw [show i0 + 1 + j = i0 + (j + 1) by omega]; exact hn)
      rw [show i0 + 1 + j = i0 + (j + 1) by omega] at this
      split
      · exact tbit_lor.2 (.inr this)
      · exact this
theorem tbit_full {n j : Nat} : tbit (Nat.pow 2 n - 1) j = true ↔ j < n := by
  rw [tbit_iff]
  show (2 ^ n - 1).testBit j = true ↔ _
  rw [Nat.testBit_two_pow_sub_one]; simp
theorem planOk_inv {M : List Nat} {ops : List Oper} {pl : Plan} (h : planOk P M ops pl = true) : pairsOk ops M 0 ops = true ∧ ∃ lw dn dn', phasesOk P ops M none 0 pl.phases = some (lw, dn) ∧ lightsOk P ops M lw dn pl.last = some dn' ∧ GoodT P ops M pl.tails dn' := by
  unfold planOk at h
  simp only [Bool.and_eq_true] at h
  obtain ⟨⟨h1, _⟩, h2⟩ := h
  refine ⟨h1, ?_⟩
  split at h2
  · rename_i lw dn hph
    split at h2
    · rename_i dn' hl
      refine ⟨lw, dn, dn', hph, hl, ?_⟩
      split at h2
      · rename_i ht
        have := beq_iff'.1 h2
        rw [ht]
        exact ⟨fun j hj => .inl (by rw [this]; exact tbit_full.2 hj), by simp, by simp, by simp, .inl rfl⟩
      · rename_i a b ht
        split at h2
        · rename_i x y hx hy
          simp only [Bool.and_eq_true] at h2
          obtain ⟨⟨⟨⟨⟨⟨⟨⟨⟨⟨⟨⟨⟨c1, c2⟩, c3⟩, c4⟩, c5⟩, c6⟩, c7⟩, c8⟩, c9⟩, c10⟩, c11⟩, c12⟩, c13⟩, c14⟩ := h2
          have hlt := blt_iff.1 c7
          have hfull := beq_iff'.1 c14
          rw [ht]
          refine ⟨fun j hj => ?_, fun t htt => ?_, fun t htt j o ho hl hn => ?_, fun t htt j hj => ?_, .inr ⟨a, b, x, y, rfl, by omega, hx, hy, c1, c2, by simpa using c3, by simpa using c4, by simpa using c5, by simpa using c6⟩⟩
          · have := tbit_full.2 hj
            rw [← hfull] at this
            rcases tbit_lor.1 this with h | h
            · exact .inl h
            · rcases tbit_lor.1 h with h | h
              · exact .inr (by rw [tbit_pow.1 h]; simp)
              · exact .inr (by rw [tbit_pow.1 h]; simp)
          · simp only [List.mem_cons, List.not_mem_nil, or_false] at htt
            rcases htt with rfl | rfl
            · simpa using c12
            · simpa using c13
          · have := loudMask_spec (P := P) (tails := [a, b]) (i0 := 0) ho hl (by simpa using hn)
            rw [Nat.zero_add] at this
            simp only [List.mem_cons, List.not_mem_nil, or_false] at htt
            rcases htt with rfl | rfl
            · exact sub_iff c8 this
            · exact sub_iff c9 this
          · simp only [List.mem_cons, List.not_mem_nil, or_false] at htt
            rcases htt with rfl | rfl
            · exact sub_iff c10 hj
            · exact sub_iff c11 hj
        · cases h2
      · cases h2
    · cases h2
  · cases h2
theorem Rl.drew {ρ : Valn} {H : Heap} {w : World} (R : Rl w0 ρ H w) : Rl w0 ρ H w.drew := ⟨R.rel.drew, R.above.step (Step.drew ρ H w)⟩
/-- a region whose order is open -/
theorem cdraw_sound (hm : P.follows .mixedOrders = true) {id : Nat} {ops : Array Oper} {call : CallK} (hcall : CallOk P w0 call) (hn : Named P) {ρ : Valn} {H : Heap} {w : World} {T : TT} {a : Act} {k : TT → Heap → Bool} {kp : TT → AV → Heap → Bool}
    {Q : Exit → Act → World → Prop} (R : Rl w0 ρ H w) (I : TR ρ es nt T a) (h : (cdrawOf P es nt ops.toList).f call [] T H k kp = true) (h1 : ToN Q w0 es nt ρ H w k) (h2 : ToP Q w0 es nt ρ H w kp) : (Code.region id ops true).wp P Q a w := by
  refine wp_region_any hm ?_
  show wpAny P .any ops Q ops.size (Array.replicate ops.size false) a w.drew
  have R' := R.drew
  have h1' := h1.step (Step.drew ρ H w)
  have h2' := h2.step (Step.drew ρ H w)
  generalize w.drew = wst at R' h1' h2'
  generalize hops : ops.toList = opl at h
  have hsz : ops.size = opl.length := by rw [← hops]; simp
  have harr : ops = opl.toArray := by rw [← hops]
  unfold cdrawOf cdraw at h
  generalize hM : masks [] opl = M at h
  generalize planOf P M opl = pl at h
  cases hpl : planOk P M opl pl with
  | false => rw [hpl] at h; exact absurd h Bool.false_ne_true
  | true =>
    rw [hpl] at h
    simp only at h
    obtain ⟨hp, lw, dn, dn', g1, g2, g3⟩ := planOk_inv hpl
    have hpo := fun k => cpoison_sound (es := es) (L := []) (k := k) opl (T := T)
    have hA : (cphases P es nt opl M [] pl.phases).f call [] T H [] [] (lastF P es nt T opl M pl.last call (finF P es T opl (dsAfter opl (dsPhases opl [] pl.phases) pl.last) pl.tails k) (fun v H => (cpoison es opl).f [] T fun T => kp T v H) [] pl.phases)
        (fun v H => (cpoison es opl).f [] T fun T => kp T v H) = true := by
      unfold lastF finF
      generalize cphases P es nt opl M [] pl.phases = fa at h ⊢
      generalize clights P es nt opl none (dsPhases opl [] pl.phases) pl.last = fb at h ⊢
      generalize ctails P es (dsAfter opl (dsPhases opl [] pl.phases) pl.last) opl pl.tails = ft at h ⊢
      generalize cflush es (dsAfter opl (dsPhases opl [] pl.phases) pl.last) = ff at h ⊢
      generalize cpoison es opl = fp at h ⊢
      obtain ⟨fa⟩ := fa
      obtain ⟨fb⟩ := fb
      obtain ⟨ft⟩ := ft
      obtain ⟨ff⟩ := ff
      obtain ⟨fp⟩ := fp
      exact h
    have hB : Before P es nt T opl M pl.last pl.tails call (finF P es T opl (dsAfter opl (dsPhases opl [] pl.phases) pl.last) pl.tails k) (fun v H => (cpoison es opl).f [] T fun T => kp T v H) (dsAfter opl (dsPhases opl [] pl.phases) pl.last) pl.phases none [] H [] [] :=
      ⟨0, fun j => ⟨fun h => absurd h tbit_zero, fun ⟨e, he, _⟩ => by cases he⟩, rfl, ⟨lw, dn, dn', g1, g2, g3⟩, hA⟩
    have hf : ∀ j, (Array.replicate ops.size false).getD j false = false := fun j => by
      simp only [Array.getD_eq_getD_getElem?, Array.getElem?_replicate]
      split <;> rfl
    have hI : Inv P es nt w0 T opl M ρ H wst a (fun _ => False) (Array.replicate ops.size false) a wst ρ [] H [] [] := by
      refine ⟨by simp [hsz], fun i o ho hl => ?_, trivial, fun j hj => ?_, fun e he => (by cases he), ⟨I.size, rfl, fun e he => (by cases he), fun _ _ => rfl⟩, R', Step.refl _ _ _, ⟨fun q hq => (by cases hq), fun q hq => (by cases hq)⟩, fun q hq => (by cases hq), fun e he => (by cases he), fun e he => (by cases he), fun r hr => (by cases hr)⟩
      · rw [hf i] at hl; cases hl
      · rw [hf j] at hj; cases hj
    obtain ⟨lg', H', rds', pds', q1, q2, q3⟩ := hB.advance trivial
    have hrun := draw_run (Q := Q) hM.symm hp I R.rel.next hcall hn h1' (kp := fun v H => (cpoison es opl).f [] T fun T => kp T v H) (fun a' ρ' H' v V w' ho r1 r2 r3 r4 => by
      obtain ⟨T', p1, p2, p3⟩ := hpo _ r4
      refine h2' ρ' H' T' a' v V w' ⟨ho.1, fun t s hs hlt => p3 ρ' a' t s hs hlt ?_, by rw [p2, ho.2.1]; exact I.defers.mono r2.le⟩ r1 r2 r3 p1
      by_cases hex : ∃ o ∈ opl, o.dst = some t
      · exact .inr hex
      · refine .inl ?_
        rw [ho.2.2 t fun o ho' hd => hex ⟨o, ho', hd⟩]
        exact VR.mono r2.le _ _ (I.tmp t s hs hlt)) ops.size (l := pl.phases) ?_ (hI.grow R.rel.next q3 q2) q1
    · rw [← harr] at hrun; exact hrun
    · rw [hsz]
      have : ∀ (n m : Nat), unl (Array.replicate m false) n ≤ n := by
        intro n m
        induction n with
        | zero => exact Nat.le_refl _
        | succ n ih => unfold unl; split <;> omega
      exact this _ _
end
end Go.Ev
