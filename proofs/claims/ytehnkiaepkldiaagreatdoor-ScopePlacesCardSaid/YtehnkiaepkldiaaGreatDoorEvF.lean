/- Code, functions, calls: what the evaluator finds, a call does. -/
import Derived.Test.YtehnkiaepkldiaaGreatDoorEvE
namespace Go.Ev
open Go
set_option linter.unusedVariables false

section
variable {P : Program} {es : List Nat} {nt : Nat} {w0 : World}
/-! ### code -/
def XR (ρ : Valn) : X → Exit → Prop
  | .exit i, e => e = .exit i
  | .ret, e => e = .ret
  | .panic v, e => ∃ V, VR ρ v V ∧ e = .panic [{ v := V, recovered := false }]
def ToX (Q : Exit → Act → World → Prop) (w0 : World) (es : List Nat) (nt : Nat) (ρ : Valn) (H : Heap) (w : World) (kx : X → TT → Heap → Bool) : Prop :=
  ∀ ρ' H' T' a' w' x e, TR ρ' es nt T' a' → Rl w0 ρ' H' w' → Step ρ H w ρ' H' w' → XR ρ' x e → kx x T' H' = true → Q e a' w'
theorem ToX.step {Q : Exit → Act → World → Prop} {ρ ρ1 : Valn} {H H1 : Heap} {w w1 : World} {kx : X → TT → Heap → Bool} (h : ToX Q w0 es nt ρ H w kx) (s : Step ρ H w ρ1 H1 w1) : ToX Q w0 es nt ρ1 H1 w1 kx :=
  fun ρ' H' T' a' w' x e h1 h2 h3 h4 h5 => h ρ' H' T' a' w' x e h1 h2 (s.trans h3) h4 h5
def InLoop (P : Program) (c : Code) (Q : Exit → Act → World → Prop) (a : Act) (w : World) : Prop :=
  ∀ (b : Frame) (k : List Item) (cs : List Frame), ∃ e a' w', Q e a' w' ∧ Arrives P (lone (b.at a (.code c :: .inLoop c :: k)) cs w) b k cs e a' w'
theorem wp_inLoop {c : Code} {Q : Exit → Act → World → Prop} {a : Act} {w : World} (h : InLoop P c Q a w) : (Code.loop c).wp P Q a w :=
  fun b k cs => let ⟨e, a', w', q, r⟩ := h b k cs; ⟨e, a', w', q, .of_steps (.one step_loop) r⟩
theorem inLoop_round {c : Code} {Q : Exit → Act → World → Prop} {a : Act} {w : World} (h : c.wp P (Exit.then (InLoop P c Q) Q) a w) : InLoop P c Q a w := by
  intro b k cs
  obtain ⟨e, a₁, w₁, hq, harr⟩ := h b (.inLoop c :: k) cs
  cases e with
  | normal =>
    obtain ⟨e₂, a₂, w₂, hq₂, harr₂⟩ := hq b k cs
    exact ⟨e₂, a₂, w₂, hq₂, .of_steps (Steps.trans harr (.one step_inLoop)) harr₂⟩
  | exit id => exact ⟨_, a₁, w₁, hq, .pass (x := .inLoop c) rfl (fun _ _ => .inl (by simp)) harr⟩
  | goto l => exact ⟨_, a₁, w₁, hq, .pass (x := .inLoop c) rfl (fun _ _ => .inl (by simp)) harr⟩
  | ret => exact ⟨_, a₁, w₁, hq, .pass (x := .inLoop c) rfl (fun _ _ => .inl (by simp)) harr⟩
  | panic ch => exact ⟨_, a₁, w₁, hq, .pass (x := .inLoop c) rfl (fun _ _ => .inl (by simp)) harr⟩
  | outgrown => exact ⟨_, a₁, w₁, hq, .pass (x := .inLoop c) rfl (fun _ _ => .inl (by simp)) harr⟩
def CodeOk (P : Program) (w0 : World) (es : List Nat) (nt : Nat) (c : Code) (f : CC) : Prop :=
  ∀ (n : Nat) (call : CallK) (ρ : Valn) (H : Heap) (w : World) (T : TT) (a : Act) (kn : TT → Heap → Bool) (kx : X → TT → Heap → Bool) (Q : Exit → Act → World → Prop), CallOk P w0 call → Rl w0 ρ H w → TR ρ es nt T a →
    f.f n call T H kn kx = true → ToN Q w0 es nt ρ H w kn → ToX Q w0 es nt ρ H w kx → c.wp P Q a w
theorem toP_of_toX {Q : Exit → Act → World → Prop} {ρ : Valn} {H : Heap} {w : World} {kx : X → TT → Heap → Bool} (h : ToX Q w0 es nt ρ H w kx) : ToP Q w0 es nt ρ H w fun T v H => kx (.panic v) T H :=
  fun ρ' H' T' a' v V w' h1 h2 h3 h4 h5 => h ρ' H' T' a' w' (.panic v) _ h1 h2 h3 ⟨V, h4, rfl⟩ h5
theorem ccode_sound (hm : P.follows .mixedOrders = true) (hn : Named P) : ∀ c : Code, CodeOk P w0 es nt c (ccode P es nt c)
  | .skip => by
    intro n call ρ H w T a kn kx Q hcall R I h h1 h2
    exact wp_skip (h1 ρ H T a w I R (Step.refl _ _ _) h)
  | .region id ops d => by
    intro n call ρ H w T a kn kx Q hcall R I h h1 h2
    cases d with
    | false =>
      have hs := cops_sound (es := es) (nt := nt) hcall hn ops.toList 0 [] (fun j o hj => by simpa using hj)
      unfold ccode at h
      generalize cops P es nt ops [] ops.toList = r at h hs
      obtain ⟨r⟩ := r
      refine wp_region ?_
      have := hs ρ H w [] T a kn _ Q R (RegInv.start I) h h1 (toP_of_toX h2)
      rw [List.range_eq_range']
      have e : ops.toList.length = ops.size := by simp
      rw [e] at this
      exact wpOpsI_ops _ _ _ this
    | true =>
      unfold ccode at h
      have key : ∀ k kp, (cdrawOf P es nt ops.toList).f call [] T H k kp = true → ToN Q w0 es nt ρ H w k → ToP Q w0 es nt ρ H w kp → (Code.region id ops true).wp P Q a w := fun k kp => cdraw_sound hm hcall hn R I
      generalize cdrawOf P es nt ops.toList = r at h key
      obtain ⟨r⟩ := r
      exact key kn _ h h1 (toP_of_toX h2)
  | .seq x y => by
    intro n call ρ H w T a kn kx Q hcall R I h h1 h2
    have hx := ccode_sound hm hn x
    have hy := ccode_sound hm hn y
    unfold ccode at h
    generalize ccode P es nt x = fx at h hx
    generalize ccode P es nt y = fy at h hy
    obtain ⟨fx⟩ := fx
    obtain ⟨fy⟩ := fy
    refine wp_seq (hx n call ρ H w T a _ kx _ hcall R I h ?_ ?_)
    · intro ρ' H' T' a' w' q1 q2 q3 q4
      exact hy n call ρ' H' w' T' a' kn kx Q hcall q2 q1 q4 (h1.step q3) (h2.step q3)
    · intro ρ' H' T' a' w' x e q1 q2 q3 q4 q5
      have := h2 ρ' H' T' a' w' x e q1 q2 q3 q4 q5
      cases x <;> simp only [XR] at q4
      · subst q4; exact this
      · subst q4; exact this
      · obtain ⟨V, _, rfl⟩ := q4; exact this
  | .cond c x y => by
    intro n call ρ H w T a kn kx Q hcall R I h h1 h2
    have hx := ccode_sound hm hn x
    have hy := ccode_sound hm hn y
    have hc := (RegInv.start I).opd c
    unfold OpdOk at hc
    unfold ccode at h
    generalize cget es [] c = gc at h hc
    generalize ccode P es nt x = fx at h hx
    generalize ccode P es nt y = fy at h hy
    obtain ⟨gc⟩ := gc
    obtain ⟨fx⟩ := fx
    obtain ⟨fy⟩ := fy
    obtain ⟨b, e, h3⟩ := vBool_inv h
    simp only at hc
    rw [e] at hc
    simp only [VR] at hc
    refine wp_cond hc ?_
    rcases bIf_inv h3 with ⟨hb, h4⟩ | ⟨hb, h4⟩
    · rw [hb, if_pos rfl]
      exact hx n call ρ H w T a kn kx Q hcall R I h4 h1 h2
    · rw [hb, if_neg (by decide)]
      exact hy n call ρ H w T a kn kx Q hcall R I h4 h1 h2
  | .block id c => by
    intro n call ρ H w T a kn kx Q hcall R I h h1 h2
    have hx := ccode_sound hm hn c
    unfold ccode at h
    generalize ccode P es nt c = fx at h hx
    obtain ⟨fx⟩ := fx
    refine wp_block (hx n call ρ H w T a kn _ _ hcall R I h (fun ρ' H' T' a' w' q1 q2 q3 q4 => h1 ρ' H' T' a' w' q1 q2 q3 q4) ?_)
    intro ρ' H' T' a' w' x e q1 q2 q3 q4 q5
    cases x with
    | exit i =>
      simp only [XR] at q4
      subst q4
      simp only [xCase_e] at q5
      simp only [Exit.inBlock]
      rcases bIf_inv q5 with ⟨hb, h4⟩ | ⟨hb, h4⟩
      · rw [if_pos (beq_iff'.1 hb)]
        exact h1 ρ' H' T' a' w' q1 q2 q3 h4
      · rw [if_neg (beq_not hb)]
        exact h2 ρ' H' T' a' w' (.exit i) _ q1 q2 q3 rfl h4
    | ret =>
      simp only [XR] at q4
      subst q4
      exact h2 ρ' H' T' a' w' .ret _ q1 q2 q3 rfl q5
    | panic v =>
      simp only [XR] at q4
      obtain ⟨V, hv, rfl⟩ := q4
      exact h2 ρ' H' T' a' w' (.panic v) _ q1 q2 q3 ⟨V, hv, rfl⟩ q5
  | .loop c => by
    intro n call ρ H w T a kn kx Q hcall R I h h1 h2
    have hx := ccode_sound hm hn c
    unfold ccode at h
    generalize ccode P es nt c = fx at h hx
    obtain ⟨fx⟩ := fx
    refine wp_inLoop ?_
    have key : ∀ (m : Nat) (ρ1 : Valn) (H1 : Heap) (w1 : World) (T1 : TT) (a1 : Act), Rl w0 ρ1 H1 w1 → TR ρ1 es nt T1 a1 → Step ρ H w ρ1 H1 w1 → loopN (fun again T H => fx n call T H again kx) m T1 H1 = true → InLoop P c Q a1 w1 := by
      intro m
      induction m with
      | zero => intro ρ1 H1 w1 T1 a1 _ _ _ hl; rw [loopN_zero] at hl; exact absurd hl Bool.false_ne_true
      | succ m ih =>
        intro ρ1 H1 w1 T1 a1 R1 I1 S1 hl
        rw [loopN_succ] at hl
        refine inLoop_round (hx n call ρ1 H1 w1 T1 a1 _ kx _ hcall R1 I1 hl ?_ ?_)
        · intro ρ' H' T' a' w' q1 q2 q3 q4
          exact ih ρ' H' w' T' a' q2 q1 (S1.trans q3) q4
        · intro ρ' H' T' a' w' x e q1 q2 q3 q4 q5
          have := h2 ρ' H' T' a' w' x e q1 q2 (S1.trans q3) q4 q5
          cases x <;> simp only [XR] at q4
          · subst q4; exact this
          · subst q4; exact this
          · obtain ⟨V, _, rfl⟩ := q4; exact this
    exact key n ρ H w T a R I (Step.refl _ _ _) h
  | .exit i => by
    intro n call ρ H w T a kn kx Q hcall R I h h1 h2
    exact wp_exit (h2 ρ H T a w (.exit i) _ I R (Step.refl _ _ _) rfl h)
  | .ret => by
    intro n call ρ H w T a kn kx Q hcall R I h h1 h2
    exact wp_ret (h2 ρ H T a w .ret _ I R (Step.refl _ _ _) rfl h)
  | .rangeFunc .. | .scope _ | .label _ | .goto _ | .refuse _ => by
    intro n call ρ H w T a kn kx Q hcall R I h h1 h2
    exact absurd h Bool.false_ne_true
end
end Go.Ev

namespace Go.Ev
open Go
set_option linter.unusedVariables false

section
variable {P : Program} {es : List Nat} {nt : Nat} {w0 : World}
/-! ### results -/
def resOne (tmps : Array Value) : ResultVar → Sem Value
  | .tmp t => pure (tmps.getD t undef)
  | .cell a t => do loadVar t (← asAddr (tmps.getD a undef))
theorem cres_sound {ρ : Valn} {H : Heap} {w : World} {T : TT} {a : Act} (R : Rel ρ H w) (I : TR ρ es nt T a) : ∀ {l : List ResultVar} {k : List AV → Bool}, (cres P es l).f T H k = true →
    ∃ q Vs, k q = true ∧ VRs ρ q Vs ∧ q.length = l.length ∧ (l.mapM (resOne a.tmps)).run P w = .ok Vs w
  | [], k, h => ⟨[], [], h, VRs.nil, rfl, rfl⟩
  | .tmp t :: l, k, h => by
    have hs := (RegInv.start I).sees t
    unfold Sees at hs
    unfold cres at h
    have ih := fun k => cres_sound R I (l := l) (k := k)
    generalize cgetTmp es [] t = g at h hs
    generalize cres P es l = r at h ih
    obtain ⟨g⟩ := g
    obtain ⟨r⟩ := r
    obtain ⟨q, Vs, h1, h2, h4, h3⟩ := ih _ h
    refine ⟨_, _, h1, VRs.cons hs h2, by simp [h4], ?_⟩
    rw [List.mapM_cons, Sem.run_bind]
    simp only [resOne, Sem.run_pure, Result.andThen_ok, Sem.run_bind, h3]
  | .cell x t :: l, k, h => by
    have hs := (RegInv.start I).sees x
    unfold Sees at hs
    unfold cres at h
    have ih := fun k => cres_sound R I (l := l) (k := k)
    generalize cgetTmp es [] x = g at h hs
    have hld := fun k => cload_inv (P := P) (t := t) (p := g.g [] T) (H := H) (k := k)
    generalize cload P t = f at h hld
    generalize cres P es l = r at h ih
    obtain ⟨g⟩ := g
    obtain ⟨f⟩ := f
    obtain ⟨r⟩ := r
    obtain ⟨v, a1, rr, s, z, g1, g2, g3, g4⟩ := hld _ h
    obtain ⟨q, Vs, h1, h2, h4, h3⟩ := ih _ g1
    simp only at hs g2
    have hs2 := hs
    rw [g2] at hs2
    simp only [VR] at hs2
    obtain ⟨b, κ, hb, hV⟩ := hs2
    obtain ⟨Vv, g5, g6⟩ := g4 ρ w _ hs (R.obj a1 (VR.lt R hb))
    refine ⟨_, _, h1, VRs.cons g5 h2, by simp [h4], ?_⟩
    rw [List.mapM_cons, Sem.run_bind]
    rw [hV] at g6
    have : (resOne a.tmps (.cell x t)).run P w = .ok Vv w := by
      simp only [resOne, hV, asAddr]
      exact g6
    rw [this]
    simp only [Result.andThen_ok, Sem.run_bind, h3, Sem.run_pure]
theorem results_run {fn : Func} {tmps : Array Value} {w : World} {Vs : List Value} (h : (fn.results.toList.mapM (resOne tmps)).run P w = .ok Vs w) :
    (results fn tmps).run P w = .ok (if hs : (List.toArray Vs).size = 1 then (List.toArray Vs)[0] else .tuple (List.toArray Vs)) w := by
  have hm : (fn.results.mapM (resOne tmps)).run P w = .ok (List.toArray Vs) w := by
    rw [Array.mapM_eq_mapM_toList, Sem.run_map, h, Result.andThen_ok]
  have e : results fn tmps = (do let vs ← fn.results.mapM (resOne tmps); pure (if h : vs.size = 1 then vs[0] else .tuple vs)) := by
    unfold results
    congr 1
  rw [e, Sem.run_bind, hm]; rfl
theorem cresv_sound {ρ : Valn} {H : Heap} {w : World} {T : TT} {a : Act} (R : Rel ρ H w) (I : TR ρ es nt T a) {fn : Func} {k : AV → Bool} (h : (cresv P es fn.results.toList).f T H k = true) :
    ∃ v V, k v = true ∧ VR ρ v V ∧ (results fn a.tmps).run P w = .ok V w := by
  have key : ∀ k, (cres P es fn.results.toList).f T H k = true → ∃ q Vs, k q = true ∧ VRs ρ q Vs ∧ q.length = fn.results.toList.length ∧ (fn.results.toList.mapM (resOne a.tmps)).run P w = .ok Vs w := fun k => cres_sound R I
  unfold cresv at h
  generalize cres P es fn.results.toList = r at h key
  obtain ⟨r⟩ := r
  split at h
  · rename_i f x hr hl
    cases hr
    obtain ⟨q, Vs, h1, h2, h3, h4⟩ := key _ h
    rw [hl] at h3
    match q, h3 with
    | [v], _ =>
      obtain ⟨V, L', rfl, h5, h6⟩ := h2.cons_inv
      simp only [VRs] at h6
      subst h6
      exact ⟨v, V, h1, h5, by rw [results_run h4]; rfl⟩
  · rename_i f hr hl
    cases hr
    obtain ⟨q, Vs, h1, h2, h3, h4⟩ := key _ h
    refine ⟨_, .tuple (List.toArray Vs), h1, by simp only [VR]; exact ⟨Vs, rfl, h2⟩, ?_⟩
    rw [results_run h4, dif_neg]
    intro hs
    rw [List.size_toArray, h2.length, h3] at hs
    obtain ⟨x, hx⟩ := List.length_eq_one_iff.1 hs
    exact hl x hx

/-! ### the arguments in their places -/
theorem fill8_inv {l : List AV} {k : N8 AV → List AV → Bool} (h : fill8 l k = true) : ∃ n, k n (l.drop 8) = true ∧ ∀ i, i < 8 → n.get (dig i) = l.getD i .undef := by
  unfold fill8 at h
  have c8 : ∀ i, i < 8 → i = 0 ∨ i = 1 ∨ i = 2 ∨ i = 3 ∨ i = 4 ∨ i = 5 ∨ i = 6 ∨ i = 7 := by omega
  match l, h with
  | [], h => exact ⟨_, h, fun i hi => by rcases c8 i hi with rfl | rfl | rfl | rfl | rfl | rfl | rfl | rfl <;> rfl⟩
  | [_], h => exact ⟨_, h, fun i hi => by rcases c8 i hi with rfl | rfl | rfl | rfl | rfl | rfl | rfl | rfl <;> rfl⟩
  | [_, _], h => exact ⟨_, h, fun i hi => by rcases c8 i hi with rfl | rfl | rfl | rfl | rfl | rfl | rfl | rfl <;> rfl⟩
  | [_, _, _], h => exact ⟨_, h, fun i hi => by rcases c8 i hi with rfl | rfl | rfl | rfl | rfl | rfl | rfl | rfl <;> rfl⟩
  | [_, _, _, _], h => exact ⟨_, h, fun i hi => by rcases c8 i hi with rfl | rfl | rfl | rfl | rfl | rfl | rfl | rfl <;> rfl⟩
  | [_, _, _, _, _], h => exact ⟨_, h, fun i hi => by rcases c8 i hi with rfl | rfl | rfl | rfl | rfl | rfl | rfl | rfl <;> rfl⟩
  | [_, _, _, _, _, _], h => exact ⟨_, h, fun i hi => by rcases c8 i hi with rfl | rfl | rfl | rfl | rfl | rfl | rfl | rfl <;> rfl⟩
  | [_, _, _, _, _, _, _], h => exact ⟨_, h, fun i hi => by rcases c8 i hi with rfl | rfl | rfl | rfl | rfl | rfl | rfl | rfl <;> rfl⟩
  | _ :: _ :: _ :: _ :: _ :: _ :: _ :: _ :: l, h => exact ⟨_, h, fun i hi => by rcases c8 i hi with rfl | rfl | rfl | rfl | rfl | rfl | rfl | rfl <;> rfl⟩
theorem undef8_get (d : D8) : undef8.get d = .undef := N8.get_all _ d
theorem initT_inv {l : List AV} {k : TT → Bool} (h : initT l k = true) : ∃ T, k T = true ∧ T.ds = [] ∧ ∀ s, s < 64 → T.slot s = l.getD s .undef := by
  unfold initT at h
  obtain ⟨n0, h1, g1⟩ := fill8_inv h
  have low : ∀ (T : TT), T.b0 = n0 → ∀ s, s < 8 → T.slot s = l.getD s .undef := by
    intro T hT s hs
    rw [TT.slot_eq, ← g1 s hs]
    have e1 : s / 8 % 8 = 0 := by omega
    have e2 : s % 8 = s := by omega
    rw [e1, e2]
    show T.b0.get _ = _
    rw [hT]
  cases hd : l.drop 8 with
  | nil =>
    rw [hd] at h1
    refine ⟨_, h1, rfl, fun s hs => ?_⟩
    have hl : l.length ≤ 8 := List.drop_eq_nil_iff.1 hd
    by_cases h8 : s < 8
    · exact low _ rfl s h8
    · rw [List.getD_eq_getElem?_getD, List.getElem?_eq_none (by omega), TT.slot_eq]
      have c8 : ∀ i, i < 8 → i ≠ 0 → i = 1 ∨ i = 2 ∨ i = 3 ∨ i = 4 ∨ i = 5 ∨ i = 6 ∨ i = 7 := by omega
      have : (⟨n0, undef8, undef8, undef8, undef8, undef8, undef8, undef8, []⟩ : TT).getB (dig (s / 8 % 8)) = undef8 := by
        rcases c8 (s / 8 % 8) (by omega) (by omega) with e | e | e | e | e | e | e <;> rw [e] <;> rfl
      rw [this]; exact undef8_get _
  | cons x r =>
    rw [hd] at h1
    change fill8 (x :: r) (fun n1 l => uncons l (k ⟨n0, n1, undef8, undef8, undef8, undef8, undef8, undef8, []⟩) fun _ _ => false) = true at h1
    obtain ⟨n1, h2, g2⟩ := fill8_inv h1
    cases hd2 : (x :: r).drop 8 with
    | cons y r' => rw [hd2] at h2; exact absurd h2 Bool.false_ne_true
    | nil =>
      rw [hd2] at h2
      refine ⟨_, h2, rfl, fun s hs => ?_⟩
      have hl : l.length ≤ 16 := by
        have h3 := List.drop_eq_nil_iff.1 hd2
        have h4 := congrArg List.length hd
        rw [List.length_drop] at h4
        omega
      by_cases h8 : s < 8
      · exact low _ rfl s h8
      · by_cases h16 : s < 16
        · rw [TT.slot_eq]
          have e1 : s / 8 % 8 = 1 := by omega
          have e2 : s % 8 = s - 8 := by omega
          rw [e1, e2]
          show n1.get _ = _
          rw [g2 (s - 8) (by omega), ← hd, List.getD_eq_getElem?_getD, List.getD_eq_getElem?_getD, List.getElem?_drop]
          congr 2; omega
        · rw [List.getD_eq_getElem?_getD, List.getElem?_eq_none (by omega), TT.slot_eq]
          have c8 : ∀ i, i < 8 → i ≠ 0 → i ≠ 1 → i = 2 ∨ i = 3 ∨ i = 4 ∨ i = 5 ∨ i = 6 ∨ i = 7 := by omega
          have : (⟨n0, n1, undef8, undef8, undef8, undef8, undef8, undef8, []⟩ : TT).getB (dig (s / 8 % 8)) = undef8 := by
            rcases c8 (s / 8 % 8) (by omega) (by omega) (by omega) with e | e | e | e | e | e <;> rw [e] <;> rfl
          rw [this]; exact undef8_get _
theorem esOk_spec {n : Nat} : ∀ {es : List Nat} {i : Nat}, esOk n i es = true → ∀ s t, es[s]? = some t → (i + s < n → t = i + s) ∧ (n ≤ i + s → n ≤ t)
  | [], i, _, s, t, h => by simp at h
  | x :: l, i, h, s, t, hs => by
    have key : (i < n → x = i) ∧ (n ≤ i → n ≤ x) ∧ esOk n (i + 1) l = true := by
      unfold esOk at h
      split at h
      · rename_i hb
        have hb := blt_iff.1 hb
        split at h
        · rename_i hq
          exact ⟨fun _ => beq_iff'.1 hq, fun hh => by omega, h⟩
        · cases h
      · rename_i hb
        have hb := blt_not hb
        split at h
        · rename_i hq
          exact ⟨fun hh => by omega, fun _ => ble_iff.1 hq, h⟩
        · cases h
    cases s with
    | zero =>
      simp at hs
      subst hs
      exact ⟨key.1, key.2.1⟩
    | succ s =>
      have := esOk_spec key.2.2 s t (by simpa using hs)
      have e : i + 1 + s = i + (s + 1) := by omega
      rwa [e] at this
theorem start_TR {ρ : Valn} {fn : Func} {es : List Nat} {args : List AV} {Args : List Value} {T : TT} (hA : VRs ρ args Args) (hlen : args.length ≤ fn.params.size + fn.nfree) (hnt : fn.params.size + fn.nfree ≤ fn.ntmps) (hes : esOk (fn.params.size + fn.nfree) 0 es = true)
    (hd : T.ds = []) (hT : ∀ s, s < 64 → T.slot s = args.getD s .undef) :
    TR ρ es fn.ntmps T { tmps := List.toArray Args ++ Array.replicate (fn.ntmps - (List.toArray Args).size) undef, defers := [] } := by
  have hAl := hA.length
  refine ⟨?_, fun t s h1 h2 => ?_, by rw [hd]; rfl⟩
  · simp only [Array.size_append, List.size_toArray, Array.size_replicate]; omega
  · have hget := idxIn_get h1
    rw [hT s h2]
    have hund : ∀ t, args.length ≤ t → (List.toArray Args ++ Array.replicate (fn.ntmps - (List.toArray Args).size) undef).getD t undef = undef := by
      intro t ht
      rw [Array.getD_eq_getD_getElem?]
      by_cases hq : t < fn.ntmps
      · rw [Array.getElem?_append_right (by simp only [List.size_toArray]; omega)]
        rw [Array.getElem?_replicate]
        split <;> rfl
      · rw [Array.getElem?_eq_none (by simp only [Array.size_append, List.size_toArray, Array.size_replicate]; omega)]; rfl
    obtain ⟨k1, k2⟩ := esOk_spec hes s t hget
    rw [Nat.zero_add] at k1 k2
    by_cases hs : s < fn.params.size + fn.nfree
    · have e : s = t := (k1 hs).symm
      subst e
      by_cases ha : s < args.length
      · have h3 : args[s]? = some args[s] := List.getElem?_eq_getElem ha
        obtain ⟨V, h4, h5⟩ := hA.get h3
        rw [List.getD_eq_getElem?_getD, h3, Array.getD_eq_getD_getElem?, Array.getElem?_append_left (by simp only [List.size_toArray]; omega), List.getElem?_toArray, h4]
        exact h5
      · rw [hund s (by omega), List.getD_eq_getElem?_getD, List.getElem?_eq_none (by omega)]
        exact VR_undef
    · have := k2 (by omega)
      rw [hund t (by omega), List.getD_eq_getElem?_getD, List.getElem?_eq_none (by omega)]
      exact VR_undef
end
end Go.Ev

namespace Go.Ev
open Go
set_option linter.unusedVariables false

section
variable {P : Program} {w0 : World}
/-! ### deferred calls -/
def UR (ρ : Valn) : U → FrameMode → Prop
  | .ret, m => m = .returning
  | .pan v r, m => ∃ V, VR ρ v V ∧ m = .panicking [{ v := V, recovered := r }]
theorem UR.mono {ρ ρ' : Valn} (h : ρ.le ρ') {u : U} {m : FrameMode} (r : UR ρ u m) : UR ρ' u m := by
  cases u with
  | ret => exact r
  | pan v b => obtain ⟨V, h1, h2⟩ := r; exact ⟨V, VR.mono h _ _ h1, h2⟩
theorem UR.settle {ρ : Valn} {u : U} {m : FrameMode} (r : UR ρ u m) : UR ρ u.settle (Go.settle m) := by
  cases u with
  | ret => simp only [UR] at r; subst r; rfl
  | pan v b =>
    obtain ⟨V, h1, rfl⟩ := r
    cases b with
    | true => rfl
    | false => exact ⟨V, h1, rfl⟩
def ToNS (Q : Exit → Act → List Frame → World → Prop) (c₀ : Frame) (cs : List Frame) (w0 : World) (es : List Nat) (nt : Nat) (ρ : Valn) (H : Heap) (w : World) (kn : TT → Heap → U → Bool) : Prop :=
  ∀ ρ' H' T' a' w' u m, TR ρ' es nt T' a' → Rl w0 ρ' H' w' → Step ρ H w ρ' H' w' → UR ρ' u m → kn T' H' u = true → Q .normal a' ({ c₀ with mode := m } :: cs) w'
def ToXS (Q : Exit → Act → List Frame → World → Prop) (c₀ : Frame) (cs : List Frame) (w0 : World) (es : List Nat) (nt : Nat) (ρ : Valn) (H : Heap) (w : World) (kx : X → TT → Heap → U → Bool) : Prop :=
  ∀ ρ' H' T' a' w' u m x e, TR ρ' es nt T' a' → Rl w0 ρ' H' w' → Step ρ H w ρ' H' w' → UR ρ' u m → XR ρ' x e → kx x T' H' u = true → Q e a' ({ c₀ with mode := m } :: cs) w'
theorem ToNS.step {Q : Exit → Act → List Frame → World → Prop} {c₀ : Frame} {cs : List Frame} {es : List Nat} {nt : Nat} {ρ ρ1 : Valn} {H H1 : Heap} {w w1 : World} {kn : TT → Heap → U → Bool} (h : ToNS Q c₀ cs w0 es nt ρ H w kn) (s : Step ρ H w ρ1 H1 w1) :
    ToNS Q c₀ cs w0 es nt ρ1 H1 w1 kn := fun ρ' H' T' a' w' u m h1 h2 h3 h4 h5 => h ρ' H' T' a' w' u m h1 h2 (s.trans h3) h4 h5
theorem ToXS.step {Q : Exit → Act → List Frame → World → Prop} {c₀ : Frame} {cs : List Frame} {es : List Nat} {nt : Nat} {ρ ρ1 : Valn} {H H1 : Heap} {w w1 : World} {kx : X → TT → Heap → U → Bool} (h : ToXS Q c₀ cs w0 es nt ρ H w kx) (s : Step ρ H w ρ1 H1 w1) :
    ToXS Q c₀ cs w0 es nt ρ1 H1 w1 kx := fun ρ' H' T' a' w' u m x e h1 h2 h3 h4 h5 h6 => h ρ' H' T' a' w' u m x e h1 h2 (s.trans h3) h4 h5 h6
def CodeSOk (P : Program) (w0 : World) (es : List Nat) (nt : Nat) (c : Code) (f : CS) : Prop :=
  ∀ (n : Nat) (call : CallK) (ρ : Valn) (H : Heap) (w : World) (T : TT) (a : Act) (u : U) (m : FrameMode) (kn : TT → Heap → U → Bool) (kx : X → TT → Heap → U → Bool) (Q : Exit → Act → List Frame → World → Prop) (c₀ : Frame) (cs : List Frame),
    CallOk P w0 call → Rl w0 ρ H w → TR ρ es nt T a → UR ρ u m → f.f n call T H u kn kx = true → ToNS Q c₀ cs w0 es nt ρ H w kn → ToXS Q c₀ cs w0 es nt ρ H w kx → c.wpS P Q a ({ c₀ with mode := m } :: cs) w
theorem liftS_sound {es : List Nat} {nt : Nat} {c : Code} {f : CC} (hc : CodeOk P w0 es nt c f) : CodeSOk P w0 es nt c (liftS f) := by
  intro n call ρ H w T a u m kn kx Q c₀ cs hcall R I hu h h1 h2
  obtain ⟨f⟩ := f
  refine wpS_of_wp (hc n call ρ H w T a (fun T H => kn T H u) (fun x T H => kx x T H u) _ hcall R I h ?_ ?_)
  · intro ρ' H' T' a' w' q1 q2 q3 q4
    exact h1 ρ' H' T' a' w' u m q1 q2 q3 (hu.mono q3.le) q4
  · intro ρ' H' T' a' w' x e q1 q2 q3 q4 q5
    exact h2 ρ' H' T' a' w' u m x e q1 q2 q3 (hu.mono q3.le) q4 q5
theorem noCall_ok : CallOk P w0 noCall := fun f args H k h => absurd h Bool.false_ne_true
theorem run_recover {o : Oper} (h : isRecover o.op = true) (f : Operand → Value) (w : World) : (execOp f o).run P w = .ok .recover w := by
  obtain ⟨dst, op, ty, pos, aft, gd⟩ := o
  simp only at h
  unfold isRecover at h
  split at h
  · rename_i c
    split at h
    · rename_i hc
      unfold execOp
      simp only
      rw [run_resolve_builtin hc]; rfl
    · exact absurd h Bool.false_ne_true
  · exact absurd h Bool.false_ne_true
theorem copsS_sound (hn : Named P) {es : List Nat} {nt id : Nat} {ops : Array Oper} {r : Rg} (hr : copsS P es nt ops ops.toList failR = some r) : CodeSOk P w0 es nt (.region id ops false)
    ⟨fun _ _ T H u kn _ => uCase u
          (r.f noCall [.nil .i] T H (fun T H => kn T H .ret) fun _ _ _ => false)
          (fun v rec => bIf rec (r.f noCall [.nil .i] T H (fun T H => kn T H (.pan v true)) fun _ _ _ => false) (r.f noCall [v] T H (fun T H => kn T H (.pan v true)) fun _ _ _ => false))⟩ := by
  intro n call ρ H w T a u m kn kx Q c₀ cs hcall R I hu h h1 h2
  cases hl : ops.toList with
  | nil => rw [hl] at hr; cases hr
  | cons o l =>
    rw [hl] at hr
    unfold copsS at hr
    cases hrec : isRecover o.op with
    | false => simp only [hrec] at hr; cases hr
    | true =>
      cases hg : o.guard with
      | some g => simp only [hrec, hg] at hr; cases hr
      | none =>
        cases hd : o.dst with
        | none => simp only [hrec, hg, hd] at hr; cases hr
        | some d =>
          simp only [hrec, hg, hd] at hr
          cases hlt : Nat.blt d nt with
          | false => simp only [hlt] at hr; cases hr
          | true =>
            cases hidx : idxIn d es with
            | some s => simp only [hlt, hidx] at hr; cases hr
            | none =>
              cases hno : l.all fun o => !isRecover o.op with
              | false => simp only [hlt, hidx, hno] at hr; cases hr
              | true =>
                simp only [hlt, hidx, hno, Option.some.injEq] at hr
                have ho : ops[0]? = some o := by rw [← Array.getElem?_toList, hl]; rfl
                have hl' : ∀ j o, l[j]? = some o → ops[1 + j]? = some o := fun j o hj => by
                  rw [← Array.getElem?_toList, hl, Nat.add_comm]; simpa using hj
                have hsound := cops_sound (w0 := w0) (es := es) (nt := nt) (ops := ops) noCall_ok hn l 1 [some d] hl'
                have hsound : RgOk P w0 es nt ops noCall (List.range' 1 l.length) [some d] r := by rw [← hr]; exact hsound
                have hsz : ops.size = l.length + 1 := by rw [← Array.length_toList, hl]; rfl
                have hw : Region.wanted o (yielded ops a.tmps) = true := by unfold Region.wanted; rw [hg]
                have go : ∀ (v : AV) (V : Value) (u' : U) (m' : FrameMode), VR ρ v V → UR ρ u' m' → r.f noCall [v] T H (fun T H => kn T H u') (fun _ _ _ => false) = true →
                    wpOpsS P ops Q (List.range' 1 l.length) (a.put o.dst V) ({ c₀ with mode := m' } :: cs) w := by
                  intro v V u' m' hv hu' hk
                  have I0 := (RegInv.start I).put_new (v := v) (V := V) (blt_iff.1 hlt) hidx hv
                  rw [hd]
                  refine wpOpsI_opsS _ _ _ (hsound ρ H w [v] T _ _ _ _ R I0 hk ?_ ?_)
                  · intro ρ' H' T' a' w' q1 q2 q3 q4
                    exact h1 ρ' H' T' a' w' u' m' q1 q2 q3 (hu'.mono q3.le) q4
                  · intro ρ' H' T' a' v' V' w' q1 q2 q3 q4 q5
                    exact absurd q5 Bool.false_ne_true
                refine wpS_region ?_
                rw [List.range_eq_range', hsz]
                show wpOpsS P ops Q (0 :: List.range' 1 l.length) a ({ c₀ with mode := m } :: cs) w
                unfold wpOpsS
                simp only [ho]
                rw [if_pos hw, run_recover hrec]
                simp only
                cases u with
                | ret =>
                  simp only [UR] at hu
                  subst hu
                  simp only [recoverD]
                  exact go (.nil .i) .nilIface .ret .returning (by simp only [VR, nilV]) rfl h
                | pan v b =>
                  obtain ⟨V, hv, rfl⟩ := hu
                  cases b with
                  | true =>
                    simp only [recoverD]
                    exact go (.nil .i) .nilIface (.pan v true) _ (by simp only [VR, nilV]) ⟨V, hv, rfl⟩ h
                  | false =>
                    simp only [recoverD]
                    exact go v V (.pan v true) _ hv ⟨V, hv, rfl⟩ h
theorem ccodeS_sound (hm : P.follows .mixedOrders = true) (hn : Named P) {es : List Nat} {nt : Nat} : ∀ c : Code, CodeSOk P w0 es nt c (ccodeS P es nt c)
  | .seq x y => by
    intro n call ρ H w T a u m kn kx Q c₀ cs hcall R I hu h h1 h2
    have hx := ccodeS_sound hm hn (es := es) (nt := nt) x
    have hy := ccodeS_sound hm hn (es := es) (nt := nt) y
    unfold ccodeS at h
    split at h
    · exact liftS_sound (ccode_sound hm hn (.seq x y)) n call ρ H w T a u m kn kx Q c₀ cs hcall R I hu h h1 h2
    · generalize ccodeS P es nt x = fx at h hx
      generalize ccodeS P es nt y = fy at h hy
      obtain ⟨fx⟩ := fx
      obtain ⟨fy⟩ := fy
      refine wpS_seq (hx n call ρ H w T a u m _ kx _ c₀ cs hcall R I hu h ?_ ?_)
      · intro ρ' H' T' a' w' u' m' q1 q2 q3 q4 q5
        exact hy n call ρ' H' w' T' a' u' m' kn kx Q c₀ cs hcall q2 q1 q4 q5 (h1.step q3) (h2.step q3)
      · intro ρ' H' T' a' w' u' m' x e q1 q2 q3 q4 q5 q6
        have := h2 ρ' H' T' a' w' u' m' x e q1 q2 q3 q4 q5 q6
        cases x <;> simp only [XR] at q5
        · subst q5; exact this
        · subst q5; exact this
        · obtain ⟨V, _, rfl⟩ := q5; exact this
  | .cond c x y => by
    intro n call ρ H w T a u m kn kx Q c₀ cs hcall R I hu h h1 h2
    have hx := ccodeS_sound hm hn (es := es) (nt := nt) x
    have hy := ccodeS_sound hm hn (es := es) (nt := nt) y
    have hc := (RegInv.start I).opd c
    unfold OpdOk at hc
    unfold ccodeS at h
    generalize cget es [] c = gc at h hc
    generalize ccodeS P es nt x = fx at h hx
    generalize ccodeS P es nt y = fy at h hy
    obtain ⟨gc⟩ := gc
    obtain ⟨fx⟩ := fx
    obtain ⟨fy⟩ := fy
    obtain ⟨b, e, h3⟩ := vBool_inv h
    simp only at hc
    rw [e] at hc
    simp only [VR] at hc
    refine wpS_cond hc ?_
    rcases bIf_inv h3 with ⟨hb, h4⟩ | ⟨hb, h4⟩
    · rw [hb, if_pos rfl]
      exact hx n call ρ H w T a u m kn kx Q c₀ cs hcall R I hu h4 h1 h2
    · rw [hb, if_neg (by decide)]
      exact hy n call ρ H w T a u m kn kx Q c₀ cs hcall R I hu h4 h1 h2
  | .region i ops d => by
    intro n call ρ H w T a u m kn kx Q c₀ cs hcall R I hu h h1 h2
    unfold ccodeS at h
    split at h
    · exact liftS_sound (ccode_sound hm hn _) n call ρ H w T a u m kn kx Q c₀ cs hcall R I hu h h1 h2
    · exact absurd h Bool.false_ne_true
    · split at h
      · rename_i r hr
        exact copsS_sound hn hr n call ρ H w T a u m kn kx Q c₀ cs hcall R I hu h h1 h2
      · exact absurd h Bool.false_ne_true
  | .skip | .block _ _ | .loop _ | .rangeFunc .. | .exit _ | .scope _ | .label _ | .goto _ | .ret | .refuse _ => by
    intro n call ρ H w T a u m kn kx Q c₀ cs hcall R I hu h h1 h2
    unfold ccodeS at h
    split at h
    · exact liftS_sound (ccode_sound hm hn _) n call ρ H w T a u m kn kx Q c₀ cs hcall R I hu h h1 h2
    · exact absurd h Bool.false_ne_true
end
end Go.Ev

namespace Go.Ev
open Go
set_option linter.unusedVariables false

section
variable {P : Program} {E : Nat → List Nat} {w0 : World}
theorem noDs_inv {T : TT} {b : Bool} (h : noDs T b = true) : T.ds = [] ∧ b = true := by
  unfold noDs at h
  cases hd : T.ds with
  | nil => rw [hd] at h; exact ⟨rfl, h⟩
  | cons x l => rw [hd] at h; exact absurd h Bool.false_ne_true
theorem TR.noDefers {ρ : Valn} {es : List Nat} {nt : Nat} {T : TT} {a : Act} (I : TR ρ es nt T a) (h : T.ds = []) : a.defers = [] := by
  have := I.defers
  rw [h] at this
  exact this
theorem run_invoke_func (hn : Named P) {g : Nat} {fn : Func} (h1 : P.funcs[g]? = some fn) (h2 : fn.body.isSome = true) (cap args : Array Value) (w : World) : (invoke (.fn (.func g) cap) args).run P w = .ok (.enter g (args ++ cap)) w := by
  have hb : fn.body.isNone = false := by
    cases h : fn.body with
    | none => rw [h] at h2; cases h2
    | some c => rfl
  unfold invoke
  show (callFunc g (args ++ cap)).run P w = _
  unfold callFunc
  rw [Sem.run_bind, run_program, Result.andThen_ok, h1]
  simp only [hn g fn h1 h2, hb, Bool.false_eq_true, if_false, Sem.run_pure]
/-- a deferred call -/
theorem callD_sound (hm : P.follows .mixedOrders = true) (hn : Named P) {n f : Nat} {call : CallK} (hcall : CallOk P w0 call) {args : List AV} {u : U} {m : FrameMode} {ρ : Valn} {H : Heap} {w : World} {k : U → Heap → Bool} (R : Rl w0 ρ H w)
    (h : callD P E n call f args u H k = true) {Args : List Value} (hA : VRs ρ args Args) (hu : UR ρ u m) {Rd : Ending → FrameMode → World → Prop}
    (hR : ∀ ρ' H' w' u' m' v, Rl w0 ρ' H' w' → Step ρ H w ρ' H' w' → UR ρ' u' m' → k u' H' = true → Rd (.returned v) m' w') :
    ∃ fn, P.funcs[f]? = some fn ∧ fn.body.isSome = true ∧ CallsD P f (List.toArray Args) m w Rd := by
  unfold callD at h
  split at h
  · rename_i fn hf
    split at h
    · rename_i c hb
      have hs := ccodeS_sound (w0 := w0) hm hn (es := E f) (nt := fn.ntmps) c
      have hres := fun ρ H w T a R I k => cresv_sound (P := P) (es := E f) (nt := fn.ntmps) (ρ := ρ) (H := H) (w := w) (T := T) (a := a) R I (fn := fn) (k := k)
      generalize ccodeS P (E f) fn.ntmps c = cc at h hs
      generalize cresv P (E f) fn.results.toList = rr at h hres
      obtain ⟨cc⟩ := cc
      obtain ⟨rr⟩ := rr
      cases hl : Nat.ble args.length (fn.params.size + fn.nfree) with
      | false => simp only [hl] at h; exact absurd h Bool.false_ne_true
      | true =>
        cases hdf : hasDefer c with
        | true => simp only [hl, hdf] at h; exact absurd h Bool.false_ne_true
        | false =>
          cases hnt : Nat.ble (fn.params.size + fn.nfree) fn.ntmps with
          | false => simp only [hl, hdf, hnt, Bool.false_and] at h; exact absurd h Bool.false_ne_true
          | true =>
            cases hes : esOk (fn.params.size + fn.nfree) 0 (E f) with
            | false => simp only [hl, hdf, hnt, hes, Bool.and_false] at h; exact absurd h Bool.false_ne_true
            | true =>
            simp only [hl, hdf, hnt, hes, Bool.and_true] at h
            obtain ⟨T, h1, hd, hT⟩ := initT_inv h
            refine ⟨fn, hf, by rw [hb]; rfl, callsD_of_wpS hf hb fun c₀ cs hc₀ => ?_⟩
            have I := start_TR hA (ble_iff.1 hl) (ble_iff.1 hnt) hes hd hT
            have hcs : ({ c₀ with mode := m } : Frame) = c₀ := by subst hc₀; rfl
            have := hs n call ρ H w T _ u m _ _ (bodyPostS P fn c₀ cs Rd) c₀ cs hcall R I hu h1 ?_ ?_
            · rw [hcs] at this; exact this
            · intro ρ' H' T' a' w' u' m' q1 q2 q3 q4 q5
              obtain ⟨g1, g2⟩ := noDs_inv q5
              obtain ⟨v, V, g3, g4, g5⟩ := hres ρ' H' w' T' a' q2.rel q1 _ g2
              exact ⟨q1.noDefers g1, m', rfl, V, g5, hR ρ' H' w' u' m' V q2 q3 q4 g3⟩
            · intro ρ' H' T' a' w' u' m' x e q1 q2 q3 q4 q5 q6
              cases x with
              | exit i => exact absurd q6 Bool.false_ne_true
              | panic v => exact absurd q6 Bool.false_ne_true
              | ret =>
                simp only [XR] at q5
                subst q5
                obtain ⟨g1, g2⟩ := noDs_inv q6
                obtain ⟨v, V, g3, g4, g5⟩ := hres ρ' H' w' T' a' q2.rel q1 _ g2
                exact ⟨q1.noDefers g1, m', rfl, V, g5, hR ρ' H' w' u' m' V q2 q3 q4 g3⟩
    · exact absurd h Bool.false_ne_true
  · exact absurd h Bool.false_ne_true
theorem leave_sound (hm : P.follows .mixedOrders = true) (hn : Named P) {n : Nat} {call : CallK} (hcall : CallOk P w0 call) {fn : Func} {es : List Nat} {T : TT} {a : Act} {k : Res → Heap → Bool} {ρ0 : Valn} {H0 : Heap} {wstart : World} :
    ∀ {ds : List DC} {D : List Deferred} {u : U} {m : FrameMode} {ρ : Valn} {H : Heap} {w : World}, Rl w0 ρ H w → Step ρ0 H0 wstart ρ H w → TR ρ es fn.ntmps T a → DCRs ρ ds D → UR ρ u m →
      leave P E n call (cresv P es fn.results.toList).f T ds u H k = true → Leaves P fn a.tmps (CallR w0 ρ0 H0 wstart k) D m w
  | [], D, u, m, ρ, H, w, R, S, I, hD, hu, h => by
    cases hD
    unfold leave at h
    cases u with
    | ret =>
      simp only [UR] at hu
      subst hu
      obtain ⟨v, V, g3, g4, g5⟩ := cresv_sound R.rel I h
      exact ⟨V, g5, ρ, H, R, S, v, g4, g3⟩
    | pan v b =>
      obtain ⟨V, hv, rfl⟩ := hu
      obtain ⟨hb, h1⟩ := bIf_no h
      subst hb
      exact ⟨ρ, H, R, S, v, V, rfl, hv, h1⟩
  | d :: ds, D, u, m, ρ, H, w, R, S, I, hD, hu, h => by
    obtain ⟨X, D', rfl, ⟨Args, Cap, rfl, hA, hC⟩, hD'⟩ := hD
    unfold leave at h
    obtain ⟨gn, g1, g2, g3⟩ := callD_sound hm hn hcall R h (hA.append hC) hu (Rd := fun
        | .returned _, u', w' => Leaves P fn a.tmps (CallR w0 ρ0 H0 wstart k) D' (settle u') w'
        | .panicked chain, u', w' => Leaves P fn a.tmps (CallR w0 ρ0 H0 wstart k) D' (raised u' chain) w'
        | .outgrown, _, w' => CallR w0 ρ0 H0 wstart k .outgrown w') (fun ρ' H' w' u' m' v q1 q2 q3 q4 =>
      leave_sound hm hn hcall q1 (S.trans q2) (I.mono q2.le) (hD'.mono q2.le) q3.settle q4)
    refine ⟨?_, .func d.f, List.toArray Cap, d.f, List.toArray (Args ++ Cap), rfl, ?_, g3⟩
    · cases u with
      | ret => simp only [UR] at hu; subst hu; simp
      | pan v b => obtain ⟨V, _, rfl⟩ := hu; simp
    · have := run_invoke_func hn g1 g2 (List.toArray Cap) (List.toArray Args) w
      simpa using this
/-- summaries -/
def ExtOk (P : Program) (w0 : World) (ext : Nat → Option Ext) : Prop := ∀ (f : Nat) (e : Ext), ext f = some e → ∀ (args : List AV) (k : AV → Bool), e.f args k = true →
  ∃ fn v, P.funcs[f]? = some fn ∧ fn.body.isSome = true ∧ k v = true ∧ ∀ (ρ : Valn) (H : Heap) (w : World) (Args : List Value), VRs ρ args Args → Rl w0 ρ H w →
    Calls P f (List.toArray Args) w fun e w' => ∃ V, e = .returned V ∧ VR ρ v V ∧ Rel ρ H w' ∧ Step ρ H w ρ H w'
theorem cfn_sound (hm : P.follows .mixedOrders = true) (hn : Named P) {ext : Nat → Option Ext} (hext : ExtOk P w0 ext) {n : Nat} {call : CallK} (hcall : CallOk P w0 call) : CallOk P w0 fun f args H k => (cfn P E ext f).f n call args H k := by
  intro f args H k h
  simp only at h
  unfold cfn at h
  split at h
  · rename_i e he
    obtain ⟨fn, v, h1, h2, h3, h4⟩ := hext f _ he args _ h
    refine ⟨fn, h1, h2, fun ρ w Args hA R => Calls.mono (h4 ρ H w Args hA R) fun e w' hR => ?_⟩
    obtain ⟨V, rfl, hv, r1, r2⟩ := hR
    exact ⟨ρ, H, ⟨r1, R.above.step r2⟩, r2, v, hv, h3⟩
  · split at h
    · rename_i fn hf
      split at h
      · rename_i c hb
        have hs := ccode_sound (w0 := w0) hm hn (es := E f) (nt := fn.ntmps) c
        have hres := fun ρ H w T a R I k => cresv_sound (P := P) (es := E f) (nt := fn.ntmps) (ρ := ρ) (H := H) (w := w) (T := T) (a := a) R I (fn := fn) (k := k)
        have hlv := fun (ρ0 : Valn) (H0 : Heap) (wstart : World) T a ds D u m ρ H w => leave_sound (E := E) (w0 := w0) hm hn (n := n) hcall (fn := fn) (es := E f) (T := T) (a := a) (k := k) (ρ0 := ρ0) (H0 := H0) (wstart := wstart) (ds := ds) (D := D) (u := u) (m := m) (ρ := ρ) (H := H) (w := w)
        generalize ccode P (E f) fn.ntmps c = cc at h hs
        generalize cresv P (E f) fn.results.toList = rr at h hres hlv
        obtain ⟨cc⟩ := cc
        obtain ⟨rr⟩ := rr
        cases hnt : Nat.ble (fn.params.size + fn.nfree) fn.ntmps with
        | false =>
          cases hdf : hasDefer c <;> (simp only [hdf, hnt, Bool.false_and] at h; exact absurd h Bool.false_ne_true)
        | true =>
          cases hes : esOk (fn.params.size + fn.nfree) 0 (E f) with
          | false => cases hdf : hasDefer c <;> (simp only [hdf, hnt, hes, Bool.and_false] at h; exact absurd h Bool.false_ne_true)
          | true =>
          cases hdf : hasDefer c with
          | false =>
            simp only [hdf, hnt, hes, Bool.and_true] at h
            obtain ⟨hlen, h1⟩ := lenC_inv h
            obtain ⟨T, h2, hd, hT⟩ := initT_inv h1
            refine ⟨fn, hf, by rw [hb]; rfl, fun ρ w Args hA R => calls_of_wp hf hb ?_⟩
            have I := start_TR hA (Nat.le_of_eq hlen) (ble_iff.1 hnt) hes hd hT
            refine hs n call ρ H w T _ _ _ _ hcall R I h2 ?_ ?_
            · intro ρ' H' T' a' w' q1 q2 q3 q4
              obtain ⟨g1, g2⟩ := noDs_inv q4
              obtain ⟨v, V, g3, g4, g5⟩ := hres ρ' H' w' T' a' q2.rel q1 _ g2
              exact ⟨q1.noDefers g1, V, g5, ρ', H', q2, q3, v, g4, g3⟩
            · intro ρ' H' T' a' w' x e q1 q2 q3 q4 q5
              cases x with
              | exit i => exact absurd q5 Bool.false_ne_true
              | ret =>
                simp only [XR] at q4
                subst q4
                obtain ⟨g1, g2⟩ := noDs_inv q5
                obtain ⟨v, V, g3, g4, g5⟩ := hres ρ' H' w' T' a' q2.rel q1 _ g2
                exact ⟨q1.noDefers g1, V, g5, ρ', H', q2, q3, v, g4, g3⟩
              | panic v =>
                simp only [XR] at q4
                obtain ⟨V, hv, rfl⟩ := q4
                obtain ⟨g1, g2⟩ := noDs_inv q5
                exact ⟨q1.noDefers g1, ρ', H', q2, q3, v, V, rfl, hv, g2⟩
          | true =>
            simp only [hdf, hnt, hes, Bool.and_true] at h
            obtain ⟨hlen, h1⟩ := lenC_inv h
            obtain ⟨T, h2, hd, hT⟩ := initT_inv h1
            refine ⟨fn, hf, by rw [hb]; rfl, fun ρ w Args hA R => calls_of_wp_defers hf hb ?_⟩
            have I := start_TR hA (Nat.le_of_eq hlen) (ble_iff.1 hnt) hes hd hT
            refine hs n call ρ H w T _ _ _ _ hcall R I h2 ?_ ?_
            · intro ρ' H' T' a' w' q1 q2 q3 q4
              exact hlv ρ H w T' a' T'.ds a'.defers .ret .returning ρ' H' w' q2 q3 q1 q1.defers rfl q4
            · intro ρ' H' T' a' w' x e q1 q2 q3 q4 q5
              cases x with
              | exit i => exact absurd q5 Bool.false_ne_true
              | ret =>
                simp only [XR] at q4
                subst q4
                exact hlv ρ H w T' a' T'.ds a'.defers .ret .returning ρ' H' w' q2 q3 q1 q1.defers rfl q5
              | panic v =>
                simp only [XR] at q4
                obtain ⟨V, hv, rfl⟩ := q4
                exact hlv ρ H w T' a' T'.ds a'.defers (.pan v false) _ ρ' H' w' q2 q3 q1 q1.defers ⟨V, hv, rfl⟩ q5
      · exact absurd h Bool.false_ne_true
    · exact absurd h Bool.false_ne_true
/-- **what the evaluator finds, a call does** -/
theorem callF_sound (hm : P.follows .mixedOrders = true) (hn : Named P) {ext : Nat → Option Ext} (hext : ExtOk P w0 ext) : ∀ n, CallOk P w0 (callF P E ext n)
  | 0 => fun f args H k h => absurd h Bool.false_ne_true
  | n + 1 => by
    have := cfn_sound (E := E) hm hn hext (n := n) (callF_sound hm hn hext n)
    unfold callF at this ⊢
    rw [callRec_succ]
    exact this
end
end Go.Ev
