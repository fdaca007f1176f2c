/- The order of modules in plain words: an order without an error is right, and put in order again it is itself; modules in the abstract heap; the contract of the dice. -/
import Derived.Test.YtehnkiaepkldiaaGreatDoorEvG
namespace Go.Sp
set_option linter.unusedVariables false

/-- a module, as far as an order looks at it: imports are names and least releases -/
structure Mod where
  kind : Nat
  name : Nat
  rel : Nat
  imps : List (Nat × Nat)
/-- the first place, counted from a number -/
def idxFrom {α : Type} (p : α → Bool) : Nat → List α → Option Nat
  | _, [] => none
  | i, a :: l => if p a = true then some i else idxFrom p (i + 1) l
def modOf (ms : List Mod) (nm : Nat) : Option Nat := idxFrom (fun m => m.name == nm) 0 ms
/-- what is wrong with imports; 'pre': those before -/
def impsBad (ms : List Mod) : List (Nat × Nat) → List (Nat × Nat) → Nat
  | _, [] => 0
  | pre, x :: l => if pre.any (fun y => y.1 == x.1) = true then 5 else match modOf ms x.1 with
    | none => 8
    | some a => match ms[a]? with
      | none => 0
      | some m => if m.kind = 2 then 8 else if m.rel < x.2 then 16 else impsBad ms (pre ++ [x]) l
def wrongM (ms : List Mod) (i : Nat) (m : Mod) : Nat := if (modOf ms m.name).getD 0 < i then 5 else impsBad ms [] m.imps
def checkAll (ms : List Mod) : Nat → List Mod → Nat
  | _, [] => 0
  | i, m :: l => if wrongM ms i m = 0 then checkAll ms (i + 1) l else wrongM ms i m
def readyM (placed : List Nat) (m : Mod) : Bool := !placed.contains m.name && m.imps.all fun x => placed.contains x.1
def placeLoop (ms : List Mod) : Nat → List Nat → List Nat → List Nat × Nat
  | 0, _, out => (out, 0)
  | n + 1, placed, out => if out.length < ms.length then match idxFrom (readyM placed) 0 ms with
    | none => ([], 8)
    | some k => match ms[k]? with
      | none => ([], 8)
      | some m => placeLoop ms n (placed ++ [m.name]) (out ++ [k])
    else (out, 0)
def orderM (ms : List Mod) : List Nat × Nat := if checkAll ms 0 ms = 0 then placeLoop ms (ms.length + 1) [] [] else ([], checkAll ms 0 ms)
/-- a module behind those that were put in order -/
def fitsIn (sorted : List Mod) (m : Mod) : Bool :=
  m.imps.all (fun x => match modOf sorted x.1 with
    | none => false
    | some k => match sorted[k]? with
      | none => false
      | some s => !decide (s.rel < x.2)) && (modOf sorted m.name).isNone
def sortedM (ms : List Mod) : List Nat → List Mod → Option (List Mod)
  | [], sorted => some sorted
  | i :: l, sorted => match ms[i]? with
    | none => none
    | some m => if fitsIn sorted m = true then sortedM ms l (sorted ++ [m]) else none

/-! ### first places -/
theorem idxFrom_some {α : Type} {p : α → Bool} : ∀ {l : List α} {i k : Nat}, idxFrom p i l = some k → i ≤ k ∧ ∃ a, l[k - i]? = some a ∧ p a = true ∧ ∀ j b, j < k - i → l[j]? = some b → p b = false
  | [], _, _, h => by simp [idxFrom] at h
  | a :: l, i, k, h => by
    unfold idxFrom at h
    split at h
    · rename_i hp
      cases h
      exact ⟨Nat.le_refl _, a, by simp, hp, fun j b hj => by omega⟩
    · rename_i hp
      obtain ⟨h1, b, h2, h3, h4⟩ := idxFrom_some h
      refine ⟨by omega, b, ?_, h3, ?_⟩
      · rw [show k - i = (k - (i + 1)) + 1 by omega]; simpa using h2
      · intro j c hj hc
        cases j with
        | zero => simp at hc; subst hc; simpa using hp
        | succ j => exact h4 j c (by omega) (by simpa using hc)
theorem idxFrom_none {α : Type} {p : α → Bool} : ∀ {l : List α} {i : Nat}, idxFrom p i l = none ↔ ∀ a ∈ l, p a = false
  | [], i => by simp [idxFrom]
  | a :: l, i => by
    unfold idxFrom
    by_cases hp : p a = true
    · simp [hp]
    · simp only [hp, Bool.false_eq_true, if_false]
      rw [idxFrom_none]
      simp at hp
      simp [hp]
theorem idxFrom_of {α : Type} {p : α → Bool} {l : List α} {k : Nat} {a : α} (h : l[k]? = some a) (hp : p a = true) (hn : ∀ j b, j < k → l[j]? = some b → p b = false) : idxFrom p 0 l = some k := by
  cases e : idxFrom p 0 l with
  | none =>
    have := (idxFrom_none.1 e) a (List.mem_of_getElem? h)
    rw [hp] at this; cases this
  | some j =>
    obtain ⟨_, b, h1, h2, h3⟩ := idxFrom_some e
    simp only [Nat.sub_zero] at h1 h3
    rcases Nat.lt_trichotomy j k with h4 | h4 | h4
    · have := hn j b h4 h1
      rw [h2] at this; cases this
    · rw [h4]
    · have := h3 k a h4 h
      rw [hp] at this; cases this
theorem modOf_some {ms : List Mod} {nm k : Nat} (h : modOf ms nm = some k) : ∃ m, ms[k]? = some m ∧ m.name = nm ∧ ∀ j b, j < k → ms[j]? = some b → b.name ≠ nm := by
  obtain ⟨_, m, h1, h2, h3⟩ := idxFrom_some h
  simp only [Nat.sub_zero] at h1 h3
  exact ⟨m, h1, by simpa using h2, fun j b hj hb e => by have := h3 j b hj hb; simp [e] at this⟩
theorem modOf_none {ms : List Mod} {nm : Nat} : modOf ms nm = none ↔ ∀ m ∈ ms, m.name ≠ nm := by
  unfold modOf
  rw [idxFrom_none]
  simp
theorem modOf_of {ms : List Mod} {k : Nat} {m : Mod} (h : ms[k]? = some m) (hn : ∀ j b, j < k → ms[j]? = some b → b.name ≠ m.name) : modOf ms m.name = some k :=
  idxFrom_of h (by simp) fun j b hj hb => by simpa using hn j b hj hb

/-! ### what a check without an error says -/
/-- names are there once -/
def Once (ms : List Mod) : Prop := ∀ (i j : Nat) (a b : Mod), ms[i]? = some a → ms[j]? = some b → a.name = b.name → i = j
/-- each import is there, no client, and new enough -/
def ImpsOk (ms : List Mod) (l : List (Nat × Nat)) : Prop := (∀ x ∈ l, ∃ m ∈ ms, m.name = x.1 ∧ m.kind ≠ 2 ∧ x.2 ≤ m.rel) ∧ l.Pairwise (fun x y => x.1 ≠ y.1)
theorem checkAll_zero {ms : List Mod} : ∀ {l : List Mod} {i : Nat}, checkAll ms i l = 0 → ∀ j m, l[j]? = some m → wrongM ms (i + j) m = 0
  | [], _, _, j, m, hm => by simp at hm
  | a :: l, i, h, j, m, hm => by
    unfold checkAll at h
    split at h
    · rename_i h0
      cases j with
      | zero => simp at hm; subst hm; simpa using h0
      | succ j =>
        have := checkAll_zero h j m (by simpa using hm)
        rwa [show i + 1 + j = i + (j + 1) by omega] at this
    · rename_i h0
      exact absurd h h0
theorem checkAll_of {ms : List Mod} : ∀ {l : List Mod} {i : Nat}, (∀ j m, l[j]? = some m → wrongM ms (i + j) m = 0) → checkAll ms i l = 0
  | [], _, _ => rfl
  | a :: l, i, h => by
    unfold checkAll
    rw [if_pos (by simpa using h 0 a (by simp))]
    exact checkAll_of fun j m hm => by
      have := h (j + 1) m (by simpa using hm)
      rwa [show i + (j + 1) = i + 1 + j by omega] at this
theorem impsBad_zero {ms : List Mod} : ∀ {l pre : List (Nat × Nat)}, impsBad ms pre l = 0 → (∀ x ∈ l, ∃ m ∈ ms, m.name = x.1 ∧ m.kind ≠ 2 ∧ x.2 ≤ m.rel) ∧ (∀ x ∈ l, ∀ y ∈ pre, y.1 ≠ x.1) ∧ l.Pairwise (fun x y => x.1 ≠ y.1)
  | [], _, _ => by simp
  | x :: l, pre, h => by
    unfold impsBad at h
    split at h
    · cases h
    · rename_i hp
      cases e : modOf ms x.1 with
      | none => rw [e] at h; cases h
      | some a =>
        rw [e] at h
        obtain ⟨m, h1, h2, _⟩ := modOf_some e
        simp only [h1] at h
        split at h
        · cases h
        · rename_i hk
          split at h
          · cases h
          · rename_i hr
            obtain ⟨h3, h4, h5⟩ := impsBad_zero h
            refine ⟨?_, ?_, ?_⟩
            · intro y hy
              cases hy with
              | head => exact ⟨m, List.mem_of_getElem? h1, h2, hk, by omega⟩
              | tail _ hy => exact h3 y hy
            · intro y hy z hz
              cases hy with
              | head =>
                intro e
                exact hp (List.any_eq_true.2 ⟨z, hz, by simpa using e⟩)
              | tail _ hy => exact h4 y hy z (by simp [hz])
            · refine List.Pairwise.cons ?_ h5
              intro y hy
              exact h4 y hy x (by simp)
theorem impsBad_of {ms : List Mod} (ho : Once ms) : ∀ {l pre : List (Nat × Nat)}, (∀ x ∈ l, ∃ m ∈ ms, m.name = x.1 ∧ m.kind ≠ 2 ∧ x.2 ≤ m.rel) → (∀ x ∈ l, ∀ y ∈ pre, y.1 ≠ x.1) → l.Pairwise (fun x y => x.1 ≠ y.1) → impsBad ms pre l = 0
  | [], _, _, _, _ => rfl
  | x :: l, pre, h1, h2, h3 => by
    unfold impsBad
    rw [if_neg]
    · obtain ⟨m, hm, e1, e2, e3⟩ := h1 x (by simp)
      obtain ⟨k, hk⟩ := List.mem_iff_getElem?.1 hm
      have : modOf ms x.1 = some k := by
        rw [← e1]
        exact modOf_of hk fun j b hj hb e => by have := ho j k b m hb hk e; omega
      simp only [this, hk]
      rw [if_neg e2, if_neg (by omega)]
      rw [List.pairwise_cons] at h3
      refine impsBad_of ho (fun y hy => h1 y (by simp [hy])) ?_ h3.2
      intro y hy z hz
      rcases List.mem_append.1 hz with hz | hz
      · exact h2 y (by simp [hy]) z hz
      · simp at hz; subst hz; exact h3.1 y hy
    · intro h
      obtain ⟨y, hy, e⟩ := List.any_eq_true.1 h
      exact h2 x (by simp) y hy (by simpa using e)
theorem check_once {ms : List Mod} (h : checkAll ms 0 ms = 0) : Once ms := by
  have key : ∀ (i j : Nat) (a b : Mod), i < j → ms[i]? = some a → ms[j]? = some b → a.name ≠ b.name := by
    intro i j a b hij ha hb e
    have hw := checkAll_zero h j b hb
    unfold wrongM at hw
    split at hw
    · cases hw
    · rename_i hn
      cases e1 : modOf ms b.name with
      | none => exact (modOf_none.1 e1) b (List.mem_of_getElem? hb) rfl
      | some k =>
        rw [e1] at hn
        obtain ⟨m, h1, h2, h3⟩ := modOf_some e1
        simp at hn
        exact h3 i a (by omega) ha e
  intro i j a b ha hb e
  rcases Nat.lt_trichotomy i j with h1 | h1 | h1
  · exact absurd e (key i j a b h1 ha hb)
  · exact h1
  · exact absurd e.symm (key j i b a h1 hb ha)
theorem check_imps {ms : List Mod} (h : checkAll ms 0 ms = 0) {m : Mod} (hm : m ∈ ms) : ImpsOk ms m.imps := by
  obtain ⟨k, hk⟩ := List.mem_iff_getElem?.1 hm
  have hw := checkAll_zero h k m hk
  unfold wrongM at hw
  split at hw
  · cases hw
  · obtain ⟨h1, _, h3⟩ := impsBad_zero hw
    exact ⟨h1, h3⟩
theorem check_of {ms : List Mod} (ho : Once ms) (hi : ∀ m ∈ ms, ImpsOk ms m.imps) : checkAll ms 0 ms = 0 := by
  refine checkAll_of fun j m hm => ?_
  unfold wrongM
  have : modOf ms m.name = some j := modOf_of hm fun i b hi hb e => by have := ho i j b m hb hm e; omega
  rw [this, if_neg (by simp)]
  obtain ⟨h1, h2⟩ := hi m (List.mem_of_getElem? hm)
  exact impsBad_of ho h1 (by simp) h2

/-! ### placing -/
/-- an order so far: 'sorted' are the modules that were placed -/
structure Placed (ms : List Mod) (placed out : List Nat) (sorted : List Mod) : Prop where
  names : placed = sorted.map (·.name)
  len : out.length = sorted.length
  run : sortedM ms out [] = some sorted
  sub : ∀ m ∈ sorted, m ∈ ms
  once : Once sorted
  imps : ∀ j m, sorted[j]? = some m → ∀ x ∈ m.imps, x.1 ∈ (sorted.take j).map (·.name)
theorem sortedM_append {ms : List Mod} : ∀ {l : List Nat} {s s' : List Mod} {k : Nat} {m : Mod}, sortedM ms l s = some s' → ms[k]? = some m → fitsIn s' m = true → sortedM ms (l ++ [k]) s = some (s' ++ [m])
  | [], s, s', k, m, h, hk, hf => by
    simp only [sortedM, Option.some.injEq] at h
    subst h
    simp [sortedM, hk, hf]
  | i :: l, s, s', k, m, h, hk, hf => by
    simp only [List.cons_append, sortedM] at h ⊢
    cases e : ms[i]? with
    | none => rw [e] at h; cases h
    | some a =>
      rw [e] at h
      simp only at h ⊢
      split at h
      · rename_i h0
        rw [if_pos h0]
        exact sortedM_append h hk hf
      · cases h
theorem Placed.step {ms : List Mod} (hc : checkAll ms 0 ms = 0) {placed out : List Nat} {sorted : List Mod} (h : Placed ms placed out sorted) {k : Nat} {m : Mod} (hk : ms[k]? = some m) (hr : readyM placed m = true) :
    Placed ms (placed ++ [m.name]) (out ++ [k]) (sorted ++ [m]) := by
  have ho := check_once hc
  have hm : m ∈ ms := List.mem_of_getElem? hk
  unfold readyM at hr
  simp only [Bool.and_eq_true, Bool.not_eq_true', List.all_eq_true] at hr
  obtain ⟨hr1, hr2⟩ := hr
  have hnew : m.name ∉ sorted.map (·.name) := by
    rw [← h.names]
    intro hmem
    rw [List.contains_iff_mem.2 hmem] at hr1
    cases hr1
  have hin : ∀ x ∈ m.imps, x.1 ∈ sorted.map (·.name) := by
    intro x hx
    rw [← h.names]
    exact List.contains_iff_mem.1 (hr2 x hx)
  refine ⟨by rw [h.names]; simp, by simp [h.len], ?_, ?_, ?_, ?_⟩
  · refine sortedM_append h.run hk ?_
    unfold fitsIn
    simp only [Bool.and_eq_true, List.all_eq_true, Option.isNone_iff_eq_none]
    refine ⟨?_, modOf_none.2 fun a ha e => hnew (List.mem_map.2 ⟨a, ha, e⟩)⟩
    intro x hx
    cases e : modOf sorted x.1 with
    | none =>
      obtain ⟨a, ha, e1⟩ := List.mem_map.1 (hin x hx)
      exact absurd e1 (modOf_none.1 e a ha)
    | some j =>
      obtain ⟨s, h1, h2, _⟩ := modOf_some e
      simp only [h1]
      obtain ⟨b, hb, e1, _, e3⟩ := (check_imps hc hm).1 x hx
      have : s = b := by
        obtain ⟨i1, g1⟩ := List.mem_iff_getElem?.1 (h.sub s (List.mem_of_getElem? h1))
        obtain ⟨i2, g2⟩ := List.mem_iff_getElem?.1 hb
        have := ho i1 i2 s b g1 g2 (by rw [h2, e1])
        subst this
        rw [g1] at g2
        exact Option.some.inj g2
      subst this
      simp; omega
  · intro a ha
    rcases List.mem_append.1 ha with ha | ha
    · exact h.sub a ha
    · simp at ha; subst ha; exact hm
  · intro i j a b ha hb e
    rw [List.getElem?_append] at ha hb
    split at ha <;> split at hb
    · exact h.once i j a b ha hb e
    · rename_i h1 h2
      have : b = m := by
        have := List.mem_of_getElem? hb
        simpa using this
      subst this
      exact absurd (List.mem_map.2 ⟨a, List.mem_of_getElem? ha, e⟩) hnew
    · rename_i h1 h2
      have : a = m := by
        have := List.mem_of_getElem? ha
        simpa using this
      subst this
      exact absurd (List.mem_map.2 ⟨b, List.mem_of_getElem? hb, e.symm⟩) hnew
    · rename_i h1 h2
      have h3 : i - sorted.length < 1 := by
        have := (List.getElem?_eq_some_iff.1 ha).1; simpa using this
      have h4 : j - sorted.length < 1 := by
        have := (List.getElem?_eq_some_iff.1 hb).1; simpa using this
      omega
  · intro j a ha x hx
    rw [List.getElem?_append] at ha
    split at ha
    · rename_i h1
      rw [List.take_append_of_le_length (by omega)]
      exact h.imps j a ha x hx
    · rename_i h1
      have h3 : j - sorted.length < 1 := by
        have := (List.getElem?_eq_some_iff.1 ha).1; simpa using this
      have hj : j = sorted.length := by omega
      subst hj
      simp at ha; subst ha
      rw [List.take_left]
      exact hin x hx
theorem Placed.nil (ms : List Mod) : Placed ms [] [] [] := ⟨rfl, rfl, rfl, by simp, fun i j a b h => by simp at h, fun j m h => by simp at h⟩
theorem placeLoop_placed {ms : List Mod} (hc : checkAll ms 0 ms = 0) : ∀ {n : Nat} {placed out : List Nat} {sorted : List Mod}, Placed ms placed out sorted → out.length ≤ ms.length → ms.length - out.length < n → ∀ {r}, placeLoop ms n placed out = (r, 0) →
    r.length = ms.length ∧ ∃ placed' sorted', Placed ms placed' r sorted'
  | 0, _, _, _, _, _, hn, _, _ => by omega
  | n + 1, placed, out, sorted, hp, hl, hn, r, h => by
    unfold placeLoop at h
    split at h
    · rename_i hlt
      cases e : idxFrom (readyM placed) 0 ms with
      | none => rw [e] at h; cases h
      | some k =>
        rw [e] at h
        obtain ⟨_, m, h1, h2, _⟩ := idxFrom_some e
        simp only [Nat.sub_zero] at h1
        simp only [h1] at h
        exact placeLoop_placed hc (hp.step hc h1 h2) (by simp; omega) (by simp; omega) h
    · cases h
      exact ⟨by omega, placed, sorted, hp⟩
theorem orderM_ok {ms : List Mod} {out : List Nat} (h : orderM ms = (out, 0)) : checkAll ms 0 ms = 0 ∧ out.length = ms.length ∧ ∃ placed sorted, Placed ms placed out sorted := by
  unfold orderM at h
  split at h
  · rename_i hc
    have := placeLoop_placed hc (Placed.nil ms) (by simp) (by simp) h
    exact ⟨hc, this.1, this.2⟩
  · rename_i hc
    exact absurd (congrArg Prod.snd h) hc
theorem orderM_bad {ms : List Mod} {out : List Nat} {e : Nat} (h : orderM ms = (out, e)) (he : e ≠ 0) : out = [] := by
  unfold orderM at h
  split at h
  · have key : ∀ n placed out r, placeLoop ms n placed out = (r, e) → r = [] := by
      intro n
      induction n with
      | zero => intro placed out r h; exact absurd (congrArg Prod.snd h).symm he
      | succ n ih =>
        intro placed out r h
        unfold placeLoop at h
        split at h
        · split at h
          · exact (congrArg Prod.fst h).symm
          · split at h
            · exact (congrArg Prod.fst h).symm
            · exact ih _ _ _ h
        · exact absurd (congrArg Prod.snd h).symm he
    exact key _ _ _ _ h
  · exact (congrArg Prod.fst h).symm
/-- placing what is in order already -/
theorem placeLoop_sorted {s : List Mod} (ho : Once s) (hi : ∀ j m, s[j]? = some m → ∀ x ∈ m.imps, x.1 ∈ (s.take j).map (·.name)) : ∀ (n j : Nat), j ≤ s.length → s.length - j < n →
    placeLoop s n ((s.take j).map (·.name)) (List.range j) = (List.range s.length, 0)
  | 0, _, _, hn => by omega
  | n + 1, j, hj, hn => by
    unfold placeLoop
    by_cases hlt : j < s.length
    · rw [if_pos (by simpa using hlt)]
      have hm : s[j]? = some s[j] := List.getElem?_eq_getElem hlt
      have hidx : idxFrom (readyM ((s.take j).map (·.name))) 0 s = some j := by
        refine idxFrom_of hm ?_ ?_
        · unfold readyM
          simp only [Bool.and_eq_true, Bool.not_eq_true', List.all_eq_true]
          refine ⟨?_, fun x hx => List.contains_iff_mem.2 (hi j _ hm x hx)⟩
          rw [Bool.eq_false_iff]
          intro h
          obtain ⟨b, hb, e⟩ := List.mem_map.1 (List.contains_iff_mem.1 h)
          obtain ⟨i, hi⟩ := List.mem_iff_getElem?.1 hb
          rw [List.getElem?_take] at hi
          split at hi
          · rename_i hij
            have := ho i j b _ hi hm e
            omega
          · cases hi
        · intro i b hij hb
          unfold readyM
          have : ((s.take j).map (·.name)).contains b.name = true := by
            refine List.contains_iff_mem.2 (List.mem_map.2 ⟨b, ?_, rfl⟩)
            refine List.mem_of_getElem? (i := i) ?_
            rw [List.getElem?_take, if_pos hij]; exact hb
          rw [this]; rfl
      rw [hidx]
      simp only [hm]
      have e1 : (s.take j).map (·.name) ++ [s[j].name] = (s.take (j + 1)).map (·.name) := by
        rw [List.take_add_one, hm]; rw [List.map_append]; rfl
      have e2 : List.range j ++ [j] = List.range (j + 1) := (List.range_succ).symm
      rw [e1, e2]
      exact placeLoop_sorted ho hi n (j + 1) (by omega) (by omega)
    · rw [if_neg (by simpa using hlt)]
      have : j = s.length := by omega
      rw [this]
theorem orderM_sorted {ms : List Mod} {out : List Nat} (h : orderM ms = (out, 0)) : out.length = ms.length ∧ ∃ sorted, sortedM ms out [] = some sorted ∧ sorted.length = ms.length ∧ orderM sorted = (List.range ms.length, 0) := by
  obtain ⟨hc, hl, placed, s, hp⟩ := orderM_ok h
  refine ⟨hl, s, hp.run, by rw [← hp.len, hl], ?_⟩
  have ho := check_once hc
  have hcs : checkAll s 0 s = 0 := by
    refine check_of hp.once fun m hm => ?_
    obtain ⟨h1, h2⟩ := check_imps hc (hp.sub m hm)
    refine ⟨fun x hx => ?_, h2⟩
    obtain ⟨j, hj⟩ := List.mem_iff_getElem?.1 hm
    obtain ⟨b, hb, e⟩ := List.mem_map.1 (hp.imps j m hj x hx)
    have hb' : b ∈ s := List.mem_of_mem_take hb
    obtain ⟨c, hc1, e1, e2, e3⟩ := h1 x hx
    have : b = c := by
      obtain ⟨i1, g1⟩ := List.mem_iff_getElem?.1 (hp.sub b hb')
      obtain ⟨i2, g2⟩ := List.mem_iff_getElem?.1 hc1
      have := ho i1 i2 b c g1 g2 (by rw [e, e1])
      subst this
      rw [g1] at g2
      exact Option.some.inj g2
    subst this
    exact ⟨b, hb', e1, e2, e3⟩
  unfold orderM
  rw [if_pos hcs]
  have := placeLoop_sorted hp.once hp.imps (s.length + 1) 0 (by omega) (by omega)
  simp only [List.take_zero, List.map_nil, List.range_zero] at this
  rw [this, show s.length = ms.length by rw [← hp.len, hl]]
end Go.Sp

namespace Go.Sp
open Go Go.Ev
set_option linter.unusedVariables false

/-! ### modules in the abstract heap -/
def Mod.fine (m : Mod) : Prop := m.kind < 4 ∧ m.name < 256 ∧ m.rel < 10 ∧ m.imps.length ≤ 2 ∧ ∀ x ∈ m.imps, x.1 < 256 ∧ x.2 < 10
def modRow (m : Mod) (iv : AV) : List AV := [.int 3 m.kind, .str 1 m.name, .int 3 m.rel, iv, .nil .s, .nil .s, .nil .s, .nil .s, .nil .s]
def impRow (x : Nat × Nat) : List AV := [.str 1 x.1, .int 3 x.2]
/-- imports: as a value in a heap -/
def ImpV (H : Heap) (v : AV) (l : List (Nat × Nat)) : Prop :=
  (v = .nil .s ∧ l = []) ∨ ∃ a rs n, v = .slice a 0 l.length 0 true 2 ∧ a < H.next ∧ H.get a = .cells rs n 2 41 true false ∧ l.length ≤ n ∧ n ≤ rs.cap ∧ ∀ j x, l[j]? = some x → rs.row j = impRow x
def EnvV (H : Heap) (v : AV) (ms : List Mod) : Prop :=
  (v = .nil .s ∧ ms = []) ∨ ∃ a rs, v = .slice a 0 ms.length 0 true 9 ∧ a < H.next ∧ H.get a = .cells rs ms.length 9 39 true false ∧ ms.length ≤ rs.cap ∧ ∀ j m, ms[j]? = some m → ∃ iv, rs.row j = modRow m iv ∧ ImpV H iv m.imps
def IntV (H : Heap) (v : AV) (l : List Nat) : Prop :=
  (v = .nil .s ∧ l = []) ∨ ∃ a rs, v = .slice a 0 l.length 0 true 1 ∧ a < H.next ∧ H.get a = .cells rs l.length 1 3 true false ∧ l.length ≤ rs.cap ∧ ∀ j x, l[j]? = some x → rs.row j = [.int 3 x]
theorem ImpV.ex {H H' : Heap} {d : Nat} {v : AV} {l : List (Nat × Nat)} (h : ImpV H v l) (e : Ex H H' d) : ImpV H' v l := by
  rcases h with h | ⟨a, rs, n, h1, h2, h3, h4⟩
  · exact .inl h
  · exact .inr ⟨a, rs, n, h1, Nat.lt_of_lt_of_le h2 e.next, (e.same a h2).trans h3, h4⟩
theorem EnvV.ex {H H' : Heap} {d : Nat} {v : AV} {ms : List Mod} (h : EnvV H v ms) (e : Ex H H' d) : EnvV H' v ms := by
  rcases h with h | ⟨a, rs, h1, h2, h3, h4, h5⟩
  · exact .inl h
  · refine .inr ⟨a, rs, h1, Nat.lt_of_lt_of_le h2 e.next, (e.same a h2).trans h3, h4, fun j m hm => ?_⟩
    obtain ⟨iv, g1, g2⟩ := h5 j m hm
    exact ⟨iv, g1, g2.ex e⟩
theorem IntV.ex {H H' : Heap} {d : Nat} {v : AV} {l : List Nat} (h : IntV H v l) (e : Ex H H' d) : IntV H' v l := by
  rcases h with h | ⟨a, rs, h1, h2, h3, h4⟩
  · exact .inl h
  · exact .inr ⟨a, rs, h1, Nat.lt_of_lt_of_le h2 e.next, (e.same a h2).trans h3, h4⟩
/-- a place, as the number that the code takes for it -/
def code : Option Nat → Nat
  | some i => i
  | none => 18446744073709551615
end Go.Sp

namespace Go.Sp
open Go Go.Ev
set_option linter.unusedVariables false
/-! ### the dice: what Next does, told by a contract -/
def diceO (V : Value) (el i : Nat) : AObj := .cells (.r0 [.opq V, .int 3 i]) 1 2 el false false
open Classical in
noncomputable def nextX (V : Value) (N el : Nat) : XExt := ⟨fun args H k => decide (∃ d n i, args = [.ptr d 0 0 2, .int 3 n] ∧ 0 < n ∧ n < 2147483648 ∧ d < 32768 ∧ H.get d = diceO V el i ∧ i ≤ N ∧
  ∀ r i', r < n → i' ≤ N → k (.int 3 r) (H.put d (diceO V el i')) = true)⟩
noncomputable def nextXs (V : Value) (N el iN : Nat) (f : Nat) : Option XExt := match Nat.beq f iN with
  | true => some (nextX V N el)
  | false => none
/-- what a walk of Next says -/
def NextWalk (P : Program) (w0 : World) (V : Value) (N el iN : Nat) : Prop :=
  ∀ (b i n : Nat) (w : World), w.heap[b]? = some (.cells #[V, .int .i64 i] el (0, 0)) → i ≤ N → (∀ j, j < w0.heap.size → w.heap[j]? = w0.heap[j]?) → w0.heap.size ≤ b → 0 < n → n < 2147483648 →
    Calls P iN #[.pointer (some ⟨b, 0, none⟩), .int .i64 n] w fun e w' => ∃ (r i' : Nat), r < n ∧ i' ≤ N ∧ e = .returned (.int .i64 r) ∧ w'.heap.size = w.heap.size ∧ (∀ k, k ≠ b → w'.heap[k]? = w.heap[k]?) ∧
      w'.heap[b]? = some (.cells #[V, .int .i64 i'] el (0, 0)) ∧ w'.tape = w.tape ∧ w'.os = w.os ∧ w'.output = w.output
theorem next_ok {P : Program} {w0 : World} {V : Value} {N el iN : Nat} (hN : N ≤ 100000) (hP : ∃ fn, P.funcs[iN]? = some fn ∧ fn.body.isSome = true) (hone : V.oneCell' = true ∧ V.cells = #[V]) (hwalk : NextWalk P w0 V N el iN) :
    XOk P w0 (nextXs V N el iN) := by
  intro f e he args H k h
  unfold nextXs at he
  split at he
  case h_2 => cases he
  rename_i hf
  have hf := beq_iff'.1 hf
  subst hf
  cases he
  obtain ⟨fn, hfn, hbody⟩ := hP
  refine ⟨fn, hfn, hbody, ?_⟩
  obtain ⟨d, n, i, rfl, hn0, hn, hd, hg, hi, hk⟩ := by classical exact of_decide_eq_true h
  intro ρ w Args hA R
  obtain ⟨A0, L0, rfl, a0, hA⟩ := hA.cons_inv
  obtain ⟨A1, L1, rfl, a1, hA⟩ := hA.cons_inv
  simp only [VRs] at hA
  subst hA
  simp only [VR] at a0 a1
  obtain ⟨b, κ, hb, rfl⟩ := a0
  obtain ⟨_, _, rfl⟩ := a1
  have es : sgn 3 n = (n : Int) := sgn_small (show n < 9223372036854775808 by omega)
  rw [es]
  have ho := R.rel.obj d hd
  rw [hg] at ho
  obtain ⟨b', κ', c, fz, o1, o2, o3, o4, o5, o6, o7⟩ := ho
  rw [hb] at o1
  cases o1
  have o3 := o3 rfl
  subst o3
  simp only [Bool.false_eq_true, if_false] at o7
  obtain ⟨X, x1, x2, x3, x4⟩ := o6 0 (by omega)
  obtain ⟨X0, L0, rfl, y0, x1⟩ := (show VRs ρ [.opq V, .int 3 i] X from x1).cons_inv
  obtain ⟨X1, L1, rfl, y1, x1⟩ := x1.cons_inv
  simp only [VRs] at x1
  subst x1
  simp only [VR] at y0 y1
  obtain ⟨rfl, _⟩ := y0
  obtain ⟨_, _, rfl⟩ := y1
  have es : sgn 3 i = (i : Int) := sgn_small (show i < 9223372036854775808 by omega)
  rw [es] at x4
  have hc : c = #[X0, .int .i64 (i : Int)] := by
    apply Array.ext'
    apply List.ext_getElem?
    intro j
    have hsz : c.toList.length = 2 := by simpa using o7
    by_cases hj : j < 2
    · have := x4 j hj
      simp only [Nat.zero_mul, Nat.zero_add] at this
      rw [Array.getElem?_toList, this]
      rfl
    · rw [List.getElem?_eq_none (by omega), List.getElem?_eq_none (by simp; omega)]
  subst hc
  have hge : w0.heap.size ≤ b := R.above.owns b ⟨d, hd, by rw [hg]; rfl, κ, hb⟩
  have hp : (Value.pointer (some ⟨b, 0 * 2 + 0, none⟩)) = .pointer (some ⟨b, 0, none⟩) := rfl
  rw [hp]
  refine (hwalk b i n w o2 hi (fun j hj => R.above.same j hj) hge hn0 hn).mono fun e w' hh => ?_
  obtain ⟨r, i', hr, hi', rfl, z1, z2, z3, z4, z5, z6⟩ := hh
  have hob : ObjR ρ w' d (diceO X0 el i') := by
    refine ⟨b, κ, _, (0, 0), hb, z3, fun _ => rfl, by omega, Nat.le_refl _, ?_, rfl⟩
    intro j hj
    have : j = 0 := by omega
    subst this
    refine ⟨[X0, .int .i64 (i' : Int)], VRs.cons (by simp only [VR]; exact ⟨trivial, hone⟩) (VRs.cons (VR_i64 (by omega)) VRs.nil), rfl, ?_, fun j hj => ?_⟩
    · intro x hx
      rcases List.mem_cons.1 hx with rfl | hx
      · rfl
      · rcases List.mem_cons.1 hx with rfl | hx
        · rfl
        · cases hx
    · rw [Nat.zero_mul, Nat.zero_add, ← Array.getElem?_toList]
  obtain ⟨k2, k3⟩ := put_rel R.rel hd (by rw [hg]; rfl) hb z1 z2 z4 z5 z6 hob
  exact ⟨_, ρ, .int 3 r, _, rfl, hk r i' hr hi', VR_i64 (by omega), k2, k3⟩
end Go.Sp
