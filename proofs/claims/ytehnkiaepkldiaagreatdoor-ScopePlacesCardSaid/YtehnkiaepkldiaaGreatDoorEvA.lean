/- The evaluator: abstract values, an abstract heap, and the code compiled to closures. This holds of every program of the model, at any numbering. -/
import Derived.Calls
import Derived.Orders
import GoSem.Dispatch
namespace Go.Ev
open Go
set_option linter.unusedVariables false
set_option linter.unusedSimpArgs false

/-! ### eight places -/
structure N8 (α : Type) where
  mk ::
  a0 : α
  a1 : α
  a2 : α
  a3 : α
  a4 : α
  a5 : α
  a6 : α
  a7 : α
inductive D8 where
  | d0 | d1 | d2 | d3 | d4 | d5 | d6 | d7
  deriving DecidableEq
def dig (n : Nat) : D8 :=
  match n with
  | 0 => .d0 | 1 => .d1 | 2 => .d2 | 3 => .d3 | 4 => .d4 | 5 => .d5 | 6 => .d6 | _ => .d7
def N8.get {α : Type} (t : N8 α) (d : D8) : α :=
  match d with
  | .d0 => t.a0 | .d1 => t.a1 | .d2 => t.a2 | .d3 => t.a3 | .d4 => t.a4 | .d5 => t.a5 | .d6 => t.a6 | .d7 => t.a7
def N8.set {α : Type} (t : N8 α) (d : D8) (v : α) : N8 α :=
  match d with
  | .d0 => ⟨v, t.a1, t.a2, t.a3, t.a4, t.a5, t.a6, t.a7⟩ | .d1 => ⟨t.a0, v, t.a2, t.a3, t.a4, t.a5, t.a6, t.a7⟩
  | .d2 => ⟨t.a0, t.a1, v, t.a3, t.a4, t.a5, t.a6, t.a7⟩ | .d3 => ⟨t.a0, t.a1, t.a2, v, t.a4, t.a5, t.a6, t.a7⟩
  | .d4 => ⟨t.a0, t.a1, t.a2, t.a3, v, t.a5, t.a6, t.a7⟩ | .d5 => ⟨t.a0, t.a1, t.a2, t.a3, t.a4, v, t.a6, t.a7⟩
  | .d6 => ⟨t.a0, t.a1, t.a2, t.a3, t.a4, t.a5, v, t.a7⟩ | .d7 => ⟨t.a0, t.a1, t.a2, t.a3, t.a4, t.a5, t.a6, v⟩
theorem N8.get_set {α : Type} (t : N8 α) (d d' : D8) (v : α) : (t.set d v).get d' = if d' = d then v else t.get d' := by
  cases d <;> cases d' <;> rfl
def N8.all {α : Type} (v : α) : N8 α := ⟨v, v, v, v, v, v, v, v⟩
theorem N8.get_all {α : Type} (v : α) (d : D8) : (N8.all v).get d = v := by cases d <;> rfl
/-- a place, as two functions: what stands there, and the turning of it -/
structure Sl (α : Type) where
  s : N8 α → α
  u : N8 α → (α → (α → Bool) → Bool) → (N8 α → Bool) → Bool

/-- kinds of nil -/
inductive NK where
  | p | s | m | f | i
  deriving DecidableEq
inductive AV where
  | undef
  | bool (b : Bool)
  | int (c n : Nat)
  | str (l n : Nat)
  | nil (c : NK)
  | ptr (a r s z : Nat)
  | slice (a i l c : Nat) (u : Bool) (z : Nat)
  | map (a : Nat)
  | fn (f : Nat) (x y : List AV)
  | iface (t : Nat) (v : AV)
  | agg (n : Nat) (l : List AV)
  | tup (l : List AV)
  | any
  /-- a number of kind c of which only its residue r by m is known -/
  | resid (c m r : Nat)
  /-- a value of one cell that is only handed on -/
  | opq (V : Value)
  deriving Inhabited
/-- a deferred call: the function, its arguments, what it captured -/
structure DC where
  f : Nat
  args : List AV
  cap : List AV
/-- a function's lasting temporaries, and its deferred calls -/
structure TT where
  mk ::
  b0 : N8 AV
  b1 : N8 AV
  b2 : N8 AV
  b3 : N8 AV
  b4 : N8 AV
  b5 : N8 AV
  b6 : N8 AV
  b7 : N8 AV
  ds : List DC
structure Slt where
  s : TT → N8 AV
  u : TT → (N8 AV → (N8 AV → Bool) → Bool) → (TT → Bool) → Bool

/-- the rows of an object -/
inductive Rows where
  | r0 (r : List AV)
  | r1 (t : N8 (List AV))
  | r2 (t : N8 (N8 (List AV)))
  | r3 (t : N8 (N8 (N8 (List AV))))
  /-- rows by a function, of any number -/
  | rf (g : Nat → List AV) (c : Nat)
inductive AObj where
  | none
  | dead
  | cells (rs : Rows) (n z : Nat) (el : Nat) (u ro : Bool)
  | map (es : List (AV × AV × Nat)) (clk : Nat)
abbrev H5 := N8 (N8 (N8 (N8 (N8 AObj))))
structure Heap where
  next : Nat
  t : H5
inductive Res where
  | val (v : AV)
  | pan (v : AV)
inductive X where
  | exit (id : Nat)
  | ret
  | panic (v : AV)
inductive U where
  | ret
  | pan (v : AV) (r : Bool)

def hid1 (b : Bool) : Bool := b
def hid2 (b : Bool) : Bool := hid1 b
/-- a step that stands above tests and numbers, so that what is compared unfolds it first -/
def hid3 (b : Bool) : Bool := hid2 b
noncomputable def sl {α : Type} (d : D8) : Sl α :=
  match d with
  | .d0 => ⟨fun t => t.a0, fun t f k => N8.rec (motive := fun _ => Bool) (fun a0 a1 a2 a3 a4 a5 a6 a7 => f a0 fun v => k ⟨v, a1, a2, a3, a4, a5, a6, a7⟩) t⟩
  | .d1 => ⟨fun t => t.a1, fun t f k => N8.rec (motive := fun _ => Bool) (fun a0 a1 a2 a3 a4 a5 a6 a7 => f a1 fun v => k ⟨a0, v, a2, a3, a4, a5, a6, a7⟩) t⟩
  | .d2 => ⟨fun t => t.a2, fun t f k => N8.rec (motive := fun _ => Bool) (fun a0 a1 a2 a3 a4 a5 a6 a7 => f a2 fun v => k ⟨a0, a1, v, a3, a4, a5, a6, a7⟩) t⟩
  | .d3 => ⟨fun t => t.a3, fun t f k => N8.rec (motive := fun _ => Bool) (fun a0 a1 a2 a3 a4 a5 a6 a7 => f a3 fun v => k ⟨a0, a1, a2, v, a4, a5, a6, a7⟩) t⟩
  | .d4 => ⟨fun t => t.a4, fun t f k => N8.rec (motive := fun _ => Bool) (fun a0 a1 a2 a3 a4 a5 a6 a7 => f a4 fun v => k ⟨a0, a1, a2, a3, v, a5, a6, a7⟩) t⟩
  | .d5 => ⟨fun t => t.a5, fun t f k => N8.rec (motive := fun _ => Bool) (fun a0 a1 a2 a3 a4 a5 a6 a7 => f a5 fun v => k ⟨a0, a1, a2, a3, a4, v, a6, a7⟩) t⟩
  | .d6 => ⟨fun t => t.a6, fun t f k => N8.rec (motive := fun _ => Bool) (fun a0 a1 a2 a3 a4 a5 a6 a7 => f a6 fun v => k ⟨a0, a1, a2, a3, a4, a5, v, a7⟩) t⟩
  | .d7 => ⟨fun t => t.a7, fun t f k => N8.rec (motive := fun _ => Bool) (fun a0 a1 a2 a3 a4 a5 a6 a7 => f a7 fun v => k ⟨a0, a1, a2, a3, a4, a5, a6, v⟩) t⟩
theorem sl_s {α : Type} (d : D8) (t : N8 α) : (sl d).s t = t.get d := by cases d <;> rfl
theorem sl_u {α : Type} (d : D8) (t : N8 α) (f : α → (α → Bool) → Bool) (k : N8 α → Bool) : (sl d).u t f k = f (t.get d) fun v => k (t.set d v) := by cases d <;> rfl
noncomputable def slt (d : D8) : Slt :=
  match d with
  | .d0 => ⟨fun t => t.b0, fun t f k => TT.rec (motive := fun _ => Bool) (fun a0 a1 a2 a3 a4 a5 a6 a7 ds => f a0 fun v => k ⟨v, a1, a2, a3, a4, a5, a6, a7, ds⟩) t⟩
  | .d1 => ⟨fun t => t.b1, fun t f k => TT.rec (motive := fun _ => Bool) (fun a0 a1 a2 a3 a4 a5 a6 a7 ds => f a1 fun v => k ⟨a0, v, a2, a3, a4, a5, a6, a7, ds⟩) t⟩
  | .d2 => ⟨fun t => t.b2, fun t f k => TT.rec (motive := fun _ => Bool) (fun a0 a1 a2 a3 a4 a5 a6 a7 ds => f a2 fun v => k ⟨a0, a1, v, a3, a4, a5, a6, a7, ds⟩) t⟩
  | .d3 => ⟨fun t => t.b3, fun t f k => TT.rec (motive := fun _ => Bool) (fun a0 a1 a2 a3 a4 a5 a6 a7 ds => f a3 fun v => k ⟨a0, a1, a2, v, a4, a5, a6, a7, ds⟩) t⟩
  | .d4 => ⟨fun t => t.b4, fun t f k => TT.rec (motive := fun _ => Bool) (fun a0 a1 a2 a3 a4 a5 a6 a7 ds => f a4 fun v => k ⟨a0, a1, a2, a3, v, a5, a6, a7, ds⟩) t⟩
  | .d5 => ⟨fun t => t.b5, fun t f k => TT.rec (motive := fun _ => Bool) (fun a0 a1 a2 a3 a4 a5 a6 a7 ds => f a5 fun v => k ⟨a0, a1, a2, a3, a4, v, a6, a7, ds⟩) t⟩
  | .d6 => ⟨fun t => t.b6, fun t f k => TT.rec (motive := fun _ => Bool) (fun a0 a1 a2 a3 a4 a5 a6 a7 ds => f a6 fun v => k ⟨a0, a1, a2, a3, a4, a5, v, a7, ds⟩) t⟩
  | .d7 => ⟨fun t => t.b7, fun t f k => TT.rec (motive := fun _ => Bool) (fun a0 a1 a2 a3 a4 a5 a6 a7 ds => f a7 fun v => k ⟨a0, a1, a2, a3, a4, a5, a6, v, ds⟩) t⟩
noncomputable def forceNat (n : Nat) (k : Nat → Bool) : Bool := Nat.rec (motive := fun _ => Bool) (k 0) (fun m _ => k (Nat.succ m)) n
@[simp] theorem forceNat_eq (n : Nat) (k : Nat → Bool) : forceNat n k = k n := by cases n <;> rfl
noncomputable def bIf (b x y : Bool) : Bool := Bool.rec (motive := fun _ => Bool) y x b
@[simp] theorem bIf_true (x y : Bool) : bIf true x y = x := rfl
@[simp] theorem bIf_false (x y : Bool) : bIf false x y = y := rfl
theorem bIf_inv {b x y : Bool} (h : bIf b x y = true) : (b = true ∧ x = true) ∨ (b = false ∧ y = true) := by cases b <;> simp_all
noncomputable def forceB (b : Bool) (k : Bool → Bool) : Bool := Bool.rec (motive := fun _ => Bool) (k false) (k true) b
@[simp] theorem forceB_eq (b : Bool) (k : Bool → Bool) : forceB b k = k b := by cases b <;> rfl
noncomputable def hd (l : List AV) : AV := List.rec (motive := fun _ => AV) .any (fun a _ _ => a) l
@[simp] theorem hd_cons (a : AV) (l : List AV) : hd (a :: l) = a := rfl
@[simp] theorem hd_nil : hd [] = .any := rfl
noncomputable def tl (l : List AV) : List AV := List.rec (motive := fun _ => List AV) [] (fun _ l _ => l) l
@[simp] theorem tl_cons (a : AV) (l : List AV) : tl (a :: l) = l := rfl
@[simp] theorem tl_nil : tl [] = [] := rfl
noncomputable def idxF (t : Nat) (l : List Nat) : Nat → Option Nat := List.rec (motive := fun _ => Nat → Option Nat) (fun _ => none) (fun a _ ih i => Bool.rec (motive := fun _ => Option Nat) (ih (Nat.succ i)) (some i) (Nat.beq a t)) l
theorem idxF_nil (t i : Nat) : idxF t [] i = none := rfl
theorem idxF_yes {t a : Nat} (l : List Nat) (i : Nat) (h : Nat.beq a t = true) : idxF t (a :: l) i = some i := by simp only [idxF, h]
theorem idxF_no {t a : Nat} (l : List Nat) (i : Nat) (h : Nat.beq a t = false) : idxF t (a :: l) i = idxF t l (Nat.succ i) := by simp only [idxF, h]
noncomputable def uncons {α : Type} (l : List α) (e : Bool) (k : α → List α → Bool) : Bool := List.rec (motive := fun _ => Bool) e (fun a l _ => k a l) l
@[simp] theorem uncons_cons {α : Type} (a : α) (l : List α) (e : Bool) (k : α → List α → Bool) : uncons (a :: l) e k = k a l := rfl
@[simp] theorem uncons_nil {α : Type} (e : Bool) (k : α → List α → Bool) : uncons [] e k = e := rfl
noncomputable def nkP (c : NK) (k : Bool) : Bool := NK.rec (motive := fun _ => Bool) k false false false false c
noncomputable def nkS (c : NK) (k : Bool) : Bool := NK.rec (motive := fun _ => Bool) false k false false false c
noncomputable def nkM (c : NK) (k : Bool) : Bool := NK.rec (motive := fun _ => Bool) false false k false false c
noncomputable def nkF (c : NK) (k : Bool) : Bool := NK.rec (motive := fun _ => Bool) false false false k false c
noncomputable def nkI (c : NK) (k : Bool) : Bool := NK.rec (motive := fun _ => Bool) false false false false k c
noncomputable def vInt (v : AV) (k : Nat → Nat → Bool) : Bool := hid3 (AV.rec (motive_1 := fun _ => Bool) (motive_2 := fun _ => Bool) (false) (fun _ => false) (fun c n => k c n) (fun _ _ => false) (fun _ => false) (fun _ _ _ _ => false) (fun _ _ _ _ _ _ => false) (fun _ => false) (fun _ _ _ _ _ => false) (fun _ _ _ => false) (fun _ _ _ => false) (fun _ _ => false) (false) (fun _ _ _ => false) (fun _ => false) false (fun _ _ _ _ => false) v)
theorem vInt_inv {v : AV} {k : Nat → Nat → Bool} (h : vInt v k = true) : ∃ c n, v = .int c n ∧ k c n = true := by cases v <;> first | (exact absurd h Bool.false_ne_true) | (simp [vInt, hid3, hid2, hid1] at h ⊢; done) | (first | exact ⟨_, rfl, h⟩ | exact ⟨_, _, rfl, h⟩ | exact ⟨_, _, _, _, rfl, h⟩ | exact ⟨_, _, _, _, _, _, rfl, h⟩ | exact ⟨_, _, _, rfl, h⟩)
noncomputable def vIntR (v : AV) (k : Nat → Nat → Bool) (kr : Nat → Nat → Nat → Bool) : Bool := hid3 (AV.rec (motive_1 := fun _ => Bool) (motive_2 := fun _ => Bool) (false) (fun _ => false) (fun c n => k c n) (fun _ _ => false) (fun _ => false) (fun _ _ _ _ => false) (fun _ _ _ _ _ _ => false) (fun _ => false) (fun _ _ _ _ _ => false) (fun _ _ _ => false) (fun _ _ _ => false) (fun _ _ => false) (false) (fun c m r => kr c m r) (fun _ => false) false (fun _ _ _ _ => false) v)
theorem vIntR_inv {v : AV} {k : Nat → Nat → Bool} {kr : Nat → Nat → Nat → Bool} (h : vIntR v k kr = true) : (∃ c n, v = .int c n ∧ k c n = true) ∨ (∃ c m r, v = .resid c m r ∧ kr c m r = true) := by cases v <;> first | (exact absurd h Bool.false_ne_true) | exact .inl ⟨_, _, rfl, h⟩ | exact .inr ⟨_, _, _, rfl, h⟩
noncomputable def vBool (v : AV) (k : Bool → Bool) : Bool := hid3 (AV.rec (motive_1 := fun _ => Bool) (motive_2 := fun _ => Bool) (false) (fun b => k b) (fun _ _ => false) (fun _ _ => false) (fun _ => false) (fun _ _ _ _ => false) (fun _ _ _ _ _ _ => false) (fun _ => false) (fun _ _ _ _ _ => false) (fun _ _ _ => false) (fun _ _ _ => false) (fun _ _ => false) (false) (fun _ _ _ => false) (fun _ => false) false (fun _ _ _ _ => false) v)
theorem vBool_inv {v : AV} {k : Bool → Bool} (h : vBool v k = true) : ∃ b, v = .bool b ∧ k b = true := by cases v <;> first | (exact absurd h Bool.false_ne_true) | (simp [vBool, hid3, hid2, hid1] at h ⊢; done) | (first | exact ⟨_, rfl, h⟩ | exact ⟨_, _, rfl, h⟩ | exact ⟨_, _, _, _, rfl, h⟩ | exact ⟨_, _, _, _, _, _, rfl, h⟩ | exact ⟨_, _, _, rfl, h⟩)
noncomputable def vStr (v : AV) (k : Nat → Nat → Bool) : Bool := hid3 (AV.rec (motive_1 := fun _ => Bool) (motive_2 := fun _ => Bool) (false) (fun _ => false) (fun _ _ => false) (fun l n => k l n) (fun _ => false) (fun _ _ _ _ => false) (fun _ _ _ _ _ _ => false) (fun _ => false) (fun _ _ _ _ _ => false) (fun _ _ _ => false) (fun _ _ _ => false) (fun _ _ => false) (false) (fun _ _ _ => false) (fun _ => false) false (fun _ _ _ _ => false) v)
theorem vStr_inv {v : AV} {k : Nat → Nat → Bool} (h : vStr v k = true) : ∃ l n, v = .str l n ∧ k l n = true := by cases v <;> first | (exact absurd h Bool.false_ne_true) | (simp [vStr, hid3, hid2, hid1] at h ⊢; done) | (first | exact ⟨_, rfl, h⟩ | exact ⟨_, _, rfl, h⟩ | exact ⟨_, _, _, _, rfl, h⟩ | exact ⟨_, _, _, _, _, _, rfl, h⟩ | exact ⟨_, _, _, rfl, h⟩)
noncomputable def vPtr (v : AV) (k : Nat → Nat → Nat → Nat → Bool) : Bool := hid3 (AV.rec (motive_1 := fun _ => Bool) (motive_2 := fun _ => Bool) (false) (fun _ => false) (fun _ _ => false) (fun _ _ => false) (fun _ => false) (fun a r s z => k a r s z) (fun _ _ _ _ _ _ => false) (fun _ => false) (fun _ _ _ _ _ => false) (fun _ _ _ => false) (fun _ _ _ => false) (fun _ _ => false) (false) (fun _ _ _ => false) (fun _ => false) false (fun _ _ _ _ => false) v)
theorem vPtr_inv {v : AV} {k : Nat → Nat → Nat → Nat → Bool} (h : vPtr v k = true) : ∃ a r s z, v = .ptr a r s z ∧ k a r s z = true := by cases v <;> first | (exact absurd h Bool.false_ne_true) | (simp [vPtr, hid3, hid2, hid1] at h ⊢; done) | (first | exact ⟨_, rfl, h⟩ | exact ⟨_, _, rfl, h⟩ | exact ⟨_, _, _, _, rfl, h⟩ | exact ⟨_, _, _, _, _, _, rfl, h⟩ | exact ⟨_, _, _, rfl, h⟩)
noncomputable def vSlice (v : AV) (k : Nat → Nat → Nat → Nat → Bool → Nat → Bool) : Bool := hid3 (AV.rec (motive_1 := fun _ => Bool) (motive_2 := fun _ => Bool) (false) (fun _ => false) (fun _ _ => false) (fun _ _ => false) (fun _ => false) (fun _ _ _ _ => false) (fun a i l c u z => k a i l c u z) (fun _ => false) (fun _ _ _ _ _ => false) (fun _ _ _ => false) (fun _ _ _ => false) (fun _ _ => false) (false) (fun _ _ _ => false) (fun _ => false) false (fun _ _ _ _ => false) v)
theorem vSlice_inv {v : AV} {k : Nat → Nat → Nat → Nat → Bool → Nat → Bool} (h : vSlice v k = true) : ∃ a i l c u z, v = .slice a i l c u z ∧ k a i l c u z = true := by cases v <;> first | (exact absurd h Bool.false_ne_true) | (simp [vSlice, hid3, hid2, hid1] at h ⊢; done) | (first | exact ⟨_, rfl, h⟩ | exact ⟨_, _, rfl, h⟩ | exact ⟨_, _, _, _, rfl, h⟩ | exact ⟨_, _, _, _, _, _, rfl, h⟩ | exact ⟨_, _, _, rfl, h⟩)
noncomputable def vSliceN (v : AV) (k0 : Bool) (k : Nat → Nat → Nat → Nat → Bool → Nat → Bool) : Bool := hid3 (AV.rec (motive_1 := fun _ => Bool) (motive_2 := fun _ => Bool) (false) (fun _ => false) (fun _ _ => false) (fun _ _ => false) (fun c => nkS c k0) (fun _ _ _ _ => false) (fun a i l c u z => k a i l c u z) (fun _ => false) (fun _ _ _ _ _ => false) (fun _ _ _ => false) (fun _ _ _ => false) (fun _ _ => false) (false) (fun _ _ _ => false) (fun _ => false) false (fun _ _ _ _ => false) v)
theorem vSliceN_inv {v : AV} {k0 : Bool} {k : Nat → Nat → Nat → Nat → Bool → Nat → Bool} (h : vSliceN v k0 k = true) : (v = .nil .s ∧ k0 = true) ∨ (∃ a i l c u z, v = .slice a i l c u z ∧ k a i l c u z = true) := by cases v <;> first | (exact absurd h Bool.false_ne_true) | (rename_i c; cases c <;> first | (exact absurd h Bool.false_ne_true) | exact .inl ⟨rfl, h⟩) | exact .inr ⟨_, _, _, _, _, _, rfl, h⟩
noncomputable def vMap (v : AV) (k : Nat → Bool) : Bool := hid3 (AV.rec (motive_1 := fun _ => Bool) (motive_2 := fun _ => Bool) (false) (fun _ => false) (fun _ _ => false) (fun _ _ => false) (fun _ => false) (fun _ _ _ _ => false) (fun _ _ _ _ _ _ => false) (fun a => k a) (fun _ _ _ _ _ => false) (fun _ _ _ => false) (fun _ _ _ => false) (fun _ _ => false) (false) (fun _ _ _ => false) (fun _ => false) false (fun _ _ _ _ => false) v)
theorem vMap_inv {v : AV} {k : Nat → Bool} (h : vMap v k = true) : ∃ a, v = .map a ∧ k a = true := by cases v <;> first | (exact absurd h Bool.false_ne_true) | (simp [vMap, hid3, hid2, hid1] at h ⊢; done) | (first | exact ⟨_, rfl, h⟩ | exact ⟨_, _, rfl, h⟩ | exact ⟨_, _, _, _, rfl, h⟩ | exact ⟨_, _, _, _, _, _, rfl, h⟩ | exact ⟨_, _, _, rfl, h⟩)
noncomputable def vFn (v : AV) (k : Nat → List AV → List AV → Bool) : Bool := hid3 (AV.rec (motive_1 := fun _ => Bool) (motive_2 := fun _ => Bool) (false) (fun _ => false) (fun _ _ => false) (fun _ _ => false) (fun _ => false) (fun _ _ _ _ => false) (fun _ _ _ _ _ _ => false) (fun _ => false) (fun f x y _ _ => k f x y) (fun _ _ _ => false) (fun _ _ _ => false) (fun _ _ => false) (false) (fun _ _ _ => false) (fun _ => false) false (fun _ _ _ _ => false) v)
theorem vFn_inv {v : AV} {k : Nat → List AV → List AV → Bool} (h : vFn v k = true) : ∃ f x y, v = .fn f x y ∧ k f x y = true := by cases v <;> first | (exact absurd h Bool.false_ne_true) | (simp [vFn, hid3, hid2, hid1] at h ⊢; done) | (first | exact ⟨_, rfl, h⟩ | exact ⟨_, _, rfl, h⟩ | exact ⟨_, _, _, _, rfl, h⟩ | exact ⟨_, _, _, _, _, _, rfl, h⟩ | exact ⟨_, _, _, rfl, h⟩)
noncomputable def vIface (v : AV) (k : Nat → AV → Bool) : Bool := hid3 (AV.rec (motive_1 := fun _ => Bool) (motive_2 := fun _ => Bool) (false) (fun _ => false) (fun _ _ => false) (fun _ _ => false) (fun _ => false) (fun _ _ _ _ => false) (fun _ _ _ _ _ _ => false) (fun _ => false) (fun _ _ _ _ _ => false) (fun t v _ => k t v) (fun _ _ _ => false) (fun _ _ => false) (false) (fun _ _ _ => false) (fun _ => false) false (fun _ _ _ _ => false) v)
theorem vIface_inv {v : AV} {k : Nat → AV → Bool} (h : vIface v k = true) : ∃ t x, v = .iface t x ∧ k t x = true := by cases v <;> first | (exact absurd h Bool.false_ne_true) | exact ⟨_, _, rfl, h⟩
noncomputable def vIfaceN (v : AV) (k0 : Bool) (k : Nat → AV → Bool) : Bool := hid3 (AV.rec (motive_1 := fun _ => Bool) (motive_2 := fun _ => Bool) (false) (fun _ => false) (fun _ _ => false) (fun _ _ => false) (fun c => nkI c k0) (fun _ _ _ _ => false) (fun _ _ _ _ _ _ => false) (fun _ => false) (fun _ _ _ _ _ => false) (fun t v _ => k t v) (fun _ _ _ => false) (fun _ _ => false) (false) (fun _ _ _ => false) (fun _ => false) false (fun _ _ _ _ => false) v)
theorem vIfaceN_inv {v : AV} {k0 : Bool} {k : Nat → AV → Bool} (h : vIfaceN v k0 k = true) : (v = .nil .i ∧ k0 = true) ∨ (∃ t x, v = .iface t x ∧ k t x = true) := by cases v <;> first | (exact absurd h Bool.false_ne_true) | (rename_i c; cases c <;> first | (exact absurd h Bool.false_ne_true) | exact .inl ⟨rfl, h⟩) | exact .inr ⟨_, _, rfl, h⟩
noncomputable def vAgg (v : AV) (k : Nat → List AV → Bool) : Bool := hid3 (AV.rec (motive_1 := fun _ => Bool) (motive_2 := fun _ => Bool) (false) (fun _ => false) (fun _ _ => false) (fun _ _ => false) (fun _ => false) (fun _ _ _ _ => false) (fun _ _ _ _ _ _ => false) (fun _ => false) (fun _ _ _ _ _ => false) (fun _ _ _ => false) (fun n l _ => k n l) (fun _ _ => false) (false) (fun _ _ _ => false) (fun _ => false) false (fun _ _ _ _ => false) v)
theorem vAgg_inv {v : AV} {k : Nat → List AV → Bool} (h : vAgg v k = true) : ∃ n l, v = .agg n l ∧ k n l = true := by cases v <;> first | (exact absurd h Bool.false_ne_true) | (simp [vAgg, hid3, hid2, hid1] at h ⊢; done) | (first | exact ⟨_, rfl, h⟩ | exact ⟨_, _, rfl, h⟩ | exact ⟨_, _, _, _, rfl, h⟩ | exact ⟨_, _, _, _, _, _, rfl, h⟩ | exact ⟨_, _, _, rfl, h⟩)
noncomputable def vTup (v : AV) (k : List AV → Bool) : Bool := hid3 (AV.rec (motive_1 := fun _ => Bool) (motive_2 := fun _ => Bool) (false) (fun _ => false) (fun _ _ => false) (fun _ _ => false) (fun _ => false) (fun _ _ _ _ => false) (fun _ _ _ _ _ _ => false) (fun _ => false) (fun _ _ _ _ _ => false) (fun _ _ _ => false) (fun _ _ _ => false) (fun l _ => k l) (false) (fun _ _ _ => false) (fun _ => false) false (fun _ _ _ _ => false) v)
theorem vTup_inv {v : AV} {k : List AV → Bool} (h : vTup v k = true) : ∃ l, v = .tup l ∧ k l = true := by cases v <;> first | (exact absurd h Bool.false_ne_true) | (simp [vTup, hid3, hid2, hid1] at h ⊢; done) | (first | exact ⟨_, rfl, h⟩ | exact ⟨_, _, rfl, h⟩ | exact ⟨_, _, _, _, rfl, h⟩ | exact ⟨_, _, _, _, _, _, rfl, h⟩ | exact ⟨_, _, _, rfl, h⟩)
noncomputable def vCell (v : AV) (kc : Bool) (ka : Nat → List AV → Bool) : Bool := hid3 (AV.rec (motive_1 := fun _ => Bool) (motive_2 := fun _ => Bool) (false) (fun b => kc) (fun c n => kc) (fun l n => kc) (fun c => kc) (fun a r s z => kc) (fun a i l c u z => kc) (fun a => kc) (fun f x y _ _ => kc) (fun t v _ => kc) (fun n l _ => ka n l) (fun _ _ => false) (false) (fun _ _ _ => false) (fun V => kc) false (fun _ _ _ _ => false) v)
def AV.isCell : AV → Bool
  | .agg _ _ | .tup _ | .undef | .any | .resid _ _ _ => false
  | _ => true
theorem vCell_inv {v : AV} {kc : Bool} {ka : Nat → List AV → Bool} (h : vCell v kc ka = true) : (v.isCell = true ∧ kc = true) ∨ (∃ n l, v = .agg n l ∧ ka n l = true) := by cases v <;> first | (exact absurd h Bool.false_ne_true) | exact .inl ⟨rfl, h⟩ | exact .inr ⟨_, _, rfl, h⟩
noncomputable def vGuard (v : AV) (kb : Bool → Bool) (ku : Bool) : Bool := hid3 (AV.rec (motive_1 := fun _ => Bool) (motive_2 := fun _ => Bool) (ku) (fun b => kb b) (fun _ _ => false) (fun _ _ => false) (fun _ => false) (fun _ _ _ _ => false) (fun _ _ _ _ _ _ => false) (fun _ => false) (fun _ _ _ _ _ => false) (fun _ _ _ => false) (fun _ _ _ => false) (fun _ _ => false) (false) (fun _ _ _ => false) (fun _ => false) false (fun _ _ _ _ => false) v)
theorem vGuard_inv {v : AV} {kb : Bool → Bool} {ku : Bool} (h : vGuard v kb ku = true) : (∃ b, v = .bool b ∧ kb b = true) ∨ (v = .undef ∧ ku = true) := by cases v <;> first | (exact absurd h Bool.false_ne_true) | exact .inl ⟨_, rfl, h⟩ | exact .inr ⟨rfl, h⟩
noncomputable def vNilP (v : AV) (kt kf : Bool) : Bool := hid3 (AV.rec (motive_1 := fun _ => Bool) (motive_2 := fun _ => Bool) (false) (fun _ => false) (fun _ _ => false) (fun _ _ => false) (fun c => nkP c kt) (fun a r s z => kf) (fun _ _ _ _ _ _ => false) (fun _ => false) (fun _ _ _ _ _ => false) (fun _ _ _ => false) (fun _ _ _ => false) (fun _ _ => false) (false) (fun _ _ _ => false) (fun _ => false) false (fun _ _ _ _ => false) v)
theorem vNilP_inv {v : AV} {kt kf : Bool} (h : vNilP v kt kf = true) : (v = .nil .p ∧ kt = true) ∨ ((∃ x0 x1 x2 x3, v = .ptr x0 x1 x2 x3) ∧ kf = true) := by cases v <;> first | (exact absurd h Bool.false_ne_true) | (rename_i c; cases c <;> first | (exact absurd h Bool.false_ne_true) | exact .inl ⟨rfl, h⟩) | exact .inr ⟨⟨_, _, _, _, rfl⟩, h⟩
noncomputable def vNilS (v : AV) (kt kf : Bool) : Bool := hid3 (AV.rec (motive_1 := fun _ => Bool) (motive_2 := fun _ => Bool) (false) (fun _ => false) (fun _ _ => false) (fun _ _ => false) (fun c => nkS c kt) (fun _ _ _ _ => false) (fun a i l c u z => kf) (fun _ => false) (fun _ _ _ _ _ => false) (fun _ _ _ => false) (fun _ _ _ => false) (fun _ _ => false) (false) (fun _ _ _ => false) (fun _ => false) false (fun _ _ _ _ => false) v)
theorem vNilS_inv {v : AV} {kt kf : Bool} (h : vNilS v kt kf = true) : (v = .nil .s ∧ kt = true) ∨ ((∃ x0 x1 x2 x3 x4 x5, v = .slice x0 x1 x2 x3 x4 x5) ∧ kf = true) := by cases v <;> first | (exact absurd h Bool.false_ne_true) | (rename_i c; cases c <;> first | (exact absurd h Bool.false_ne_true) | exact .inl ⟨rfl, h⟩) | exact .inr ⟨⟨_, _, _, _, _, _, rfl⟩, h⟩
noncomputable def vNilM (v : AV) (kt kf : Bool) : Bool := hid3 (AV.rec (motive_1 := fun _ => Bool) (motive_2 := fun _ => Bool) (false) (fun _ => false) (fun _ _ => false) (fun _ _ => false) (fun c => nkM c kt) (fun _ _ _ _ => false) (fun _ _ _ _ _ _ => false) (fun a => kf) (fun _ _ _ _ _ => false) (fun _ _ _ => false) (fun _ _ _ => false) (fun _ _ => false) (false) (fun _ _ _ => false) (fun _ => false) false (fun _ _ _ _ => false) v)
theorem vNilM_inv {v : AV} {kt kf : Bool} (h : vNilM v kt kf = true) : (v = .nil .m ∧ kt = true) ∨ ((∃ x0, v = .map x0) ∧ kf = true) := by cases v <;> first | (exact absurd h Bool.false_ne_true) | (rename_i c; cases c <;> first | (exact absurd h Bool.false_ne_true) | exact .inl ⟨rfl, h⟩) | exact .inr ⟨⟨_, rfl⟩, h⟩
noncomputable def vNilF (v : AV) (kt kf : Bool) : Bool := hid3 (AV.rec (motive_1 := fun _ => Bool) (motive_2 := fun _ => Bool) (false) (fun _ => false) (fun _ _ => false) (fun _ _ => false) (fun c => nkF c kt) (fun _ _ _ _ => false) (fun _ _ _ _ _ _ => false) (fun _ => false) (fun f x y _ _ => kf) (fun _ _ _ => false) (fun _ _ _ => false) (fun _ _ => false) (false) (fun _ _ _ => false) (fun _ => false) false (fun _ _ _ _ => false) v)
theorem vNilF_inv {v : AV} {kt kf : Bool} (h : vNilF v kt kf = true) : (v = .nil .f ∧ kt = true) ∨ ((∃ x0 x1 x2, v = .fn x0 x1 x2) ∧ kf = true) := by cases v <;> first | (exact absurd h Bool.false_ne_true) | (rename_i c; cases c <;> first | (exact absurd h Bool.false_ne_true) | exact .inl ⟨rfl, h⟩) | exact .inr ⟨⟨_, _, _, rfl⟩, h⟩
noncomputable def vNilI (v : AV) (kt kf : Bool) : Bool := hid3 (AV.rec (motive_1 := fun _ => Bool) (motive_2 := fun _ => Bool) (false) (fun _ => false) (fun _ _ => false) (fun _ _ => false) (fun c => nkI c kt) (fun _ _ _ _ => false) (fun _ _ _ _ _ _ => false) (fun _ => false) (fun _ _ _ _ _ => false) (fun t v _ => kf) (fun _ _ _ => false) (fun _ _ => false) (false) (fun _ _ _ => false) (fun _ => false) false (fun _ _ _ _ => false) v)
theorem vNilI_inv {v : AV} {kt kf : Bool} (h : vNilI v kt kf = true) : (v = .nil .i ∧ kt = true) ∨ ((∃ x0 x1, v = .iface x0 x1) ∧ kf = true) := by cases v <;> first | (exact absurd h Bool.false_ne_true) | (rename_i c; cases c <;> first | (exact absurd h Bool.false_ne_true) | exact .inl ⟨rfl, h⟩) | exact .inr ⟨⟨_, _, rfl⟩, h⟩
noncomputable def vRef (v : AV) (k : Bool) : Bool := hid3 (AV.rec (motive_1 := fun _ => Bool) (motive_2 := fun _ => Bool) (false) (fun _ => false) (fun _ _ => false) (fun _ _ => false) (fun _ => false) (fun a r s z => k) (fun _ _ _ _ _ _ => false) (fun _ => false) (fun f x y _ _ => k) (fun _ _ _ => false) (fun _ _ _ => false) (fun _ _ => false) (false) (fun _ _ _ => false) (fun _ => false) false (fun _ _ _ _ => false) v)
theorem vRef_inv {v : AV} {k : Bool} (h : vRef v k = true) : ((∃ a r s z, v = .ptr a r s z) ∨ (∃ f x y, v = .fn f x y)) ∧ k = true := by cases v <;> first | (exact absurd h Bool.false_ne_true) | exact ⟨.inl ⟨_, _, _, _, rfl⟩, h⟩ | exact ⟨.inr ⟨_, _, _, rfl⟩, h⟩
noncomputable def oCells (o : AObj) (k : Rows → Nat → Nat → Nat → Bool → Bool → Bool) : Bool := AObj.rec (motive := fun _ => Bool) false false (fun rs n z el u ro => k rs n z el u ro) (fun _ _ => false) o
theorem oCells_inv {o : AObj} {k : Rows → Nat → Nat → Nat → Bool → Bool → Bool} (h : oCells o k = true) : ∃ rs n z el u ro, o = .cells rs n z el u ro ∧ k rs n z el u ro = true := by cases o <;> first | (exact absurd h Bool.false_ne_true) | exact ⟨_, _, _, _, _, _, rfl, h⟩
noncomputable def oMap (o : AObj) (k : List (AV × AV × Nat) → Nat → Bool) : Bool := AObj.rec (motive := fun _ => Bool) false false (fun _ _ _ _ _ _ => false) (fun es clk => k es clk) o
theorem oMap_inv {o : AObj} {k : List (AV × AV × Nat) → Nat → Bool} (h : oMap o k = true) : ∃ es clk, o = .map es clk ∧ k es clk = true := by cases o <;> first | (exact absurd h Bool.false_ne_true) | exact ⟨_, _, rfl, h⟩
noncomputable def rCase (rs : Rows) (k0 : List AV → Bool) (k1 : N8 (List AV) → Bool) (k2 : N8 (N8 (List AV)) → Bool) (k3 : N8 (N8 (N8 (List AV))) → Bool) (kf : (Nat → List AV) → Nat → Bool) : Bool := Rows.rec (motive := fun _ => Bool) k0 k1 k2 k3 kf rs
noncomputable def hCase (H : Heap) (k : Nat → H5 → Bool) : Bool := Heap.rec (motive := fun _ => Bool) k H
@[simp] theorem hCase_eq (H : Heap) (k : Nat → H5 → Bool) : hCase H k = k H.next H.t := rfl
noncomputable def resCase (r : Res) (kv kp : AV → Bool) : Bool := Res.rec (motive := fun _ => Bool) kv kp r
@[simp] theorem resCase_val (v : AV) (kv kp : AV → Bool) : resCase (.val v) kv kp = kv v := rfl
@[simp] theorem resCase_pan (v : AV) (kv kp : AV → Bool) : resCase (.pan v) kv kp = kp v := rfl
noncomputable def xCase (x : X) (ke : Nat → Bool) (kr : Bool) (kp : AV → Bool) : Bool := X.rec (motive := fun _ => Bool) ke kr kp x
@[simp] theorem xCase_e (i : Nat) (ke : Nat → Bool) (kr : Bool) (kp : AV → Bool) : xCase (.exit i) ke kr kp = ke i := rfl
@[simp] theorem xCase_r (ke : Nat → Bool) (kr : Bool) (kp : AV → Bool) : xCase .ret ke kr kp = kr := rfl
@[simp] theorem xCase_p (v : AV) (ke : Nat → Bool) (kr : Bool) (kp : AV → Bool) : xCase (.panic v) ke kr kp = kp v := rfl
noncomputable def takeC {α : Type} (l : List α) : Nat → (List α → Bool) → Bool :=
  List.rec (motive := fun _ => Nat → (List α → Bool) → Bool) (fun n k => Nat.rec (motive := fun _ => Bool) (k []) (fun _ _ => false) n)
    (fun a _ ih n k => Nat.rec (motive := fun _ => Bool) (k []) (fun n _ => ih n fun r => k (a :: r)) n) l
noncomputable def dropC {α : Type} (l : List α) : Nat → (List α → Bool) → Bool :=
  List.rec (motive := fun _ => Nat → (List α → Bool) → Bool) (fun n k => Nat.rec (motive := fun _ => Bool) (k []) (fun _ _ => false) n)
    (fun a l ih n k => Nat.rec (motive := fun _ => Bool) (k (a :: l)) (fun n _ => ih n k) n) l
noncomputable def lenC {α : Type} (l : List α) : Nat → Bool → Bool :=
  List.rec (motive := fun _ => Nat → Bool → Bool) (fun n k => Nat.rec (motive := fun _ => Bool) k (fun _ _ => false) n)
    (fun _ _ ih n k => Nat.rec (motive := fun _ => Bool) false (fun n _ => ih n k) n) l
noncomputable def appC {α : Type} (l : List α) : List α → (List α → Bool) → Bool :=
  List.rec (motive := fun _ => List α → (List α → Bool) → Bool) (fun m k => k m) (fun a _ ih m k => ih m fun r => k (a :: r)) l
noncomputable def loopN (b : (TT → Heap → Bool) → TT → Heap → Bool) (n : Nat) : TT → Heap → Bool :=
  Nat.rec (motive := fun _ => TT → Heap → Bool) (fun _ _ => false) (fun _ ih => b ih) n
noncomputable def callRec (F : Nat → (Nat → List AV → Heap → (Res → Heap → Bool) → Bool) → Nat → List AV → Heap → (Res → Heap → Bool) → Bool) (n : Nat) : Nat → List AV → Heap → (Res → Heap → Bool) → Bool :=
  Nat.rec (motive := fun _ => Nat → List AV → Heap → (Res → Heap → Bool) → Bool) (fun _ _ _ _ => false) (fun n ih => F n ih) n
theorem takeC_inv {α : Type} : ∀ {l : List α} {n : Nat} {k : List α → Bool}, takeC l n k = true → n ≤ l.length ∧ k (l.take n) = true
  | [], 0, _, h => ⟨Nat.le_refl _, h⟩
  | [], _ + 1, _, h => absurd h Bool.false_ne_true
  | a :: l, 0, _, h => ⟨Nat.zero_le _, h⟩
  | a :: l, n + 1, k, h => by
    obtain ⟨h1, h2⟩ := takeC_inv (l := l) (n := n) (k := fun r => k (a :: r)) h
    exact ⟨by simpa using h1, by simpa using h2⟩
theorem dropC_inv {α : Type} : ∀ {l : List α} {n : Nat} {k : List α → Bool}, dropC l n k = true → n ≤ l.length ∧ k (l.drop n) = true
  | [], 0, _, h => ⟨Nat.le_refl _, h⟩
  | [], _ + 1, _, h => absurd h Bool.false_ne_true
  | a :: l, 0, _, h => ⟨Nat.zero_le _, h⟩
  | a :: l, n + 1, k, h => by
    obtain ⟨h1, h2⟩ := dropC_inv (l := l) (n := n) (k := k) h
    exact ⟨by simpa using h1, by simpa using h2⟩
theorem lenC_inv {α : Type} : ∀ {l : List α} {n : Nat} {k : Bool}, lenC l n k = true → l.length = n ∧ k = true
  | [], 0, _, h => ⟨rfl, h⟩
  | [], _ + 1, _, h => absurd h Bool.false_ne_true
  | _ :: _, 0, _, h => absurd h Bool.false_ne_true
  | _ :: l, n + 1, k, h => by
    obtain ⟨h1, h2⟩ := lenC_inv (l := l) (n := n) (k := k) h
    exact ⟨by simp [h1], h2⟩
theorem appC_eq {α : Type} : ∀ (l m : List α) (k : List α → Bool), appC l m k = k (l ++ m)
  | [], _, _ => rfl
  | a :: l, m, k => by
    have := appC_eq l m (fun r => k (a :: r))
    exact this
theorem loopN_zero (b : (TT → Heap → Bool) → TT → Heap → Bool) (T : TT) (H : Heap) : loopN b 0 T H = false := rfl
theorem loopN_succ (b : (TT → Heap → Bool) → TT → Heap → Bool) (n : Nat) (T : TT) (H : Heap) : loopN b (n + 1) T H = b (loopN b n) T H := rfl
theorem callRec_zero (F : Nat → (Nat → List AV → Heap → (Res → Heap → Bool) → Bool) → Nat → List AV → Heap → (Res → Heap → Bool) → Bool) : callRec F 0 = fun _ _ _ _ => false := rfl
theorem callRec_succ (F : Nat → (Nat → List AV → Heap → (Res → Heap → Bool) → Bool) → Nat → List AV → Heap → (Res → Heap → Bool) → Bool) (n : Nat) : callRec F (n + 1) = F n (callRec F n) := rfl

/-! ### places by number -/
/-- a row's place, at each depth -/
structure Rp where
  g1 : N8 (List AV) → List AV
  g2 : N8 (N8 (List AV)) → List AV
  g3 : N8 (N8 (N8 (List AV))) → List AV
  u1 : N8 (List AV) → List AV → (N8 (List AV) → Bool) → Bool
  u2 : N8 (N8 (List AV)) → List AV → (N8 (N8 (List AV)) → Bool) → Bool
  u3 : N8 (N8 (N8 (List AV))) → List AV → (N8 (N8 (N8 (List AV))) → Bool) → Bool
def rpOf (a a' : Sl (List AV)) (b b' : Sl (N8 (List AV))) (c : Sl (N8 (N8 (List AV)))) : Rp :=
  match a, b, b', c with
  | ⟨as, au⟩, ⟨bs, bu⟩, ⟨_, _⟩, ⟨cs, cu⟩ =>
    ⟨fun t => as t, fun t => as (bs t), fun t => as (bs (cs t)), fun t v k => au t (fun _ k => k v) k, fun t v k => bu t (fun t k => au t (fun _ k => k v) k) k,
     fun t v k => cu t (fun t k => bu t (fun t k => au t (fun _ k => k v) k) k) k⟩
noncomputable def rp (i : Nat) : Rp := rpOf (sl (dig (i % 8))) (sl (dig (i % 8))) (sl (dig (i / 8 % 8))) (sl (dig (i / 8 % 8))) (sl (dig (i / 64 % 8)))
/-- an object's place -/
structure Hp where
  g : H5 → AObj
  u : H5 → AObj → (H5 → Bool) → Bool
def hpOf (a : Sl AObj) (b : Sl (N8 AObj)) (c : Sl (N8 (N8 AObj))) (d : Sl (N8 (N8 (N8 AObj)))) (e : Sl (N8 (N8 (N8 (N8 AObj))))) : Hp :=
  match a, b, c, d, e with
  | ⟨as, au⟩, ⟨bs, bu⟩, ⟨cs, cu⟩, ⟨ds, du⟩, ⟨es, eu⟩ =>
    ⟨fun t => as (bs (cs (ds (es t)))), fun t v k => eu t (fun t k => du t (fun t k => cu t (fun t k => bu t (fun t k => au t (fun _ k => k v) k) k) k) k) k⟩
noncomputable def hp (i : Nat) : Hp := hpOf (sl (dig (i % 8))) (sl (dig (i / 8 % 8))) (sl (dig (i / 64 % 8))) (sl (dig (i / 512 % 8))) (sl (dig (i / 4096 % 8)))
noncomputable def rowAt (rs : Rows) (i : Nat) (k : List AV → Bool) : Bool :=
  rCase rs (fun r => bIf (Nat.beq i 0) (k r) false) (fun t => k ((rp i).g1 t)) (fun t => k ((rp i).g2 t)) (fun t => k ((rp i).g3 t)) (fun g _ => k (g i))
noncomputable def setRow (rs : Rows) (i : Nat) (r : List AV) (k : Rows → Bool) : Bool :=
  rCase rs (fun _ => k (.r0 r)) (fun t => (rp i).u1 t r fun t => k (.r1 t)) (fun t => (rp i).u2 t r fun t => k (.r2 t)) (fun t => (rp i).u3 t r fun t => k (.r3 t)) (fun g c => k (.rf (fun j => match Nat.beq j i with | true => r | false => g j) c))

noncomputable def rowsC (rs : Rows) (m : Nat) : Nat → (List (List AV) → Bool) → Bool :=
  Nat.rec (motive := fun _ => Nat → (List (List AV) → Bool) → Bool) (fun _ k => k []) (fun _ ih i k => rowAt rs i fun r => ih (Nat.succ i) fun l => k (r :: l)) m
noncomputable def putRows (l : List (List AV)) : Rows → Nat → (Rows → Bool) → Bool :=
  List.rec (motive := fun _ => Rows → Nat → (Rows → Bool) → Bool) (fun rs _ k => k rs) (fun r _ ih rs i k => setRow rs i r fun rs => ih rs (Nat.succ i) k) l
theorem rowsC_zero (rs : Rows) (i : Nat) (k : List (List AV) → Bool) : rowsC rs 0 i k = k [] := rfl
theorem rowsC_succ (rs : Rows) (m i : Nat) (k : List (List AV) → Bool) : rowsC rs (m + 1) i k = rowAt rs i fun r => rowsC rs m (Nat.succ i) fun l => k (r :: l) := rfl
theorem putRows_nil (rs : Rows) (i : Nat) (k : Rows → Bool) : putRows [] rs i k = k rs := rfl
theorem putRows_cons (r : List AV) (l : List (List AV)) (rs : Rows) (i : Nat) (k : Rows → Bool) : putRows (r :: l) rs i k = setRow rs i r fun rs => putRows l rs (Nat.succ i) k := rfl
end Go.Ev

namespace Go.Ev
noncomputable section
open Go
set_option linter.unusedVariables false

/-- what the evaluator reads of a program -/
structure Pg where
  und : TypeId → Option TypeDesc
  inf : TypeId → Option TypeInfo
  fn : Nat → Option Func
def pgOf (P : Program) : Pg := ⟨P.underlying, P.info?, fun f => P.funcs[f]?⟩
instance : Coe Program Pg := ⟨pgOf⟩
/-! ### numbers, strings, constants -/
def kc : IntKind → Nat
  | .i8 => 0 | .i16 => 1 | .i32 => 2 | .i64 => 3 | .u8 => 4 | .u16 => 5 | .u32 => 6 | .u64 => 7
def ofKc : Nat → IntKind
  | 0 => .i8 | 1 => .i16 | 2 => .i32 | 3 => .i64 | 4 => .u8 | 5 => .u16 | 6 => .u32 | _ => .u64
def modOf : Nat → Nat
  | 0 => 256 | 4 => 256 | 1 => 65536 | 5 => 65536 | 2 => 4294967296 | 6 => 4294967296 | _ => 18446744073709551616
/-- below this a residue reads as itself -/
def halfOf : Nat → Nat
  | 0 => 128 | 1 => 32768 | 2 => 2147483648 | 3 => 9223372036854775808 | 4 => 256 | 5 => 65536 | 6 => 4294967296 | _ => 18446744073709551616
def resid (c : Nat) (n : Int) : Nat := (n % (modOf c : Int)).toNat
/-- the number that a residue reads as -/
def sgn (c n : Nat) : Int := if n < halfOf c then (n : Int) else (n : Int) - modOf c
def p8 (l : Nat) : Nat := Nat.pow 2 (Nat.mul 8 l)
def encB : List UInt8 → Nat
  | [] => 0
  | b :: l => b.toNat + 256 * encB l
def absCell : Value → Option AV
  | .bool b => some (.bool b)
  | .int k n => if sgn (kc k) (resid (kc k) n) = n then some (.int (kc k) (resid (kc k) n)) else none
  | .string s => match Nat.ble s.data.toList.length 1000000 with
    | true => some (.str s.data.toList.length (encB s.data.toList))
    | false => none
  | .pointer none => some (.nil .p)
  | .slice none 0 0 => some (.nil .s)
  | .map none => some (.nil .m)
  | .nilFunc => some (.nil .f)
  | .nilIface => some (.nil .i)
  | _ => none
def absCells : List Value → Option (List AV)
  | [] => some []
  | v :: l => match absCell v with
    | some x => match absCells l with
      | some y => some (x :: y)
      | none => none
    | none => none
def absV : Value → Option AV
  | .agg cs => match absCells cs.toList with
    | some l => some (.agg l.length l)
    | none => none
  | .tuple cs => match cs.toList with
    | [] => some .undef
    | _ => none
  | v => absCell v
def absVs : List Value → Option (List AV)
  | [] => some []
  | v :: l => match absV v with
    | some x => match absVs l with
      | some y => some (x :: y)
      | none => none
    | none => none
def AV.cells : AV → List AV
  | .agg _ l => l
  | v => [v]

section types
variable (P : Pg)
def isAggT (t : TypeId) : Option Bool :=
  match P.und t with
  | some (.struct _) => some true
  | some (.array _ _) => some true
  | some _ => some false
  | none => none
def sizeT (t : TypeId) : Option Nat := (P.inf t).map (·.size)
def zeroT (t : TypeId) : Option AV := match (P.inf t).bind (·.zero) with
  | some z => absV z
  | none => none
/-- the cells of the zero value -/
def zc (t : TypeId) : Option (List AV) := match zeroT P t with
  | some .undef => none
  | some (.agg _ l) => some l
  | some v => some [v]
  | none => none
def bytesT (t : TypeId) : Option Nat := (P.inf t).map (·.bytes)
end types

/-! ### compiled operands -/
structure Get where
  g : List AV → TT → AV
structure GetN where
  g : List AV → TT → List AV
structure Pt where
  p : TT → AV → (TT → Bool) → Bool
abbrev CallK := Nat → List AV → Heap → (Res → Heap → Bool) → Bool

def getL : Nat → Get
  | 0 => ⟨fun L _ => hd L⟩
  | 1 => ⟨fun L _ => hd (tl L)⟩
  | 2 => ⟨fun L _ => hd (tl (tl L))⟩
  | n + 3 => match getL n with
    | ⟨g⟩ => ⟨fun L T => g (tl (tl (tl L))) T⟩
def getTof (a : Sl AV) (b : Slt) : Get := match a, b with
  | ⟨as, _⟩, ⟨bs, _⟩ => ⟨fun _ T => as (bs T)⟩
def getT (s : Nat) : Get := getTof (sl (dig (s % 8))) (slt (dig (s / 8 % 8)))
def putTof (a : Sl AV) (b : Slt) : Pt := match a, b with
  | ⟨_, au⟩, ⟨_, bu⟩ => ⟨fun T v k => bu T (fun t k => au t (fun _ k => k v) k) k⟩
def putT (s : Nat) : Pt := putTof (sl (dig (s % 8))) (slt (dig (s / 8 % 8)))
/-- where in a list a number stands -/
def idxIn (t : Nat) (l : List Nat) : Option Nat := idxF t l 0
/-- which of the operations before wrote the temporary (the last one first) -/
def posn (t : Nat) : List (Option Nat) → Option Nat
  | [] => none
  | some a :: l => match Nat.beq a t with
    | true => some 0
    | false => (posn t l).map (· + 1)
  | none :: l => (posn t l).map (· + 1)
def anyG : Get := ⟨fun _ _ => .any⟩
def cgetTmp (es : List Nat) (ds : List (Option Nat)) (t : Nat) : Get :=
  match posn t ds with
  | some i => getL i
  | none => match idxIn t es with
    | some s => match Nat.blt s 64 with
      | true => getT s
      | false => anyG
    | none => anyG
def constG (v : AV) : Get := ⟨fun _ _ => v⟩
def cget (es : List Nat) (ds : List (Option Nat)) : Operand → Get
  | .tmp t => cgetTmp es ds t
  | .const v => match absV v with
    | some v => constG v
    | none => anyG
  | .func f => constG (.fn f [] [])
  | .global _ => anyG
def cgets (es : List Nat) (ds : List (Option Nat)) : List Operand → GetN
  | [] => ⟨fun _ _ => []⟩
  | x :: l => match cget es ds x, cgets es ds l with
    | ⟨g⟩, ⟨gs⟩ => ⟨fun L T => g L T :: gs L T⟩

/-! ### pure operations -/
structure Cpu where
  f : List AV → TT → (AV → Bool) → Bool
def failP : Cpu := ⟨fun _ _ _ => false⟩
structure I2 where
  f : Nat → Nat → (AV → Bool) → Bool
def failI : I2 := ⟨fun _ _ _ => false⟩
def isRem : BinOp → Bool
  | .rem => true
  | _ => false
/-! numbers of a kind: the steps have names, so that nothing unfolds them unasked -/
def addN (M a b : Nat) : Nat := Nat.mod (Nat.add a b) M
def subN (M a b : Nat) : Nat := Nat.mod (Nat.sub (Nat.add a M) b) M
def mulN (M a b : Nat) : Nat := Nat.mod (Nat.mul a b) M
def lssN (h M a b : Nat) : Bool := Nat.blt (Nat.mod (Nat.add a h) M) (Nat.mod (Nat.add b h) M)
def leqN (h M a b : Nat) : Bool := Nat.ble (Nat.mod (Nat.add a h) M) (Nat.mod (Nat.add b h) M)
/-- an operator on two numbers of kind c -/
def cint (op : BinOp) (c M h : Nat) : I2 :=
  match op with
  | .add => ⟨fun a b k => forceNat (addN M a b) fun r => k (.int c r)⟩
  | .sub => ⟨fun a b k => forceNat (subN M a b) fun r => k (.int c r)⟩
  | .mul => ⟨fun a b k => forceNat (mulN M a b) fun r => k (.int c r)⟩
  | .quo => ⟨fun a b k => bIf (Nat.blt a h) (bIf (Nat.blt b h) (bIf (Nat.beq b 0) false (forceNat (Nat.div a b) fun r => k (.int c r))) false) false⟩
  | .rem => ⟨fun a b k => bIf (Nat.blt a h) (bIf (Nat.blt b h) (bIf (Nat.beq b 0) false (forceNat (Nat.mod a b) fun r => k (.int c r))) false) false⟩
  | .and => ⟨fun a b k => forceNat (Nat.land a b) fun r => k (.int c r)⟩
  | .or => ⟨fun a b k => forceNat (Nat.lor a b) fun r => k (.int c r)⟩
  | .xor => ⟨fun a b k => forceNat (Nat.xor a b) fun r => k (.int c r)⟩
  | .eql => ⟨fun a b k => forceB (Nat.beq a b) fun r => k (.bool r)⟩
  | .neq => ⟨fun a b k => bIf (Nat.beq a b) (k (.bool false)) (k (.bool true))⟩
  | .lss => match Nat.beq h M with
    | true => ⟨fun a b k => forceB (Nat.blt a b) fun r => k (.bool r)⟩
    | false => ⟨fun a b k => forceB (lssN h M a b) fun r => k (.bool r)⟩
  | .leq => match Nat.beq h M with
    | true => ⟨fun a b k => forceB (Nat.ble a b) fun r => k (.bool r)⟩
    | false => ⟨fun a b k => forceB (leqN h M a b) fun r => k (.bool r)⟩
  | .gtr => match Nat.beq h M with
    | true => ⟨fun a b k => forceB (Nat.blt b a) fun r => k (.bool r)⟩
    | false => ⟨fun a b k => forceB (lssN h M b a) fun r => k (.bool r)⟩
  | .geq => match Nat.beq h M with
    | true => ⟨fun a b k => forceB (Nat.ble b a) fun r => k (.bool r)⟩
    | false => ⟨fun a b k => forceB (leqN h M b a) fun r => k (.bool r)⟩
  | _ => failI
def cbinInt (op : BinOp) (c : Nat) (x y : Get) : Cpu :=
  match op with
  | .shl => match x, y with
    | ⟨x⟩, ⟨y⟩ => ⟨fun L T k => vInt (x L T) fun c1 a => vInt (y L T) fun c2 b => bIf (Nat.beq c1 c) (bIf (Nat.ble b 64) (forceNat (Nat.mod (Nat.mul a (Nat.pow 2 b)) (modOf c)) fun r => k (.int c r)) false) false⟩
  | .shr => match x, y with
    | ⟨x⟩, ⟨y⟩ => ⟨fun L T k => vInt (x L T) fun c1 a => vInt (y L T) fun c2 b => bIf (Nat.beq c1 c) (bIf (Nat.ble b 64) (bIf (Nat.blt a (halfOf c)) (forceNat (Nat.div a (Nat.pow 2 b)) fun r => k (.int c r)) false) false) false⟩
  | _ => match isRem op, x, y, cint op c (modOf c) (halfOf c) with
    | false, ⟨x⟩, ⟨y⟩, ⟨f⟩ => ⟨fun L T k => vInt (x L T) fun c1 a => vInt (y L T) fun c2 b => bIf (Nat.beq c1 c) (bIf (Nat.beq c2 c) (f a b k) false) false⟩
    | true, ⟨x⟩, ⟨y⟩, ⟨f⟩ => ⟨fun L T k => vIntR (x L T) (fun c1 a => vInt (y L T) fun c2 b => bIf (Nat.beq c1 c) (bIf (Nat.beq c2 c) (f a b k) false) false)
        fun c1 m r => vInt (y L T) fun c2 b => bIf (Nat.beq (Nat.mod c1 8) c) (bIf (Nat.beq c2 c) (bIf (Nat.ble 4 c1) (bIf (Nat.beq b m) (bIf (Nat.blt 0 m) (bIf (Nat.blt b (halfOf c)) (k (.int c r)) false) false) false) false) false) false⟩
def strEq (l n l' n' : Nat) : Bool := bIf (Nat.beq l l') (Nat.beq (Nat.mod n (p8 l)) (Nat.mod n' (p8 l))) false
def strLess : Nat → Nat → Nat → Nat → Bool
  | _, _, 0, _ => false
  | 0, _, _ + 1, _ => true
  | l + 1, n, l' + 1, n' => bIf (Nat.blt (Nat.mod n 256) (Nat.mod n' 256)) true (bIf (Nat.beq (Nat.mod n 256) (Nat.mod n' 256)) (strLess l (Nat.div n 256) l' (Nat.div n' 256)) false)
def cbinStr (op : BinOp) (x y : Get) : Cpu :=
  match x, y with
  | ⟨x⟩, ⟨y⟩ => match op with
    | .add => ⟨fun L T k => vStr (x L T) fun l n => vStr (y L T) fun l' n' => bIf (Nat.ble (Nat.add l l') 1000000)
        (forceNat (Nat.add l l') fun s => forceNat (Nat.add (Nat.mod n (p8 l)) (Nat.mul n' (p8 l))) fun m => k (.str s m)) false⟩
    | .eql => ⟨fun L T k => vStr (x L T) fun l n => vStr (y L T) fun l' n' => forceB (strEq l n l' n') fun r => k (.bool r)⟩
    | .neq => ⟨fun L T k => vStr (x L T) fun l n => vStr (y L T) fun l' n' => bIf (strEq l n l' n') (k (.bool false)) (k (.bool true))⟩
    | .lss => ⟨fun L T k => vStr (x L T) fun l n => vStr (y L T) fun l' n' => forceB (strLess l n l' n') fun r => k (.bool r)⟩
    | .gtr => ⟨fun L T k => vStr (x L T) fun l n => vStr (y L T) fun l' n' => bIf (strLess l n l' n') (k (.bool false)) (bIf (strEq l n l' n') (k (.bool false)) (k (.bool true)))⟩
    | .leq => ⟨fun L T k => vStr (x L T) fun l n => vStr (y L T) fun l' n' => bIf (strLess l n l' n') (k (.bool true)) (forceB (strEq l n l' n') fun r => k (.bool r))⟩
    | .geq => ⟨fun L T k => vStr (x L T) fun l n => vStr (y L T) fun l' n' => bIf (strLess l n l' n') (k (.bool false)) (k (.bool true))⟩
    | _ => failP
def cbinBool (op : BinOp) (x y : Get) : Cpu :=
  match x, y with
  | ⟨x⟩, ⟨y⟩ => match op with
    | .eql => ⟨fun L T k => vBool (x L T) fun a => vBool (y L T) fun b => bIf a (forceB b fun r => k (.bool r)) (bIf b (k (.bool false)) (k (.bool true)))⟩
    | .neq => ⟨fun L T k => vBool (x L T) fun a => vBool (y L T) fun b => bIf a (bIf b (k (.bool false)) (k (.bool true))) (forceB b fun r => k (.bool r))⟩
    | _ => failP
/-- the constant nil of a kind -/
def isNilC (c : NK) : Operand → Bool
  | .const v => match absV v with
    | some (.nil c') => decide (c = c')
    | _ => false
  | _ => false
def cnil (eq : Bool) (c : NK) (x : Get) : Cpu :=
  match x, eq, c with
  | ⟨x⟩, true, .p => ⟨fun L T k => vNilP (x L T) (k (.bool true)) (k (.bool false))⟩
  | ⟨x⟩, false, .p => ⟨fun L T k => vNilP (x L T) (k (.bool false)) (k (.bool true))⟩
  | ⟨x⟩, true, .s => ⟨fun L T k => vNilS (x L T) (k (.bool true)) (k (.bool false))⟩
  | ⟨x⟩, false, .s => ⟨fun L T k => vNilS (x L T) (k (.bool false)) (k (.bool true))⟩
  | ⟨x⟩, true, .m => ⟨fun L T k => vNilM (x L T) (k (.bool true)) (k (.bool false))⟩
  | ⟨x⟩, false, .m => ⟨fun L T k => vNilM (x L T) (k (.bool false)) (k (.bool true))⟩
  | ⟨x⟩, true, .f => ⟨fun L T k => vNilF (x L T) (k (.bool true)) (k (.bool false))⟩
  | ⟨x⟩, false, .f => ⟨fun L T k => vNilF (x L T) (k (.bool false)) (k (.bool true))⟩
  | ⟨x⟩, true, .i => ⟨fun L T k => vNilI (x L T) (k (.bool true)) (k (.bool false))⟩
  | ⟨x⟩, false, .i => ⟨fun L T k => vNilI (x L T) (k (.bool false)) (k (.bool true))⟩
/-- '==' and '!=' against nil -/
def cbinNil (op : BinOp) (c : NK) (x y : Operand) (gx gy : Get) : Cpu :=
  match op, isNilC c x, isNilC c y with
  | .eql, _, true => cnil true c gx
  | .eql, true, false => cnil true c gy
  | .neq, _, true => cnil false c gx
  | .neq, true, false => cnil false c gy
  | _, _, _ => failP
def cbin (P : Pg) (op : BinOp) (t : TypeId) (x y : Operand) (gx gy : Get) : Cpu :=
  match P.und t with
  | some (.int k) => cbinInt op (kc k) gx gy
  | some .string => cbinStr op gx gy
  | some .bool => cbinBool op gx gy
  | some (.pointer _) => cbinNil op .p x y gx gy
  | some (.slice _) => cbinNil op .s x y gx gy
  | some (.map _ _) => cbinNil op .m x y gx gy
  | some (.func ..) => cbinNil op .f x y gx gy
  | some (.interface _) => cbinNil op .i x y gx gy
  | _ => failP
def cun (op : UnOp) (x : Get) : Cpu :=
  match x with
  | ⟨x⟩ => match op with
    | .not => ⟨fun L T k => vBool (x L T) fun b => bIf b (k (.bool false)) (k (.bool true))⟩
    | .neg => ⟨fun L T k => vInt (x L T) fun c a => forceNat (Nat.mod (Nat.sub (modOf c) a) (modOf c)) fun r => k (.int c r)⟩
    | _ => failP
def cconv (P : Pg) (s d : TypeId) (x : Get) : Cpu :=
  match x with
  | ⟨x⟩ => match P.und s, P.und d with
    | some (.int k), some (.int k') => match kc k, kc k' with
      | c, c' => match Nat.ble (modOf c') (modOf c) with
        | true => ⟨fun L T k => vInt (x L T) fun c1 a => bIf (Nat.beq c1 c) (forceNat (Nat.mod a (modOf c')) fun r => k (.int c' r)) false⟩
        | false => ⟨fun L T k => vIntR (x L T) (fun c1 a => bIf (Nat.beq c1 c) (bIf (Nat.blt a (halfOf c)) (k (.int c' a)) false) false) fun c1 m r => bIf (Nat.beq c1 c) (bIf (Nat.ble 4 c) (k (.resid (8 + c') m r)) false) false⟩
    | some .string, some .string => ⟨fun L T k => vStr (x L T) fun l n => k (.str l n)⟩
    | _, _ => failP
/-- a number as an index below a bound (int, or a kind without a sign) -/
def asIdx (v : AV) (b : Nat) (k : Nat → Bool) : Bool := vInt v fun c n => bIf (Nat.ble 3 c) (bIf (Nat.blt n b) (k n) false) false
/-- an int that is not negative, below a bound -/
def asI64 (v : AV) (b : Nat) (k : Nat → Bool) : Bool := vInt v fun c n => bIf (Nat.beq c 3) (bIf (Nat.blt n b) (k n) false) false
/-- a cell, or an aggregate's cells, of a known number -/
def cellsN (v : AV) (n : Nat) (k : List AV → Bool) : Bool :=
  vCell v (bIf (Nat.beq n 1) (k [v]) false) (fun m l => bIf (Nat.beq m n) (k l) false)
def nthC (l : List AV) (i : Nat) (k : AV → Bool) : Bool := dropC l i fun r => uncons r false fun v _ => k v
/-- a part of an aggregate's cells -/
structure Cpart where
  f : List AV → (AV → Bool) → Bool
def cpart (P : Pg) (t : TypeId) (off : Nat) : Cpart :=
  match isAggT P t, sizeT P t with
  | some true, some n => ⟨fun l k => dropC l off fun r => takeC r n fun r => k (.agg n r)⟩
  | some false, some _ => ⟨fun l k => nthC l off k⟩
  | _, _ => ⟨fun _ _ => false⟩
def cfield (P : Pg) (t : TypeId) (f : Nat) (x : Get) : Cpu :=
  match P.und t with
  | some (.struct fs) => match fs[f]? with
    | some fd => match x, cpart P fd.type fd.offset with
      | ⟨x⟩, ⟨p⟩ => ⟨fun L T k => vAgg (x L T) fun _ l => p l k⟩
    | none => failP
  | _ => failP
def cfieldAddr (P : Pg) (t : TypeId) (f : Nat) (x : Get) : Cpu :=
  match P.und t with
  | some (.struct fs) => match fs[f]? with
    | some fd => match x, sizeT P fd.type, fd.offset with
      | ⟨x⟩, some (_ + 1), off => ⟨fun L T k => vPtr (x L T) fun a r s z => forceNat (Nat.add s off) fun s => k (.ptr a r s z)⟩
      | _, _, _ => failP
    | none => failP
  | _ => failP
def cindex (P : Pg) (t : TypeId) (x i : Get) : Cpu :=
  match x, i with
  | ⟨x⟩, ⟨i⟩ => match P.und t with
    | some .string => ⟨fun L T k => vStr (x L T) fun l n => asIdx (i L T) l fun j => forceNat (Nat.land (Nat.shiftRight n (Nat.mul 8 j)) 255) fun b => k (.int 4 b)⟩
    | some (.array len e) => match cpart P e 0, sizeT P e, Nat.blt len 2147483648 with
      | ⟨p⟩, some s, true => ⟨fun L T k => vAgg (x L T) fun _ l => asIdx (i L T) len fun j => dropC l (Nat.mul j s) fun r => p r k⟩
      | _, _, _ => failP
    | _ => failP
def cindexAddr (P : Pg) (t : TypeId) (x i : Get) : Cpu :=
  match x, i with
  | ⟨x⟩, ⟨i⟩ => match P.und t with
    | some (.slice e) => match sizeT P e with
      | some (m + 1) => ⟨fun L T k => vSlice (x L T) fun a i0 l c u z => asIdx (i L T) l fun j => bIf (Nat.beq z (m + 1)) (forceNat (Nat.add i0 j) fun r => k (.ptr a r 0 z)) false⟩
      | _ => failP
    | some (.array len e) => match sizeT P e, Nat.blt len 2147483648 with
      | some (m + 1), true => ⟨fun L T k => vPtr (x L T) fun a r s z => asIdx (i L T) len fun j => forceNat (Nat.add s (Nat.mul j (m + 1))) fun s => k (.ptr a r s z)⟩
      | _, _ => failP
    | _ => failP
/-- a bound of a slice expression -/
structure Bd where
  f : List AV → TT → Nat → (Nat → Bool) → Bool
def cbd (es : List Nat) (ds : List (Option Nat)) : Option Operand → Bd
  | none => ⟨fun _ _ d k => k d⟩
  | some x => match cget es ds x with
    | ⟨g⟩ => ⟨fun L T _ k => asIdx (g L T) 2147483648 k⟩
def cslice (P : Pg) (t : TypeId) (x : Get) (lo hi : Bd) : Cpu :=
  match x, lo, hi with
  | ⟨x⟩, ⟨lo⟩, ⟨hi⟩ => match P.und t with
    | some .string => ⟨fun L T k => vStr (x L T) fun l n => hi L T l fun j => lo L T 0 fun i => bIf (Nat.ble j l) (bIf (Nat.ble i j)
        (forceNat (Nat.sub j i) fun m => forceNat (Nat.shiftRight n (Nat.mul 8 i)) fun n => k (.str m n)) false) false⟩
    | some (.slice e) => match sizeT P e with
      | some (m + 1) => ⟨fun L T k => vSliceN (x L T) (hi L T 0 fun j => lo L T 0 fun i => bIf (Nat.beq j 0) (bIf (Nat.beq i 0) (k (.nil .s)) false) false)
        fun a i0 l c u z => bIf (Nat.beq z (m + 1)) (hi L T l fun j => lo L T 0 fun i => bIf (Nat.ble i j)
          (bIf u (bIf (Nat.ble j l) (bIf (Nat.blt i j) (forceNat (Nat.add i0 i) fun i0 => forceNat (Nat.sub j i) fun l => k (.slice a i0 l (Nat.add c i) true z))
              (bIf (Nat.beq i 0) (k (.slice a i0 0 c true z)) false)) false)
            (bIf (Nat.ble j c) (bIf (Nat.blt i c) (forceNat (Nat.add i0 i) fun i0 => forceNat (Nat.sub j i) fun l => forceNat (Nat.sub c i) fun c => k (.slice a i0 l c false z))
              (k (.slice a i0 0 0 false z))) false)) false) false⟩
      | _ => failP
    | _ => failP
def cextract (x : Get) (i : Nat) : Cpu :=
  match x with
  | ⟨x⟩ => ⟨fun L T k => vTup (x L T) fun l => nthC l i k⟩
def cassert (P : Pg) (t : TypeId) (ok : Bool) (x : Get) : Cpu :=
  match x with
  | ⟨x⟩ => match P.und t with
    | some (.interface _) => failP
    | some _ => match ok, zeroT P t with
      | true, some z => ⟨fun L T k => vIfaceN (x L T) (k (.tup [z, .bool false])) fun u v => bIf (Nat.beq u t) (k (.tup [v, .bool true])) (k (.tup [z, .bool false]))⟩
      | false, _ => ⟨fun L T k => vIface (x L T) fun u v => bIf (Nat.beq u t) (k v) false⟩
      | _, _ => failP
    | none => failP
def cmkIface (P : Pg) (t : TypeId) (x : Get) : Cpu :=
  match x with
  | ⟨x⟩ => match P.und t with
    | some (.interface _) => failP
    | some _ => ⟨fun L T k => k (.iface t (x L T))⟩
    | none => failP
/-! building a struct: its fields in order, each a part or zero -/
structure Cbl where
  f : List AV → TT → (List AV → Bool) → Bool
def partOf (i : Nat) : List (Nat × Get) → Option Get
  | [] => none
  | (j, g) :: l => match partOf i l with
    | some g => some g
    | none => match Nat.beq i j with
      | true => some g
      | false => none
/-- cells that are known stand in front -/
def prep : List AV → Cbl → Cbl
  | [], r => r
  | a :: l, r => match prep l r with
    | ⟨r⟩ => ⟨fun L T k => r L T fun q => k (a :: q)⟩
/-- 'z': the zero value's cells that are left -/
def cfields (P : Pg) (parts : List (Nat × Get)) : Nat → List Field → List AV → Option Cbl
  | _, [], [] => some ⟨fun _ _ k => k []⟩
  | _, [], _ :: _ => none
  | i, fd :: l, z => match sizeT P fd.type with
    | some s => match Nat.ble s z.length, cfields P parts (i + 1) l (z.drop s), partOf i parts with
      | true, some ⟨r⟩, some ⟨g⟩ => some ⟨fun L T k => cellsN (g L T) s fun c => r L T fun q => appC c q k⟩
      | true, some r, none => some (prep (z.take s) r)
      | _, _, _ => none
    | none => none
/-- offsets follow each other -/
def offsOk (P : Pg) : Nat → List Field → Bool
  | _, [] => true
  | o, fd :: l => match sizeT P fd.type with
    | some s => match Nat.beq fd.offset o with
      | true => offsOk P (o + s) l
      | false => false
    | none => false
def noTwice : List Nat → Bool
  | [] => true
  | a :: l => match l.contains a with
    | true => false
    | false => noTwice l
def cparts (es : List Nat) (ds : List (Option Nat)) : List (Nat × Operand) → List (Nat × Get)
  | [] => []
  | (i, x) :: l => (i, cget es ds x) :: cparts es ds l
def cbuild (P : Pg) (t : TypeId) (parts : List (Nat × Get)) : Cpu :=
  match P.und t with
  | some (.struct fs) => match offsOk P 0 fs.toList && noTwice (parts.map Prod.fst) && parts.all (fun p => Nat.blt p.1 fs.toList.length), zeroT P t with
    | true, some (.agg n l) => match cfields P parts 0 fs.toList l with
      | some ⟨r⟩ => ⟨fun L T k => r L T fun l => k (.agg n l)⟩
      | none => failP
    | _, _ => failP
  | _ => failP
def clen (P : Pg) (t : TypeId) (x : Get) : Cpu :=
  match x with
  | ⟨x⟩ => match P.und t with
    | some .string => ⟨fun L T k => vStr (x L T) fun l _ => k (.int 3 l)⟩
    | some (.slice _) => ⟨fun L T k => vSliceN (x L T) (k (.int 3 0)) fun _ _ l _ _ _ => k (.int 3 l)⟩
    | some (.array n _) => match Nat.blt n 2147483648 with
      | true => ⟨fun L T k => k (.int 3 n)⟩
      | false => failP
    | _ => failP
/-- max, min of i64 numbers that are not negative (max: but for the last one, which may not be) -/
def cminmax (mx : Bool) : List Get → Option Cpu
  | [] => none
  | [⟨x⟩] => some ⟨fun L T k => asI64 (x L T) 2147483648 fun n => k (.int 3 n)⟩
  | ⟨x⟩ :: l => match cminmax mx l, mx with
    | some ⟨r⟩, true => some ⟨fun L T k => vInt (x L T) fun c n => bIf (Nat.beq c 3) (bIf (Nat.blt n 2147483648) (r L T fun v => vInt v fun _ m => bIf (Nat.blt n m) (k (.int 3 m)) (k (.int 3 n))) (bIf (Nat.ble 9223372036854775808 n) (r L T k) false)) false⟩
    | some ⟨r⟩, false => some ⟨fun L T k => asI64 (x L T) 2147483648 fun n => r L T fun v => vInt v fun _ m => bIf (Nat.blt m n) (k (.int 3 m)) (k (.int 3 n))⟩
    | none, _ => none
def cpu (P : Pg) (es : List Nat) (ds : List (Option Nat)) (op : Op) : Cpu :=
  match op with
  | .move x => match cget es ds x with
    | ⟨g⟩ => ⟨fun L T k => k (g L T)⟩
  | .assign x => match cget es ds x with
    | ⟨g⟩ => ⟨fun L T k => k (g L T)⟩
  | .pick c a b => match cget es ds c, cget es ds a, cget es ds b with
    | ⟨c⟩, ⟨a⟩, ⟨b⟩ => ⟨fun L T k => vBool (c L T) fun v => bIf v (k (a L T)) (k (b L T))⟩
  | .build t ps => cbuild P t (cparts es ds ps.toList)
  | .nilCheck x => match cget es ds x with
    | ⟨g⟩ => ⟨fun L T k => vRef (g L T) (k (g L T))⟩
  | .binOp op t x y _ => cbin P op t x y (cget es ds x) (cget es ds y)
  | .unOp op _ x => cun op (cget es ds x)
  | .convert s d x => cconv P s d (cget es ds x)
  | .makeInterface t x => cmkIface P t (cget es ds x)
  | .makeFunc (.func f) xs ys => match cgets es ds xs.toList, cgets es ds ys.toList with
    | ⟨xs⟩, ⟨ys⟩ => ⟨fun L T k => k (.fn f (xs L T) (ys L T))⟩
  | .slice t x lo hi none => cslice P t (cget es ds x) (cbd es ds lo) (cbd es ds hi)
  | .fieldAddr t x f => cfieldAddr P t f (cget es ds x)
  | .field t x f => cfield P t f (cget es ds x)
  | .indexAddr t x i => cindexAddr P t (cget es ds x) (cget es ds i)
  | .index t x i => cindex P t (cget es ds x) (cget es ds i)
  | .extract x i => cextract (cget es ds x) i
  | .typeAssert x _ t ok => cassert P t ok (cget es ds x)
  | .call c => match c.callee, c.argTypes.toList, c.args.toList with
    | .builtin .len, [t], [x] => clen P t (cget es ds x)
    | .builtin .max, _, l => match cminmax true (l.map (cget es ds)) with
      | some r => r
      | none => failP
    | .builtin .min, _, l => match cminmax false (l.map (cget es ds)) with
      | some r => r
      | none => failP
    | _, _, _ => failP
  | _ => failP

/-! ### operations that make memory -/
structure Cal where
  f : List AV → TT → (AObj → (Nat → AV) → Bool) → Bool
def failA : Cal := ⟨fun _ _ _ => false⟩
def varObj (el z : Nat) (row : List AV) : AObj := .cells (.r0 row) 1 z el false false
def e1 : N8 (List AV) := N8.all []
def e2 : N8 (N8 (List AV)) := N8.all e1
def e3 : N8 (N8 (N8 (List AV))) := N8.all e2
def emptyRows (n : Nat) : Option Rows :=
  match Nat.ble n 1 with
  | true => some (.r0 [])
  | false => match Nat.ble n 8 with
    | true => some (.r1 e1)
    | false => match Nat.ble n 64 with
      | true => some (.r2 e2)
      | false => match Nat.ble n 512 with
        | true => some (.r3 e3)
        | false => none
/-- rows for a number of them -/
def withRows (n : Nat) (k : Rows → Bool) : Bool := match emptyRows n with
  | some rs => k rs
  | none => false
structure CrowsN where
  f : List AV → TT → (List (List AV) → Bool) → Bool
/-- the parts of a slice literal: all of them, in order -/
def crows (s : Nat) : Nat → List (Nat × Get) → Option CrowsN
  | _, [] => some ⟨fun _ _ k => k []⟩
  | i, (j, ⟨g⟩) :: l => match Nat.beq i j, crows s (i + 1) l with
    | true, some ⟨r⟩ => some ⟨fun L T k => cellsN (g L T) s fun c => r L T fun q => k (c :: q)⟩
    | _, _ => none
def cal (P : Pg) (es : List Nat) (ds : List (Option Nat)) (op : Op) : Cal :=
  match op with
  | .alloc el => match zc P el, sizeT P el with
    | some z, some (n + 1) => match Nat.beq z.length (n + 1) with
      | true => ⟨fun _ _ k => k (varObj el (n + 1) z) fun a => .ptr a 0 0 (n + 1)⟩
      | false => failA
    | _, _ => failA
  | .box el x => match cget es ds x, sizeT P el with
    | ⟨g⟩, some (n + 1) => ⟨fun L T k => cellsN (g L T) (n + 1) fun c => k (varObj el (n + 1) c) fun a => .ptr a 0 0 (n + 1)⟩
    | _, _ => failA
  | .buildSlice t n ps => match P.und t with
    | some (.slice e) => match sizeT P e, ps.toList.length, emptyRows n with
      | some (s + 1), m, some rs => match Nat.beq m n && Nat.ble (n * (s + 1)) 100000 && (zeroT P e).isSome, crows (s + 1) 0 (cparts es ds ps.toList) with
        | true, some ⟨r⟩ => ⟨fun L T k => r L T fun l => putRows l rs 0 fun rs => k (.cells rs n (s + 1) e false false) fun a => .slice a 0 n n false (s + 1)⟩
        | _, _ => failA
      | _, _, _ => failA
    | _ => failA
  | .makeSlice t l c => match P.und t with
    | some (.slice e) => match sizeT P e, zc P e, bytesT P e, cget es ds l, cget es ds c with
      | some (s + 1), some z, some b, ⟨l⟩, ⟨c⟩ => match Nat.beq z.length (s + 1) && Nat.ble b 1000 with
        | true => ⟨fun L T k => asIdx (l L T) 513 fun n => asIdx (c L T) 513 fun m => bIf (Nat.ble n m)
            (withRows m fun rs => putRows (List.replicate m z) rs 0 fun rs => k (.cells rs m (s + 1) e false false) fun a => .slice a 0 n m false (s + 1)) false⟩
        | false => failA
      | _, _, _, _, _ => failA
    | _ => failA
  | .makeMap t none => match P.und t with
    | some (.map _ _) => ⟨fun _ _ k => k (.map [] 0) fun a => .map a⟩
    | _ => failA
  | _ => failA

/-! ### operations on memory -/
structure Chp where
  f : CallK → List AV → TT → Heap → (AV → Heap → Bool) → (AV → Heap → Bool) → Bool
def failH : Chp := ⟨fun _ _ _ _ _ _ => false⟩
def getO (H : Heap) (a : Nat) (k : AObj → Bool) : Bool := hCase H fun _ t => k ((hp a).g t)
def putO (H : Heap) (a : Nat) (o : AObj) (k : Heap → Bool) : Bool := hCase H fun nx t => (hp a).u t o fun t => k ⟨nx, t⟩
/-- a new object -/
def newO (H : Heap) (o : AObj) (k : Nat → Heap → Bool) : Bool :=
  hCase H fun nx t => bIf (Nat.blt nx 32768) ((hp nx).u t o fun t => k nx ⟨Nat.succ nx, t⟩) false
structure Cld where
  f : AV → Heap → (AV → Bool) → Bool
def failL : Cld := ⟨fun _ _ _ => false⟩
def rowOf (p : AV) (H : Heap) (k : Nat → Nat → List AV → Bool) : Bool :=
  vPtr p fun a r s z => getO H a fun o => oCells o fun rs n z' _ _ _ => bIf (Nat.blt r n) (bIf (Nat.beq z z') (rowAt rs r fun row => k s z row) false) false
def cload (P : Pg) (t : TypeId) : Cld :=
  match isAggT P t, sizeT P t with
  | some true, some n => ⟨fun p H k => rowOf p H fun s z row => bIf (Nat.beq n z) (bIf (Nat.beq s 0) (k (.agg n row)) false) (dropC row s fun q => takeC q n fun q => k (.agg n q))⟩
  | some false, some 1 => ⟨fun p H k => rowOf p H fun s z row => nthC row s k⟩
  | _, _ => failL
structure Cst where
  f : AV → AV → Heap → (Heap → Bool) → Bool
def failS : Cst := ⟨fun _ _ _ _ => false⟩
def cstore (P : Pg) (t : TypeId) : Cst :=
  match sizeT P t with
  | some (m + 1) => ⟨fun p v H k => vPtr p fun a r s z => cellsN v (m + 1) fun c => getO H a fun o => oCells o fun rs n z' el u ro => bIf ro false (bIf (Nat.blt r n) (bIf (Nat.beq z z')
      (bIf (Nat.beq (m + 1) z) (bIf (Nat.beq s 0) (setRow rs r c fun rs => putO H a (.cells rs n z el u ro) k) false)
        (rowAt rs r fun row => takeC row s fun q => dropC row (Nat.add s (m + 1)) fun w => appC c w fun w => appC q w fun row => setRow rs r row fun rs => putO H a (.cells rs n z el u ro) k)) false) false)⟩
  | _ => failS

/-! append -/
/-- room for a number of rows -/
def grow (rs : Rows) (n : Nat) (k : Rows → Bool) : Bool :=
  rCase rs
    (fun r => bIf (Nat.ble n 1) (k rs) (bIf (Nat.ble n 8) (k (.r1 ⟨r, [], [], [], [], [], [], []⟩)) (bIf (Nat.ble n 64) (k (.r2 ⟨⟨r, [], [], [], [], [], [], []⟩, e1, e1, e1, e1, e1, e1, e1⟩))
      (bIf (Nat.ble n 512) (k (.r3 ⟨⟨⟨r, [], [], [], [], [], [], []⟩, e1, e1, e1, e1, e1, e1, e1⟩, e2, e2, e2, e2, e2, e2, e2⟩)) false))))
    (fun t => bIf (Nat.ble n 8) (k rs) (bIf (Nat.ble n 64) (k (.r2 ⟨t, e1, e1, e1, e1, e1, e1, e1⟩))
      (bIf (Nat.ble n 512) (k (.r3 ⟨⟨t, e1, e1, e1, e1, e1, e1, e1⟩, e2, e2, e2, e2, e2, e2, e2⟩)) false)))
    (fun t => bIf (Nat.ble n 64) (k rs) (bIf (Nat.ble n 512) (k (.r3 ⟨t, e2, e2, e2, e2, e2, e2, e2⟩)) false))
    (fun t => bIf (Nat.ble n 512) (k rs) false)
    (fun g c => bIf (Nat.ble n c) (k rs) (k (.rf g n)))
/-- the string as rows of bytes -/
def byteRows : Nat → Nat → List (List AV)
  | 0, _ => []
  | l + 1, n => [.int 4 (Nat.mod n 256)] :: byteRows l (Nat.div n 256)
/-- what a slice holds, as rows -/
def srcRows (z0 : Nat) (v : AV) (H : Heap) (k : Nat → List (List AV) → Bool) : Bool :=
  vSliceN v (k 0 []) fun a i l _ _ z => bIf (Nat.beq z z0) (getO H a fun o => oCells o fun rs n z' _ _ _ => bIf (Nat.ble (Nat.add i l) n) (bIf (Nat.beq z z') (bIf (Nat.ble l 512) (rowsC rs l i fun r => k l r) false) false) false) false
def newRows (e z : Nat) (n : Nat) (l : List (List AV)) (H : Heap) (k : AV → Heap → Bool) : Bool :=
  withRows n fun rs => putRows l rs 0 fun rs => newO H (.cells rs n z e true false) fun a H => k (.slice a 0 n 0 true z) H
def appendTo (e z b : Nat) (x : AV) (m : Nat) (l : List (List AV)) (H : Heap) (k : AV → Heap → Bool) : Bool :=
  vSliceN x (bIf (Nat.beq m 0) (k (.nil .s) H) (bIf (Nat.ble (Nat.mul m b) 100000) (newRows e z m l H k) false))
    fun a i len c u z' => getO H a fun o => oCells o fun rs n z'' el u' ro => bIf ro false (bIf (Nat.beq el e) (bIf (Nat.beq z z') (bIf (Nat.beq z z'') (forceNat (Nat.add len m) fun nl => bIf (Nat.ble (Nat.mul nl b) 100000)
      (bIf u
        (bIf u' (bIf (Nat.beq i 0) (bIf (Nat.beq c 0) (bIf (Nat.beq len n) (grow rs nl fun rs => putRows l rs len fun rs => putO H a .dead fun H => newO H (.cells rs nl z e true false) fun a H => k (.slice a 0 nl 0 true z) H) false) false) false) false)
        (bIf u' false (bIf (Nat.ble nl c) (bIf (Nat.ble (Nat.add i nl) n) (putRows l rs (Nat.add i len) fun rs => putO H a (.cells rs n z el u' ro) fun H => k (.slice a i nl c false z) H) false)
          (bIf (Nat.ble (Nat.add i len) n) (rowsC rs len i fun old => appC old l fun l => newRows e z nl l H k) false)))) false) false) false) false)
def cappend (P : Pg) (t t' : TypeId) (x y : Get) : Chp :=
  match x, y with
  | ⟨x⟩, ⟨y⟩ => match P.und t with
    | some (.slice e) => match sizeT P e, bytesT P e, (zc P e).map (·.length) with
      | some (s + 1), some (b + 1), some q => match Nat.beq q (s + 1), P.und t' with
        | true, some (.slice _) => match Nat.beq t t' with
          | true => ⟨fun _ L T H k _ => srcRows (s + 1) (y L T) H fun m l => appendTo e (s + 1) (b + 1) (x L T) m l H k⟩
          | false => failH
        | true, some .string => match P.und e, s with
          | some (.int .u8), 0 => ⟨fun _ L T H k _ => vStr (y L T) fun l n => bIf (Nat.ble l 512) (appendTo e 1 (b + 1) (x L T) l (byteRows l n) H k) false⟩
          | _, _ => failH
        | _, _ => failH
      | _, _, _ => failH
    | _ => failH
def ccopy (P : Pg) (t t' : TypeId) (x y : Get) : Chp :=
  match x, y with
  | ⟨x⟩, ⟨y⟩ => match P.und t, P.und t' with
    | some (.slice e), some (.slice e') => match sizeT P e, Nat.beq e e' with
      | some (s + 1), true => ⟨fun _ L T H k _ => vSlice (x L T) fun a i len c u z => srcRows (s + 1) (y L T) H fun m l => getO H a fun o => oCells o fun rs n z' el u' ro =>
          bIf ro false (bIf (Nat.beq z z') (bIf (Nat.beq z (s + 1)) (bIf (Nat.ble m len) (bIf (Nat.ble (Nat.add i m) n) (putRows l rs i fun rs => putO H a (.cells rs n z el u' ro) fun H => k (.int 3 m) H) false) false) false) false)⟩
      | _, _ => failH
    | _, _ => failH
/-- rows of bytes as a string -/
def rowsStr : List (List AV) → (Nat → Nat → Bool) → Bool
  | [], k => k 0 0
  | r :: l, k => uncons r false fun v _ => vInt v fun c n => bIf (Nat.beq c 4) (rowsStr l fun len num => forceNat (Nat.add n (Nat.mul 256 num)) fun num => k (Nat.succ len) num) false
def cconvH (P : Pg) (s d : TypeId) (x : Get) : Chp :=
  match x with
  | ⟨x⟩ => match P.und s, P.und d with
    | some (.slice e), some .string => match P.und e, sizeT P e with
      | some (.int .u8), some 1 => ⟨fun _ L T H k _ => srcRows 1 (x L T) H fun _ l => rowsStr l fun len num => k (.str len num) H⟩
      | _, _ => failH
    | some .string, some (.slice e) => match P.und e, sizeT P e with
      | some (.int .u8), some 1 => ⟨fun _ L T H k _ => vStr (x L T) fun l n => withRows l fun rs => putRows (byteRows l n) rs 0 fun rs => newO H (.cells rs l 1 e true true) fun a H => k (.slice a 0 l 0 true 1) H⟩
      | _, _ => failH
    | _, _ => failH

/-! maps -/
def keyEq : AV → AV → Option Bool
  | .int c a, .int c' b => match Nat.beq c c' with
    | true => some (Nat.beq a b)
    | false => none
  | .bool a, .bool b => some (a == b)
  | .str l n, .str l' n' => some (strEq l n l' n')
  | _, _ => none
def keyOk (P : Pg) (t : TypeId) (x : AV) : Bool :=
  match P.und t, x with
  | some (.int _), .int .. => true
  | some .bool, .bool _ => true
  | some .string, .str .. => true
  | _, _ => false
def findK (x : AV) : List (AV × AV × Nat) → Nat → Option (Option (Nat × AV))
  | [], _ => some none
  | (k, v, _) :: l, i => match keyEq x k with
    | some true => some (some (i, v))
    | some false => findK x l (i + 1)
    | none => none
def lookIn (z i : AV) (ok : Bool) (es : List (AV × AV × Nat)) (k : AV → Bool) : Bool :=
  match findK i es 0 with
  | some (some (_, v)) => k (match ok with | true => .tup [v, .bool true] | false => v)
  | some none => k (match ok with | true => .tup [z, .bool false] | false => z)
  | none => false
def clookup (P : Pg) (t : TypeId) (ok : Bool) (x i : Get) : Chp :=
  match x, i with
  | ⟨x⟩, ⟨i⟩ => match P.und t with
    | some (.map kt et) => match zeroT P et with
      | some z => ⟨fun _ L T H k _ => bIf (keyOk P kt (i L T)) (vMap (x L T) fun a => getO H a fun o => oMap o fun es _ => lookIn z (i L T) ok es fun v => k v H) false⟩
      | none => failH
    | _ => failH
def setAt (l : List (AV × AV × Nat)) (i : Nat) (k v : AV) : List (AV × AV × Nat) :=
  match l, i with
  | [], _ => []
  | (_, _, b) :: l, 0 => (k, v, b) :: l
  | e :: l, i + 1 => e :: setAt l i k v
def updIn (i v : AV) (es : List (AV × AV × Nat)) (clk : Nat) (k : AObj → Bool) : Bool :=
  match findK i es 0 with
  | some (some (j, _)) => k (.map (setAt es j i v) clk)
  | some none => k (.map (es ++ [(i, v, clk)]) (clk + 1))
  | none => false
def cupdate (P : Pg) (t : TypeId) (m i x : Get) : Chp :=
  match m, i, x with
  | ⟨m⟩, ⟨i⟩, ⟨x⟩ => match P.und t with
    | some (.map kt _) => ⟨fun _ L T H k _ => bIf (keyOk P kt (i L T)) (vMap (m L T) fun a => getO H a fun o => oMap o fun es clk => updIn (i L T) (x L T) es clk fun o => putO H a o fun H => k .undef H) false⟩
    | _ => failH
def clenMap (P : Pg) (t : TypeId) (x : Get) : Chp :=
  match x with
  | ⟨x⟩ => match P.und t with
    | some (.map _ _) => ⟨fun _ L T H k _ => vMap (x L T) fun a => getO H a fun o => oMap o fun es _ => forceNat es.length fun n => bIf (Nat.blt n 2147483648) (k (.int 3 n) H) false⟩
    | _ => failH
def cclear (P : Pg) (t : TypeId) (x : Get) : Chp :=
  match x with
  | ⟨x⟩ => match P.und t with
    | some (.slice e) => match sizeT P e, zc P e with
      | some (s + 1), some zv => match Nat.beq zv.length (s + 1) with
        | true => ⟨fun _ L T H k _ => vSlice (x L T) fun a i l c u z => getO H a fun o => oCells o fun rs n z' el u' ro =>
            bIf ro false (bIf (Nat.beq z z') (bIf (Nat.beq z (s + 1)) (bIf (Nat.ble (Nat.add i l) n) (bIf (Nat.ble l 512) (putRows (List.replicate l zv) rs i fun rs => putO H a (.cells rs n z el u' ro) fun H => k .undef H) false) false) false) false)⟩
        | false => failH
      | _, _ => failH
    | _ => failH
def ccallF (es : List Nat) (ds : List (Option Nat)) (f : Operand) (args : List Operand) : Chp :=
  match f, cget es ds f, cgets es ds args with
  | .func f, _, ⟨as⟩ => ⟨fun call L T H k kp => call f (as L T) H fun r H => resCase r (fun v => k v H) (fun v => kp v H)⟩
  | _, ⟨g⟩, ⟨as⟩ => ⟨fun call L T H k kp => vFn (g L T) fun f xs ys => appC (as L T) ys fun r => appC xs r fun args => call f args H fun r H => resCase r (fun v => k v H) (fun v => kp v H)⟩
def chp (P : Pg) (es : List Nat) (ds : List (Option Nat)) (op : Op) : Chp :=
  match op with
  | .load t x => match cget es ds x, cload P t with
    | ⟨x⟩, ⟨f⟩ => ⟨fun _ L T H k _ => f (x L T) H fun v => k v H⟩
  | .store t x y => match cget es ds x, cget es ds y, cstore P t with
    | ⟨x⟩, ⟨y⟩, ⟨f⟩ => ⟨fun _ L T H k _ => f (x L T) (y L T) H fun H => k .undef H⟩
  | .convert s d x => cconvH P s d (cget es ds x)
  | .lookup t x i ok => clookup P t ok (cget es ds x) (cget es ds i)
  | .mapUpdate t m i x => cupdate P t (cget es ds m) (cget es ds i) (cget es ds x)
  | .insert t m i x => cupdate P t (cget es ds m) (cget es ds i) (cget es ds x)
  | .panic x => match cget es ds x with
    | ⟨x⟩ => ⟨fun _ L T H _ kp => vIface (x L T) fun t v => kp (.iface t v) H⟩
  | .call c => match c.callee with
    | .value f => ccallF es ds f c.args.toList
    | .builtin .append => match c.argTypes.toList, c.args.toList with
      | [t, t'], [x, y] => cappend P t t' (cget es ds x) (cget es ds y)
      | _, _ => failH
    | .builtin .copy => match c.argTypes.toList, c.args.toList with
      | [t, t'], [x, y] => ccopy P t t' (cget es ds x) (cget es ds y)
      | _, _ => failH
    | .builtin .len => match c.argTypes.toList, c.args.toList with
      | [t], [x] => clenMap P t (cget es ds x)
      | _, _ => failH
    | .builtin .clear => match c.argTypes.toList, c.args.toList with
      | [t], [x] => cclear P t (cget es ds x)
      | _, _ => failH
    | _ => failH
  | _ => failH

/-! ### regions -/
inductive Cls where
  | pure | alc | wr
def clsOf (P : Pg) (op : Op) : Cls :=
  match op with
  | .move _ | .assign _ | .pick .. | .build .. | .nilCheck _ | .binOp .. | .unOp .. | .makeInterface .. | .makeFunc .. | .slice .. | .fieldAddr .. | .field ..
  | .indexAddr .. | .index .. | .extract .. | .typeAssert .. => .pure
  | .convert s d _ => match P.und s, P.und d with
    | some (.slice _), _ => .wr
    | _, some (.slice _) => .wr
    | _, _ => .pure
  | .alloc _ | .box .. | .buildSlice .. | .makeSlice .. | .makeMap .. => .alc
  | .call c => match c.callee with
    | .builtin .min => .pure
    | .builtin .max => .pure
    | .builtin .len => match c.argTypes.toList with
      | [t] => match P.und t with
        | some (.map _ _) => .wr
        | _ => .pure
      | _ => .wr
    | _ => .wr
  | _ => .wr
/-- one operation, its guard aside -/
structure St where
  f : CallK → List AV → TT → Heap → (AV → Heap → Bool) → (AV → Heap → Bool) → Bool
def cop (P : Pg) (es : List Nat) (ds : List (Option Nat)) (op : Op) : St :=
  match clsOf P op with
  | .pure => match cpu P es ds op with
    | ⟨f⟩ => ⟨fun _ L T H k _ => f L T fun v => k v H⟩
  | .alc => match cal P es ds op with
    | ⟨f⟩ => ⟨fun _ L T H k _ => f L T fun o v => newO H o fun a H => k (v a) H⟩
  | .wr => match chp P es ds op with
    | ⟨f⟩ => ⟨f⟩
structure Rg where
  f : CallK → List AV → TT → Heap → (TT → Heap → Bool) → (TT → AV → Heap → Bool) → Bool
def failR : Rg := ⟨fun _ _ _ _ _ _ => false⟩
/-- what stands behind an operation: its value is kept in the list, and in its place if it has one -/
def after (es : List Nat) (nt : Nat) (dst : Option Nat) (s : St) (r : Rg) : Rg :=
  match s, r with
  | ⟨s⟩, ⟨r⟩ => match dst with
    | none => ⟨fun call L T H k kp => s call L T H (fun v H => r call (.any :: L) T H k kp) (kp T)⟩
    | some d => match Nat.blt d nt, idxIn d es with
      | true, none => ⟨fun call L T H k kp => s call L T H (fun v H => r call (v :: L) T H k kp) (kp T)⟩
      | true, some i => match Nat.blt i 64, putT i with
        | true, ⟨p⟩ => ⟨fun call L T H k kp => s call L T H (fun v H => p T v fun T => r call (v :: L) T H k kp) (kp T)⟩
        | false, _ => failR
      | false, _ => failR
def skipS : St := ⟨fun _ _ _ H k _ => k .undef H⟩
/-- done if a guard is true -/
def vGuardB (v : AV) (y n : Bool) : Bool := vGuard v (fun b => bIf b y n) n
def vGuardF (v : AV) (y n : Bool) : Bool := vGuard v (fun b => bIf b n y) n
def guarded (g : Get) (want : Bool) (yes no : Rg) : Rg :=
  match g, yes, no, want with
  | ⟨g⟩, ⟨y⟩, ⟨n⟩, true => ⟨fun call L T H k kp => vGuardB (g L T) (y call L T H k kp) (n call L T H k kp)⟩
  | ⟨g⟩, ⟨y⟩, ⟨n⟩, false => ⟨fun call L T H k kp => vGuardF (g L T) (y call L T H k kp) (n call L T H k kp)⟩
def cdefer (es : List Nat) (ds : List (Option Nat)) (c : Call) (r : Rg) : Rg :=
  match c.callee with
  | .value f => match cget es ds f, cgets es ds c.args.toList, r with
    | ⟨g⟩, ⟨as⟩, ⟨r⟩ => ⟨fun call L T H k kp => vFn (g L T) fun f xs ys => appC xs (as L T) fun args =>
        r call (.any :: L) { T with ds := ⟨f, args, ys⟩ :: T.ds } H k kp⟩
  | _ => failR
def cops (P : Pg) (es : List Nat) (nt : Nat) (ops : Array Oper) : List (Option Nat) → List Oper → Rg
  | _, [] => ⟨fun _ _ T H k _ => k T H⟩
  | ds, o :: l => match o.op with
    | .defer c => match o.guard, o.dst with
      | none, none => cdefer es ds c (cops P es nt ops (none :: ds) l)
      | _, _ => failR
    | op => match o.guard, cops P es nt ops (o.dst :: ds) l with
      | none, r => after es nt o.dst (cop P es ds op) r
      | some (j, w), r => match (ops[j]?).bind (·.dst) with
        | some d => guarded (cgetTmp es ds d) w (after es nt o.dst (cop P es ds op) r) (after es nt o.dst skipS r)
        | none => failR

/-! ### a region whose order is open -/
def maskOf (acc : List Nat) : List Edge → Nat
  | [] => 0
  | e :: l => match Region.binds .any e with
    | true => Nat.lor (Nat.lor (Nat.pow 2 e.on) (acc.getD e.on 0)) (maskOf acc l)
    | false => maskOf acc l
/-- for each operation, which ones come before it in every order -/
def masks : List Nat → List Oper → List Nat
  | acc, [] => acc
  | acc, o :: l => masks (acc ++ [maskOf acc o.after.toList]) l
def tbit (m i : Nat) : Bool := Nat.beq (Nat.land (Nat.shiftRight m i) 1) 1
def mk (M : List Nat) (i : Nat) : Nat := M.getD i 0
structure Plan where
  phases : List (List Nat × Nat)
  last : List Nat
  tails : List Nat
def isStore : Op → Bool
  | .store .. => true
  | _ => false
def isLoad : Op → Bool
  | .load .. => true
  | _ => false
def isDefer : Op → Bool
  | .defer _ => true
  | _ => false
def isLight (P : Pg) (op : Op) : Bool :=
  match isLoad op with
  | true => true
  | false => match clsOf P op with
    | .wr => false
    | _ => true
def idxs {α : Type} (p : α → Bool) : Nat → List α → List Nat
  | _, [] => []
  | i, x :: l => match p x with
    | true => i :: idxs p (i + 1) l
    | false => idxs p (i + 1) l
/-- how many of the writers come before operation i -/
def loOf (M : List Nat) (ws : List Nat) (i : Nat) : Nat := match ws with
  | [] => 0
  | w :: ws => match tbit (mk M i) w with
    | true => loOf M ws i + 1
    | false => loOf M ws i
def splitTails (M : List Nat) (ops : List Oper) : List Nat → List Nat × List Nat
  | [] => ([], [])
  | [a] => ([a], [])
  | [a, b] => match tbit (mk M b) a with
    | true => ([a, b], [])
    | false => match ((ops[a]?).map fun o => isStore o.op), ((ops[b]?).map fun o => isStore o.op) with
      | some true, some true => ([], [a, b])
      | _, _ => ([a, b], [])
  | a :: l => match splitTails M ops l with
    | (c, t) => (a :: c, t)
def phasesOf (M : List Nat) (ws lights : List Nat) : Nat → List Nat → List (List Nat × Nat)
  | _, [] => []
  | p, w :: l => (lights.filter fun i => Nat.beq (loOf M ws i) p, w) :: phasesOf M ws lights (p + 1) l
def planOf (P : Pg) (M : List Nat) (ops : List Oper) : Plan :=
  match splitTails M ops (idxs (fun o => !isLight P o.op) 0 ops) with
  | (ws, tails) =>
    let lights := idxs (fun o => isLight P o.op) 0 ops
    ⟨phasesOf M ws lights 0 ws, lights.filter fun i => Nat.beq (loOf M ws i) ws.length, tails⟩
/-- the temporaries that an operation looks at -/
def opTmps (o : Oper) : List Nat := o.op.operands.toList.filterMap fun | .tmp t => some t | _ => none
def looks (ops : List Oper) (o : Oper) : List Nat :=
  opTmps o ++
  (match o.guard with
   | some (g, _) => ((ops[g]?).bind (·.dst)).toList
   | none => [])
/-- two operations that may come in either order do not touch each other's temporaries -/
def pairOk (ops : List Oper) (x y : Oper) (ordered : Bool) : Bool :=
  (match x.dst, y.dst with
   | some d, some d' => !Nat.beq d d'
   | _, _ => true) &&
  (ordered || ((match x.dst with
   | some d => !(looks ops y).contains d
   | none => true) &&
  (match y.dst with
   | some d => !(looks ops x).contains d
   | none => true)))
def pairsOk1 (ops : List Oper) (M : List Nat) (i : Nat) (x : Oper) : Nat → List Oper → Bool
  | _, [] => true
  | j, y :: l => pairOk ops x y (tbit (mk M i) j || tbit (mk M j) i) && pairsOk1 ops M i x (j + 1) l
def pairsOk (ops : List Oper) (M : List Nat) : Nat → List Oper → Bool
  | _, [] => true
  | i, x :: l => pairsOk1 ops M i x (i + 1) l && pairsOk ops M (i + 1) l
def sub (a b : Nat) : Bool := Nat.beq (Nat.land a b) a
/-- lights: those before are done, the last writer is before them, none is done twice; what is done behind them -/
def lightsOk (P : Pg) (ops : List Oper) (M : List Nat) (lastW : Option Nat) : Nat → List Nat → Option Nat
  | done, [] => some done
  | done, i :: l => match ops[i]? with
    | some o => match isLight P o.op && sub (mk M i) done && !tbit done i && (match lastW with | some w => tbit (mk M i) w | none => true) with
      | true => lightsOk P ops M lastW (Nat.lor done (Nat.pow 2 i)) l
      | false => none
    | none => none
def phasesOk (P : Pg) (ops : List Oper) (M : List Nat) : Option Nat → Nat → List (List Nat × Nat) → Option (Option Nat × Nat)
  | lastW, done, [] => some (lastW, done)
  | lastW, done, (ls, w) :: l => match lightsOk P ops M lastW done ls with
    | some done => match ops[w]? with
      | some o => match !isLight P o.op && sub (mk M w) done && !tbit done w && (match lastW with | some v => tbit (mk M w) v | none => true) with
        | true => phasesOk P ops M (some w) (Nat.lor done (Nat.pow 2 w)) l
        | false => none
      | none => none
    | none => none
/-- the operations that are not pure, but those of a list -/
def loudMask (P : Pg) (tails : List Nat) : Nat → List Oper → Nat
  | _, [] => 0
  | i, o :: l => match (match isLoad o.op with | true => true | false => match clsOf P o.op with | .pure => false | _ => true) && !tails.contains i with
    | true => Nat.lor (Nat.pow 2 i) (loudMask P tails (i + 1) l)
    | false => loudMask P tails (i + 1) l
def planOk (P : Pg) (M : List Nat) (ops : List Oper) (pl : Plan) : Bool :=
  pairsOk ops M 0 ops && ops.all (fun o => !isDefer o.op) &&
  match phasesOk P ops M none 0 pl.phases with
  | some (lastW, done) => match lightsOk P ops M lastW done pl.last with
    | some done => match pl.tails with
      | [] => Nat.beq done (Nat.pow 2 ops.length - 1)
      | [a, b] => match ops[a]?, ops[b]? with
        | some x, some y => isStore x.op && isStore y.op && x.dst.isNone && y.dst.isNone && x.guard.isNone && y.guard.isNone && Nat.blt a b &&
          sub (loudMask P [a, b] 0 ops) (mk M a) && sub (loudMask P [a, b] 0 ops) (mk M b) && sub (mk M a) done && sub (mk M b) done && !tbit done a && !tbit done b &&
          Nat.beq (Nat.lor done (Nat.lor (Nat.pow 2 a) (Nat.pow 2 b))) (Nat.pow 2 ops.length - 1)
        | _, _ => false
      | _ => false
    | none => false
  | none => false

def avEq : AV → AV → Bool
  | .bool a, .bool b => a == b
  | .int c a, .int c' b => Nat.beq c c' && Nat.beq a b
  | .str l n, .str l' n' => Nat.beq l l' && Nat.beq n n'
  | .nil a, .nil b => decide (a = b)
  | .ptr a r s z, .ptr a' r' s' z' => Nat.beq a a' && Nat.beq r r' && Nat.beq s s' && Nat.beq z z'
  | .slice a i l c u z, .slice a' i' l' c' u' z' => Nat.beq a a' && Nat.beq i i' && Nat.beq l l' && Nat.beq c c' && u == u' && Nat.beq z z'
  | .map a, .map b => Nat.beq a b
  | _, _ => false
def avsEq : List AV → List AV → Bool
  | [], [] => true
  | a :: l, b :: l' => match avEq a b with
    | true => avsEq l l'
    | false => false
  | _, _ => false
def loadedEq : AV → AV → Bool
  | .agg n l, .agg n' l' => Nat.beq n n' && avsEq l l'
  | a, b => avEq a b
/-- a load that was done: its operation, its address, how it is done, its value -/
structure Rd where
  i : Nat
  p : AV
  ld : Cld
  v : AV
/-- memory that was made and is not yet in the heap: the operation's number, the object's, the object -/
structure Pd where
  i : Nat
  id : Nat
  obj : AObj
abbrev KD := List AV → Heap → List Rd → List Pd → Bool
structure Dr where
  f : CallK → List AV → TT → Heap → List Rd → List Pd → KD → (AV → Heap → Bool) → Bool
def failD : Dr := ⟨fun _ _ _ _ _ _ _ _ => false⟩
def rdsOk (m : Nat) (H : Heap) : List Rd → Bool
  | [] => true
  | r :: l => bIf (tbit m r.i) (rdsOk m H l) (r.ld.f r.p H fun v => bIf (loadedEq v r.v) (rdsOk m H l) false)
def rdsLeft (m : Nat) : List Rd → List Rd
  | [] => []
  | r :: l => match tbit m r.i with
    | true => rdsLeft m l
    | false => r :: rdsLeft m l
def pdsIn (m : Nat) : List Pd → Heap → (Heap → Bool) → Bool
  | [], H, k => k H
  | q :: l, H, k => bIf (tbit m q.i) (putO H q.id q.obj fun H => pdsIn m l H k) (pdsIn m l H k)
def pdsLeft (m : Nat) : List Pd → List Pd
  | [] => []
  | q :: l => match tbit m q.i with
    | true => pdsLeft m l
    | false => q :: pdsLeft m l
def noRds (l : List Rd) (a b : Bool) : Bool := uncons l a fun _ _ => b
def noPds (l : List Pd) (a b : Bool) : Bool := uncons l a fun _ _ => b
/-- a light operation; 'v': need it be looked at again behind the next writer? -/
def clight (P : Pg) (es : List Nat) (ds : List (Option Nat)) (i : Nat) (v : Bool) (op : Op) : Dr :=
  match op with
  | .load t x => match cget es ds x, cload P t, v with
    | ⟨x⟩, ⟨f⟩, true => ⟨fun _ L T H rds pds k _ => f (x L T) H fun w => k (w :: L) H (⟨i, x L T, ⟨f⟩, w⟩ :: rds) pds⟩
    | ⟨x⟩, ⟨f⟩, false => ⟨fun _ L T H rds pds k _ => f (x L T) H fun w => k (w :: L) H rds pds⟩
  | op => match clsOf P op with
    | .pure => match cpu P es ds op with
      | ⟨f⟩ => ⟨fun _ L T H rds pds k _ => f L T fun w => k (w :: L) H rds pds⟩
    | .alc => match cal P es ds op with
      | ⟨f⟩ => ⟨fun _ L T H rds pds k _ => f L T fun o w => hCase H fun nx t => bIf (Nat.blt nx 32768) (k (w nx :: L) ⟨Nat.succ nx, t⟩ rds (⟨i, nx, o⟩ :: pds)) false⟩
    | .wr => failD
def cwriter (P : Pg) (es : List Nat) (ds : List (Option Nat)) (m : Nat) (op : Op) : Dr :=
  match chp P es ds op with
  | ⟨f⟩ => ⟨fun call L T H rds pds k kp => noPds pds
      (f call L T H (fun v H => noRds rds (k (v :: L) H rds pds) (bIf (rdsOk m H rds) (k (v :: L) H (rdsLeft m rds) pds) false)) kp)
      (pdsIn m pds H fun H => f call L T H (fun v H => bIf (rdsOk m H rds) (k (v :: L) H (rdsLeft m rds) (pdsLeft m pds)) false) kp)⟩
def skipD : Dr := ⟨fun _ L _ H rds pds k _ => k (.undef :: L) H rds pds⟩
def guardD (g : Get) (want : Bool) (yes : Dr) : Dr :=
  match g, yes, want with
  | ⟨g⟩, ⟨y⟩, true => ⟨fun call L T H rds pds k kp => vGuardB (g L T) (y call L T H rds pds k kp) (k (.undef :: L) H rds pds)⟩
  | ⟨g⟩, ⟨y⟩, false => ⟨fun call L T H rds pds k kp => vGuardF (g L T) (y call L T H rds pds k kp) (k (.undef :: L) H rds pds)⟩
def gD (es : List Nat) (nt : Nat) (ops : List Oper) (ds : List (Option Nat)) (o : Oper) (y : Dr) : Dr :=
  match (match o.dst with | some d => Nat.blt d nt | none => true) with
  | true => match o.guard with
    | none => y
    | some (j, w) => match (ops[j]?).bind (·.dst) with
      | some d => guardD (cgetTmp es ds d) w y
      | none => failD
  | false => failD
def seqD (a b : Dr) : Dr :=
  match a, b with
  | ⟨a⟩, ⟨b⟩ => ⟨fun call L T H rds pds k kp => a call L T H rds pds (fun L H rds pds => b call L T H rds pds k kp) kp⟩
def nilD : Dr := ⟨fun _ L _ H rds pds k _ => k L H rds pds⟩
/-- lights in order; 'mw': the next writer's mask -/
def clights (P : Pg) (es : List Nat) (nt : Nat) (ops : List Oper) (mw : Option Nat) : List (Option Nat) → List Nat → Dr
  | _, [] => nilD
  | ds, i :: l => match ops[i]? with
    | some o => seqD (gD es nt ops ds o (clight P es ds i (match mw with | some m => !tbit m i | none => false) o.op)) (clights P es nt ops mw (o.dst :: ds) l)
    | none => failD
def dsAfter (ops : List Oper) : List (Option Nat) → List Nat → List (Option Nat)
  | ds, [] => ds
  | ds, i :: l => dsAfter ops (((ops[i]?).bind (·.dst)) :: ds) l
def cphases (P : Pg) (es : List Nat) (nt : Nat) (ops : List Oper) (M : List Nat) : List (Option Nat) → List (List Nat × Nat) → Dr
  | _, [] => nilD
  | ds, (ls, w) :: l => match ops[w]? with
    | some o => seqD (clights P es nt ops (some (mk M w)) ds ls)
        (seqD (gD es nt ops (dsAfter ops ds ls) o (cwriter P es (dsAfter ops ds ls) (mk M w) o.op))
          (cphases P es nt ops M (o.dst :: dsAfter ops ds ls) l))
    | none => failD
def dsPhases (ops : List Oper) : List (Option Nat) → List (List Nat × Nat) → List (Option Nat)
  | ds, [] => ds
  | ds, (ls, w) :: l => dsPhases ops (((ops[w]?).bind (·.dst)) :: dsAfter ops ds ls) l
def pdsAll : List Pd → Heap → (Heap → Bool) → Bool
  | [], H, k => k H
  | q :: l, H, k => putO H q.id q.obj fun H => pdsAll l H k
structure Tl where
  f : List AV → TT → Heap → (Heap → Bool) → Bool
def failT : Tl := ⟨fun _ _ _ _ => false⟩
def apartPtr (p q : AV) (k : Bool) : Bool := vPtr p fun a _ _ _ => vPtr q fun b _ _ _ => bIf (Nat.blt a 32768) (bIf (Nat.blt b 32768) (bIf (Nat.beq a b) false k) false) false
def ctails (P : Pg) (es : List Nat) (ds : List (Option Nat)) (ops : List Oper) : List Nat → Tl
  | [] => ⟨fun _ _ H k => k H⟩
  | [a, b] => match ops[a]?, ops[b]? with
    | some x, some y => match x.op, y.op with
      | .store t p v, .store t' p' v' => match cget es ds p, cget es ds v, cget es ds p', cget es ds v', cstore P t, cstore P t' with
        | ⟨p⟩, ⟨v⟩, ⟨p'⟩, ⟨v'⟩, ⟨f⟩, ⟨f'⟩ => ⟨fun L T H k => apartPtr (p L T) (p' L T) (f (p L T) (v L T) H fun H => f' (p' L T) (v' L T) H k)⟩
      | _, _ => failT
    | _, _ => failT
  | _ => failT
/-- the lasting temporaries that the region wrote -/
structure Fl where
  f : List AV → TT → (TT → Bool) → Bool
def cflush (es : List Nat) : List (Option Nat) → Fl
  | [] => ⟨fun _ T k => k T⟩
  | d :: ds => match cflush es ds with
    | ⟨r⟩ => match d with
      | none => ⟨fun L T k => r (tl L) T k⟩
      | some d => match idxIn d es with
        | none => ⟨fun L T k => r (tl L) T k⟩
        | some i => match Nat.blt i 64, putT i with
          | true, ⟨p⟩ => ⟨fun L T k => p T (hd L) fun T => r (tl L) T k⟩
          | false, _ => ⟨fun _ _ _ => false⟩
def cpoison (es : List Nat) : List Oper → Fl
  | [] => ⟨fun _ T k => k T⟩
  | o :: l => match cpoison es l with
    | ⟨r⟩ => match o.dst with
      | none => ⟨r⟩
      | some d => match idxIn d es with
        | none => ⟨r⟩
        | some i => match Nat.blt i 64, putT i with
          | true, ⟨p⟩ => ⟨fun L T k => p T .any fun T => r L T k⟩
          | false, _ => ⟨fun _ _ _ => false⟩
def cdraw (P : Pg) (es : List Nat) (nt : Nat) (ops : List Oper) (M : List Nat) (pl : Plan) : Rg :=
  match planOk P M ops pl with
  | true => match cphases P es nt ops M [] pl.phases, clights P es nt ops none (dsPhases ops [] pl.phases) pl.last,
        ctails P es (dsAfter ops (dsPhases ops [] pl.phases) pl.last) ops pl.tails, cflush es (dsAfter ops (dsPhases ops [] pl.phases) pl.last), cpoison es ops with
    | ⟨a⟩, ⟨b⟩, ⟨t⟩, ⟨fl⟩, ⟨po⟩ => ⟨fun call _ T H k kp => a call [] T H [] [] (fun L H rds pds => b call L T H rds pds (fun L H _ pds => pdsAll pds H fun H => t L T H fun H => fl L T fun T => k T H)
        (fun v H => po [] T fun T => kp T v H)) (fun v H => po [] T fun T => kp T v H)⟩
  | false => failR
def cdrawOf (P : Pg) (es : List Nat) (nt : Nat) (ops : List Oper) : Rg :=
  cdraw P es nt ops (masks [] ops) (planOf P (masks [] ops) ops)

/-! ### functions -/
structure CC where
  f : Nat → CallK → TT → Heap → (TT → Heap → Bool) → (X → TT → Heap → Bool) → Bool
def failC : CC := ⟨fun _ _ _ _ _ _ => false⟩
def ccode (P : Pg) (es : List Nat) (nt : Nat) : Code → CC
  | .skip => ⟨fun _ _ T H kn _ => kn T H⟩
  | .region _ ops false => match cops P es nt ops [] ops.toList with
    | ⟨f⟩ => ⟨fun _ call T H kn kx => f call [] T H kn fun T v H => kx (.panic v) T H⟩
  | .region _ ops true => match cdrawOf P es nt ops.toList with
    | ⟨f⟩ => ⟨fun _ call T H kn kx => f call [] T H kn fun T v H => kx (.panic v) T H⟩
  | .seq a b => match ccode P es nt a, ccode P es nt b with
    | ⟨a⟩, ⟨b⟩ => ⟨fun n call T H kn kx => a n call T H (fun T H => b n call T H kn kx) kx⟩
  | .cond c a b => match cget es [] c, ccode P es nt a, ccode P es nt b with
    | ⟨c⟩, ⟨a⟩, ⟨b⟩ => ⟨fun n call T H kn kx => vBool (c [] T) fun v => bIf v (a n call T H kn kx) (b n call T H kn kx)⟩
  | .block id c => match ccode P es nt c with
    | ⟨c⟩ => ⟨fun n call T H kn kx => c n call T H kn fun x T H => xCase x (fun i => bIf (Nat.beq i id) (kn T H) (kx (.exit i) T H)) (kx .ret T H) (fun v => kx (.panic v) T H)⟩
  | .loop c => match ccode P es nt c with
    | ⟨c⟩ => ⟨fun n call T H kn kx => loopN (fun again T H => c n call T H again kx) n T H⟩
  | .exit id => ⟨fun _ _ T H _ kx => kx (.exit id) T H⟩
  | .ret => ⟨fun _ _ T H _ kx => kx .ret T H⟩
  | _ => failC

/-! which temporaries last: the parameters and what was captured stand first, at their own numbers -/
def esOk (n : Nat) : Nat → List Nat → Bool
  | _, [] => true
  | i, t :: l => match Nat.blt i n with
    | true => match Nat.beq t i with
      | true => esOk n (i + 1) l
      | false => false
    | false => match Nat.ble n t with
      | true => esOk n (i + 1) l
      | false => false

/-! results -/
structure Crs where
  f : TT → Heap → (List AV → Bool) → Bool
def cres (P : Pg) (es : List Nat) : List ResultVar → Crs
  | [] => ⟨fun _ _ k => k []⟩
  | .tmp t :: l => match cgetTmp es [] t, cres P es l with
    | ⟨g⟩, ⟨r⟩ => ⟨fun T H k => r T H fun q => k (g [] T :: q)⟩
  | .cell a t :: l => match cgetTmp es [] a, cload P t, cres P es l with
    | ⟨g⟩, ⟨f⟩, ⟨r⟩ => ⟨fun T H k => f (g [] T) H fun v => r T H fun q => k (v :: q)⟩
structure Crv where
  f : TT → Heap → (AV → Bool) → Bool
def cresv (P : Pg) (es : List Nat) (l : List ResultVar) : Crv :=
  match cres P es l, l with
  | ⟨f⟩, [_] => ⟨fun T H k => f T H fun q => k (hd q)⟩
  | ⟨f⟩, _ => ⟨fun T H k => f T H fun q => k (.tup q)⟩

def undef8 : N8 AV := N8.all .undef
/-- the arguments in their places -/
def fill8 (l : List AV) (k : N8 AV → List AV → Bool) : Bool :=
  uncons l (k undef8 []) fun a0 l => uncons l (k ⟨a0, .undef, .undef, .undef, .undef, .undef, .undef, .undef⟩ []) fun a1 l =>
  uncons l (k ⟨a0, a1, .undef, .undef, .undef, .undef, .undef, .undef⟩ []) fun a2 l => uncons l (k ⟨a0, a1, a2, .undef, .undef, .undef, .undef, .undef⟩ []) fun a3 l =>
  uncons l (k ⟨a0, a1, a2, a3, .undef, .undef, .undef, .undef⟩ []) fun a4 l => uncons l (k ⟨a0, a1, a2, a3, a4, .undef, .undef, .undef⟩ []) fun a5 l =>
  uncons l (k ⟨a0, a1, a2, a3, a4, a5, .undef, .undef⟩ []) fun a6 l => uncons l (k ⟨a0, a1, a2, a3, a4, a5, a6, .undef⟩ []) fun a7 l => k ⟨a0, a1, a2, a3, a4, a5, a6, a7⟩ l
def initT (l : List AV) (k : TT → Bool) : Bool :=
  fill8 l fun n0 l => uncons l (k ⟨n0, undef8, undef8, undef8, undef8, undef8, undef8, undef8, []⟩) fun a l => fill8 (a :: l) fun n1 l =>
    uncons l (k ⟨n0, n1, undef8, undef8, undef8, undef8, undef8, undef8, []⟩) fun _ _ => false

/-! deferred calls -/
def U.settle : U → U
  | .pan _ true => .ret
  | u => u
def isRecover : Op → Bool
  | .call c => match c.callee with
    | .builtin .recover => true
    | _ => false
  | _ => false
def noRec : Code → Bool
  | .region _ ops _ => ops.toList.all fun o => !isRecover o.op
  | .seq a b => noRec a && noRec b
  | .cond _ a b => noRec a && noRec b
  | .block _ c => noRec c
  | .loop c => noRec c
  | .rangeFunc .. => false
  | .scope c => noRec c
  | _ => true
def hasDefer : Code → Bool
  | .region _ ops _ => ops.toList.any fun o => isDefer o.op
  | .seq a b => hasDefer a || hasDefer b
  | .cond _ a b => hasDefer a || hasDefer b
  | .block _ c => hasDefer c
  | .loop c => hasDefer c
  | _ => false
def noCall : CallK := fun _ _ _ _ => false
/-- a region with a recover (which is its first operation) -/
def copsS (P : Pg) (es : List Nat) (nt : Nat) (ops : Array Oper) : List Oper → Rg → Option Rg
  | o :: l, _ => match isRecover o.op, o.guard, o.dst, cops P es nt ops [o.dst] l with
    | true, none, some d, ⟨r⟩ => match Nat.blt d nt, idxIn d es, l.all fun o => !isRecover o.op with
      | true, none, true => some ⟨r⟩
      | _, _, _ => none
    | _, _, _, _ => none
  | _, _ => none
structure CS where
  f : Nat → CallK → TT → Heap → U → (TT → Heap → U → Bool) → (X → TT → Heap → U → Bool) → Bool
def failCS : CS := ⟨fun _ _ _ _ _ _ _ => false⟩
def liftS (c : CC) : CS := match c with
  | ⟨f⟩ => ⟨fun n call T H u kn kx => f n call T H (fun T H => kn T H u) (fun x T H => kx x T H u)⟩
def uCase (u : U) (kr : Bool) (kp : AV → Bool → Bool) : Bool := match u with
  | .ret => kr
  | .pan v r => kp v r
def ccodeS (P : Pg) (es : List Nat) (nt : Nat) : Code → CS
  | .seq a b => match noRec (.seq a b) with
    | true => liftS (ccode P es nt (.seq a b))
    | false => match ccodeS P es nt a, ccodeS P es nt b with
      | ⟨a⟩, ⟨b⟩ => ⟨fun n call T H u kn kx => a n call T H u (fun T H u => b n call T H u kn kx) kx⟩
  | .cond c a b => match cget es [] c, ccodeS P es nt a, ccodeS P es nt b with
    | ⟨c⟩, ⟨a⟩, ⟨b⟩ => ⟨fun n call T H u kn kx => vBool (c [] T) fun v => bIf v (a n call T H u kn kx) (b n call T H u kn kx)⟩
  | .region i ops d => match noRec (.region i ops d), d with
    | true, _ => liftS (ccode P es nt (.region i ops d))
    | false, true => failCS
    | false, false => match copsS P es nt ops ops.toList failR with
      | some ⟨r⟩ => ⟨fun _ _ T H u kn _ => uCase u
          (r noCall [.nil .i] T H (fun T H => kn T H .ret) fun _ _ _ => false)
          (fun v rec => bIf rec (r noCall [.nil .i] T H (fun T H => kn T H (.pan v true)) fun _ _ _ => false) (r noCall [v] T H (fun T H => kn T H (.pan v true)) fun _ _ _ => false))⟩
      | none => failCS
  | c => match noRec c with
    | true => liftS (ccode P es nt c)
    | false => failCS
/-- no deferred calls are left -/
def noDs (T : TT) (b : Bool) : Bool := uncons T.ds b fun _ _ => false
/-- a deferred call -/
def callD (P : Pg) (E : Nat → List Nat) (n : Nat) (call : CallK) (f : Nat) (args : List AV) (u : U) (H : Heap) (k : U → Heap → Bool) : Bool :=
  match P.fn f with
  | some fn => match fn.body with
    | some c => match ccodeS P (E f) fn.ntmps c, cresv P (E f) fn.results.toList, Nat.ble args.length (fn.params.size + fn.nfree), hasDefer c, Nat.ble (fn.params.size + fn.nfree) fn.ntmps && esOk (fn.params.size + fn.nfree) 0 (E f) with
      | ⟨c⟩, ⟨r⟩, true, false, true => initT args fun T => c n call T H u (fun T H u => noDs T (r T H fun _ => k u H)) (fun x T H u => xCase x (fun _ => false) (noDs T (r T H fun _ => k u H)) fun _ => false)
      | _, _, _, _, _ => false
    | none => false
  | none => false
def leave (P : Pg) (E : Nat → List Nat) (n : Nat) (call : CallK) (r : TT → Heap → (AV → Bool) → Bool) (T : TT) : List DC → U → Heap → (Res → Heap → Bool) → Bool
  | [], u, H, k => uCase u (r T H fun v => k (.val v) H) fun v rec => bIf rec false (k (.pan v) H)
  | d :: ds, u, H, k => callD P E n call d.f (d.args ++ d.cap) u H fun u H => leave P E n call r T ds u.settle H k
structure Fn where
  f : Nat → CallK → List AV → Heap → (Res → Heap → Bool) → Bool
structure Ext where
  f : List AV → (AV → Bool) → Bool
def failF : Fn := ⟨fun _ _ _ _ _ => false⟩
def cfn (P : Pg) (E : Nat → List Nat) (ext : Nat → Option Ext) (f : Nat) : Fn :=
  match ext f with
  | some ⟨e⟩ => ⟨fun _ _ args H k => e args fun v => k (.val v) H⟩
  | none => match P.fn f with
    | some fn => match fn.body with
      | some c => match ccode P (E f) fn.ntmps c, cresv P (E f) fn.results.toList, hasDefer c, Nat.ble (fn.params.size + fn.nfree) fn.ntmps && esOk (fn.params.size + fn.nfree) 0 (E f) with
        | ⟨c⟩, ⟨r⟩, false, true => ⟨fun n call args H k => lenC args (fn.params.size + fn.nfree) (initT args fun T => c n call T H (fun T H => noDs T (r T H fun v => k (.val v) H)) (fun x T H => xCase x (fun _ => false) (noDs T (r T H fun v => k (.val v) H)) fun v => noDs T (k (.pan v) H)))⟩
        | ⟨c⟩, ⟨r⟩, true, true => ⟨fun n call args H k => lenC args (fn.params.size + fn.nfree) (initT args fun T => c n call T H (fun T H => leave P E n call r T T.ds .ret H k) (fun x T H => xCase x (fun _ => false) (leave P E n call r T T.ds .ret H k) fun v => leave P E n call r T T.ds (.pan v false) H k))⟩
        | _, _, _, false => failF
      | none => failF
    | none => failF
def callF (P : Pg) (E : Nat → List Nat) (ext : Nat → Option Ext) : Nat → CallK :=
  callRec fun n call f args H k => (cfn P E ext f).f n call args H k
def emptyHeap : Heap := ⟨0, N8.all (N8.all (N8.all (N8.all (N8.all .none))))⟩
end
end Go.Ev
