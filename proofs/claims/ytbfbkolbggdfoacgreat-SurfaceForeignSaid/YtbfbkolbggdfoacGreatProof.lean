/- For every input (an int and a bool) SurfaceForeign returns true, and its arguments read behind the call as they read before. -/
import Derived.Test.YtbfbkolbggdfoacGreatRows
import Derived.Test.YtbfbkolbggdfoacGreatShelf
import Derived.Test.YtbfbkolbggdfoacGreatFacts
import Derived.Test.YtbfbkolbggdfoacGreatWalk
import Derived.Test.YtbfbkolbggdfoacGreatRunK0
import Derived.Test.YtbfbkolbggdfoacGreatRunK1
import Derived.Test.YtbfbkolbggdfoacGreatRunK2
import Derived.Test.YtbfbkolbggdfoacGreatRunK3
import Derived.Test.YtbfbkolbggdfoacGreatRunK4
import Derived.WalkKit
import Derived.ProofKit
import Derived.OpenShut
import Derived.HandedShaped
namespace Go.Proofs.YtbfbkolbggdfoacGreat
open Go Go.Ev Go.ChangeShapes Go.WideShapes Go.ChangeAt Go.RowKit
set_option linter.unusedVariables false

theorem mem_all : ∀ r0, r0 < 5 → ∀ b1, (r0, b1) ∈ ks0 ++ ks1 ++ ks2 ++ ks3 ++ ks4 := by decide
theorem run_all (r0 : Nat) (h0 : r0 < 5) (b1 : Bool) : run r0 b1 = true := by
  have tot : (ks0 ++ ks1 ++ ks2 ++ ks3 ++ ks4).all (fun x => run x.1 x.2) = true := by simp only [List.all_append, run0, run1, run2, run3, run4, Bool.and_self]
  exact List.all_eq_true.1 tot (r0, b1) (mem_all r0 h0 b1)
theorem ext_ok : ∀ w, HoldsInt w 0 → ExtOk Tryz.prog w ext := fun w hw =>
  withM_ok (withT_ok mixed named (g := 0) (fun w hw => ext2_ok (g := 0) ⟨_, Tryz.func304, rfl⟩ ⟨_, Tryz.func267, rfl⟩ Tryz.stringslite_IndexByte Tryz.stringslite_Index hw) awake_run w hw) ⟨_, Tryz.func4, rfl⟩ fun x m w h1 h2 => mod_walk x m w h1 h2
/-- the call at one input -/
theorem walk (x0 : Int) (l0 : -9223372036854775808 ≤ x0) (u0 : x0 ≤ 9223372036854775807) (b1 : Bool) (w : World) (hw : HoldsInt w 0) : Calls Tryz.prog 3 #[.int .i64 x0, .bool b1] w fun e w' => e = .returned (.bool true) ∧ w.keptBut w' (fun _ => False) := by
  have hA : VRs (fun _ => none) [.resid 3 5 (x0 % (5 : Nat)).toNat, .bool b1] [.int .i64 x0, .bool b1] := (VRs.cons (VR_resid (by decide) l0 u0) (VRs.cons (VR_bool b1) VRs.nil))
  exact law_calls mixed named (ext_ok w hw) (run_all (x0 % (5 : Nat)).toNat (by have := Int.emod_lt_of_pos x0 (by decide : (0 : Int) < ((5 : Nat) : Int)); omega) b1) hA
theorem own : ownKnob Tryz.prog.godebug = none := by kernel_rfl
set_option maxRecDepth 100000 in
theorem lifted (os : Os) (started : os.Started) (H : Type) (enc : TypeId × Value → H) :
    ReturnsInHanded {} Tryz.checked os 3 .any (Rows.surfaceForeignSpec.pre6 enc Tryz.prog Tryz.f3 Rows.surfaceForeignRow.domain false) (Rows.surfaceForeignSpec.post enc Tryz.prog Tryz.f3 false true false false) := by
  refine returnsInHanded_of_change_shaped (C := Tryz.checked) own started (by kernel_rfl) Tryz.func3
    (ChangeSpec.witness6 (enc := enc) (C := Tryz.checked) false ⟨#[], #[.int .i64 0, .bool false], []⟩ 8 (by kernel_rfl) (by kernel_rfl) (by kernel_rfl) (by kernel_rfl)) ?_
  intro W base args ds gs before hval0 hW _ _ hsh _
  have hval : ∀ (j : Nat) t v, Tryz.f3.params[j]? = some t → args[j]? = some v → Value.okWide Tryz.prog W .any base t v := hval0
  have hW' := hW
  obtain ⟨p, q, hA0, hV, rfl, hfz, hnd⟩ := hW
  have hA : DataW.TrodAll enc Tryz.prog W 0 (fun _ => true) true Tryz.f3.params.toList args.toList ds p := hA0
  rw [Tryz.params3] at hA hval
  obtain ⟨v0, v1, d0, d1, p0, p1, rfl, rfl, rfl, h0, h1⟩ := trodAll_two hA
  obtain ⟨rfl, rfl⟩ := trodVars_none hV
  obtain ⟨x0, rfl, rfl, rfl, wx0⟩ := open_int Tryz.underlying3 (hval 0 3 v0 rfl rfl) h0
  obtain ⟨b1, rfl, rfl, rfl⟩ := open_bool Tryz.underlying4 (hval 1 4 v1 rfl rfl) h1
  clear hA0 hval0
  have hb0 : -9223372036854775808 ≤ x0 ∧ x0 ≤ 9223372036854775807 := by
    have e := wx0
    simp only [Lit.wf, Bool.and_eq_true, decide_eq_true_eq] at e
    exact e
  refine (walk x0 hb0.1 hb0.2 b1 W (Tryz.laysM219.s1_3 W hsh)).mono fun e W' ⟨he, hk⟩ => ?_
  subst he
  exact ⟨_, rfl, post_law rfl hW' (fun _ _ _ => trodAll_mk1 (shut_bool Tryz.underlying4 _)) (fun sp => trodAll_mk2 (shut_int Tryz.underlying3 wx0) (shut_bool Tryz.underlying4 b1)) (fun _ => rfl) hk (ok_one (by kernel_rfl) rfl (okWide_bool_mk Tryz.underlying4 _))⟩
theorem row_holds : Rows.SurfaceForeignSaid :=
  OpenClaim.holds_of_wide 3 Tryz.f3 rfl rfl rfl rfl rfl rfl rfl ⟨rfl, rfl, rfl, rfl, rfl⟩ rfl rfl rfl rfl rfl (by kernel_rfl) Tryz.func3 facts
    (of_decide_eq_true (by kernel_rfl)) (by unfold Func.isWrapper; first | (rw [if_pos (by decide +kernel)]; kernel_rfl) | (rw [if_neg (by decide +kernel)]; exact ⟨rfl, rfl⟩))
    (fun os started H enc _ => lifted os started H enc)
#print axioms row_holds
end Go.Proofs.YtbfbkolbggdfoacGreat
