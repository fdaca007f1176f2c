/- For every input (an int and a uint8) CheckText returns true, and its arguments read behind the call as they read before. -/
import Derived.Test.YtflcaknepncbaaaGreatRows
import Derived.Test.YtflcaknepncbaaaGreatShelf
import Derived.Test.YtflcaknepncbaaaGreatFacts
import Derived.Test.YtflcaknepncbaaaGreatWalk
import Derived.Test.YtflcaknepncbaaaGreatRunK0
import Derived.Test.YtflcaknepncbaaaGreatRunK1
import Derived.Test.YtflcaknepncbaaaGreatRunK2
import Derived.Test.YtflcaknepncbaaaGreatRunK3
import Derived.Test.YtflcaknepncbaaaGreatRunK4
import Derived.Test.YtflcaknepncbaaaGreatRunK5
import Derived.Test.YtflcaknepncbaaaGreatRunK6
import Derived.Test.YtflcaknepncbaaaGreatRunK7
import Derived.Test.YtflcaknepncbaaaGreatRunK8
import Derived.Test.YtflcaknepncbaaaGreatRunK9
import Derived.Test.YtflcaknepncbaaaGreatRunK10
import Derived.Test.YtflcaknepncbaaaGreatRunK11
import Derived.Test.YtflcaknepncbaaaGreatRunK12
import Derived.Test.YtflcaknepncbaaaGreatRunK13
import Derived.Test.YtflcaknepncbaaaGreatRunK14
import Derived.Test.YtflcaknepncbaaaGreatRunK15
import Derived.Test.YtflcaknepncbaaaGreatRunK16
import Derived.Test.YtflcaknepncbaaaGreatRunK17
import Derived.Test.YtflcaknepncbaaaGreatRunK18
import Derived.Test.YtflcaknepncbaaaGreatRunK19
import Derived.Test.YtflcaknepncbaaaGreatRunK20
import Derived.Test.YtflcaknepncbaaaGreatRunK21
import Derived.Test.YtflcaknepncbaaaGreatRunK22
import Derived.Test.YtflcaknepncbaaaGreatRunK23
import Derived.Test.YtflcaknepncbaaaGreatRunK24
import Derived.WalkKit
import Derived.ProofKit
import Derived.OpenShut
import Derived.HandedShaped
namespace Go.Proofs.YtflcaknepncbaaaGreat
open Go Go.Ev Go.ChangeShapes Go.WideShapes Go.ChangeAt Go.RowKit
set_option linter.unusedVariables false

theorem mem_all : ∀ r0, r0 < 22 → ∀ r1, r1 < 9 → (r0, r1) ∈ ks0 ++ ks1 ++ ks2 ++ ks3 ++ ks4 ++ ks5 ++ ks6 ++ ks7 ++ ks8 ++ ks9 ++ ks10 ++ ks11 ++ ks12 ++ ks13 ++ ks14 ++ ks15 ++ ks16 ++ ks17 ++ ks18 ++ ks19 ++ ks20 ++ ks21 ++ ks22 ++ ks23 ++ ks24 ++ ks25 ++ ks26 ++ ks27 ++ ks28 ++ ks29 ++ ks30 ++ ks31 ++ ks32 ++ ks33 ++ ks34 ++ ks35 ++ ks36 ++ ks37 ++ ks38 ++ ks39 ++ ks40 ++ ks41 ++ ks42 ++ ks43 ++ ks44 ++ ks45 ++ ks46 ++ ks47 ++ ks48 ++ ks49 := of_decide_eq_true (by kernel_rfl)
theorem run_all (r0 : Nat) (h0 : r0 < 22) (r1 : Nat) (h1 : r1 < 9) : run r0 r1 = true := by
  have tot : (ks0 ++ ks1 ++ ks2 ++ ks3 ++ ks4 ++ ks5 ++ ks6 ++ ks7 ++ ks8 ++ ks9 ++ ks10 ++ ks11 ++ ks12 ++ ks13 ++ ks14 ++ ks15 ++ ks16 ++ ks17 ++ ks18 ++ ks19 ++ ks20 ++ ks21 ++ ks22 ++ ks23 ++ ks24 ++ ks25 ++ ks26 ++ ks27 ++ ks28 ++ ks29 ++ ks30 ++ ks31 ++ ks32 ++ ks33 ++ ks34 ++ ks35 ++ ks36 ++ ks37 ++ ks38 ++ ks39 ++ ks40 ++ ks41 ++ ks42 ++ ks43 ++ ks44 ++ ks45 ++ ks46 ++ ks47 ++ ks48 ++ ks49).all (fun x => run x.1 x.2) = true := by simp only [List.all_append, run0, run1, run2, run3, run4, run5, run6, run7, run8, run9, run10, run11, run12, run13, run14, run15, run16, run17, run18, run19, run20, run21, run22, run23, run24, run25, run26, run27, run28, run29, run30, run31, run32, run33, run34, run35, run36, run37, run38, run39, run40, run41, run42, run43, run44, run45, run46, run47, run48, run49, Bool.and_self]
  exact List.all_eq_true.1 tot (r0, r1) (mem_all r0 h0 r1 h1)
theorem ext2_ok' : ∀ w, HoldsInt w 0 → ExtOk Tryz.prog w (ext2 430 390) := fun w hw =>
  ext2_ok (g := 0) ⟨_, Tryz.func430, rfl⟩ ⟨_, Tryz.func390, rfl⟩ Tryz.stringslite_IndexByte Tryz.stringslite_Index hw
theorem ext1_ok : ∀ w, HoldsInt w 0 → ExtOk Tryz.prog w ext1 := withTab_ok mixed named (g := 0) ext2_ok' ext2_ok' tab_run
theorem ext_ok : ∀ w, HoldsInt w 0 → ExtOk Tryz.prog w ext := fun w hw =>
  withM_ok (withT_ok mixed named (g := 0) ext1_ok awake_run w hw) ⟨_, Tryz.func4, rfl⟩ fun x m w h1 h2 => mod_walk x m w h1 h2
/-- the call at one input -/
theorem walk (x0 : Int) (l0 : -9223372036854775808 ≤ x0) (u0 : x0 ≤ 9223372036854775807) (n1 : Nat) (u1 : n1 < 256) (w : World) (hw : HoldsInt w 0) : Calls Tryz.prog 3 #[.int .i64 x0, .int .u8 (n1 : Int)] w fun e w' => e = .returned (.bool true) ∧ w.keptBut w' (fun _ => False) := by
  have hA : VRs (fun _ => none) [.resid 3 22 (x0 % (22 : Nat)).toNat, .resid 4 9 (n1 % 9)] [.int .i64 x0, .int .u8 (n1 : Int)] := (VRs.cons (VR_resid (by decide) l0 u0) (VRs.cons (VR_resid8 u1) VRs.nil))
  exact law_callsX mixed named (ext_ok w hw) (fresh_ok mixed named (g := 0) ext1_ok fresh_run w hw) (run_all (x0 % (22 : Nat)).toNat (by have := Int.emod_lt_of_pos x0 (by decide : (0 : Int) < ((22 : Nat) : Int)); omega) (n1 % 9) (Nat.mod_lt _ (by decide))) hA
theorem own : ownKnob Tryz.prog.godebug = none := by kernel_rfl
set_option maxRecDepth 100000 in
theorem lifted (os : Os) (started : os.Started) (H : Type) (enc : TypeId × Value → H) :
    ReturnsInHanded {} Tryz.checked os 3 .any (Rows.checkTextSpec.pre6 enc Tryz.prog Tryz.f3 Rows.checkTextRow.domain false) (Rows.checkTextSpec.post enc Tryz.prog Tryz.f3 false true false false) := by
  refine returnsInHanded_of_change_shaped (C := Tryz.checked) own started (by kernel_rfl) Tryz.func3
    (ChangeSpec.witness6 (enc := enc) (C := Tryz.checked) false ⟨#[], #[.int .i64 0, .int .u8 0], []⟩ 8 (by kernel_rfl) (by kernel_rfl) (by kernel_rfl) (by kernel_rfl)) ?_
  intro W base args ds gs before hval0 hW _ _ hsh _
  have hval : ∀ (j : Nat) t v, Tryz.f3.params[j]? = some t → args[j]? = some v → Value.okWide Tryz.prog W .any base t v := hval0
  have hW' := hW
  obtain ⟨p, q, hA0, hV, rfl, hfz, hnd⟩ := hW
  have hA : DataW.TrodAll enc Tryz.prog W 0 (fun _ => true) true Tryz.f3.params.toList args.toList ds p := hA0
  rw [Tryz.params3] at hA hval
  obtain ⟨v0, v1, d0, d1, p0, p1, rfl, rfl, rfl, h0, h1⟩ := trodAll_two hA
  obtain ⟨rfl, rfl⟩ := trodVars_none hV
  obtain ⟨x0, rfl, rfl, rfl, wx0⟩ := open_int Tryz.underlying3 (hval 0 3 v0 rfl rfl) h0
  obtain ⟨x1, rfl, rfl, rfl, wx1⟩ := open_int Tryz.underlying5 (hval 1 5 v1 rfl rfl) h1
  clear hA0 hval0
  have hb0 : -9223372036854775808 ≤ x0 ∧ x0 ≤ 9223372036854775807 := by
    have e := wx0
    simp only [Lit.wf, Bool.and_eq_true, decide_eq_true_eq] at e
    exact e
  have hb1 : 0 ≤ x1 ∧ x1 ≤ 255 := by
    have e := wx1
    simp only [Lit.wf, Bool.and_eq_true, decide_eq_true_eq] at e
    exact e
  obtain ⟨n1, rfl⟩ : ∃ n : Nat, x1 = n := ⟨x1.toNat, by omega⟩
  refine (walk x0 hb0.1 hb0.2 n1 (by omega) W (Tryz.laysM219.s1_3 W hsh)).mono fun e W' ⟨he, hk⟩ => ?_
  subst he
  exact ⟨_, rfl, post_law rfl hW' (fun _ _ _ => trodAll_mk1 (shut_bool Tryz.underlying4 _)) (fun sp => trodAll_mk2 (shut_int Tryz.underlying3 wx0) (shut_int Tryz.underlying5 wx1)) (fun _ => rfl) hk (ok_one (by kernel_rfl) rfl (okWide_bool_mk Tryz.underlying4 _))⟩
theorem row_holds : Rows.CheckTextSaid :=
  OpenClaim.holds_of_wide 3 Tryz.f3 rfl rfl rfl rfl rfl rfl rfl ⟨rfl, rfl, rfl, rfl, rfl⟩ rfl rfl rfl rfl rfl (by kernel_rfl) Tryz.func3 facts
    (of_decide_eq_true (by kernel_rfl)) (by unfold Func.isWrapper; first | (rw [if_pos (by decide +kernel)]; kernel_rfl) | (rw [if_neg (by decide +kernel)]; exact ⟨rfl, rfl⟩))
    (fun os started H enc _ => lifted os started H enc)
#print axioms row_holds
end Go.Proofs.YtflcaknepncbaaaGreat
