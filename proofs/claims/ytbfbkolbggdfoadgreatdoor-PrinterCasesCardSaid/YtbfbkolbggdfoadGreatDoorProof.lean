/- For every input (a uint8 and two bools) PrinterCases returns true, and its arguments read behind the call as they read before; the listed package variables start as the program text lays them. -/
import Derived.Test.YtbfbkolbggdfoadGreatDoorRows
import Derived.Test.YtbfbkolbggdfoadGreatDoorCards
import Derived.Test.YtbfbkolbggdfoadGreatDoorTie
import Derived.Test.YtbfbkolbggdfoadGreatDoorShelf
import Derived.Test.YtbfbkolbggdfoadGreatDoorFacts
import Derived.Test.YtbfbkolbggdfoadGreatDoorRunK0
import Derived.Test.YtbfbkolbggdfoadGreatDoorRunK1
import Derived.Test.YtbfbkolbggdfoadGreatDoorRunK2
import Derived.WalkKit
import Derived.ProofKit
import Derived.OpenShut
import Derived.LaidMore
import Derived.LaidOnce
import Derived.Stop.Joined
import Derived.SevenTiedAt
namespace Go.Proofs.YtbfbkolbggdfoadGreatDoor
open Go Go.Ev Go.ChangeShapes Go.WideShapes Go.ChangeAt Go.RowKit
set_option linter.unusedVariables false

theorem mem_all : ∀ r0, r0 < 7 → ∀ b1, ∀ b2, (r0, b1, b2) ∈ ks0 ++ ks1 ++ ks2 := by decide
theorem run_all (r0 : Nat) (h0 : r0 < 7) (b1 : Bool) (b2 : Bool) : run r0 b1 b2 = true := by
  have tot : (ks0 ++ ks1 ++ ks2).all (fun x => run x.1 x.2.1 x.2.2) = true := by simp only [List.all_append, run0, run1, run2, Bool.and_self]
  exact List.all_eq_true.1 tot (r0, b1, b2) (mem_all r0 h0 b1 b2)
theorem ext_ok : ∀ w, HoldsInt w 1 → ExtOk Tryz.prog w ext := fun w hw =>
  withT_ok mixed named (g := 1) (fun w hw => ext2_ok (g := 1) ⟨_, Tryz.func121, rfl⟩ ⟨_, Tryz.func120, rfl⟩ Tryz.stringslite_IndexByte Tryz.stringslite_Index hw) awake_run w hw
/-- the call at one input -/
theorem walk (n0 : Nat) (u0 : n0 < 256) (b1 : Bool) (b2 : Bool) (w : World) (hw : HoldsInt w 1) : Calls Tryz.prog 3 #[.int .u8 (n0 : Int), .bool b1, .bool b2] w fun e w' => e = .returned (.bool true) ∧ w.keptBut w' (fun _ => False) := by
  have hA : VRs (fun _ => none) [.resid 4 7 (n0 % 7), .bool b1, .bool b2] [.int .u8 (n0 : Int), .bool b1, .bool b2] := (VRs.cons (VR_resid8 u0) (VRs.cons (VR_bool b1) (VRs.cons (VR_bool b2) VRs.nil)))
  exact law_calls mixed named (ext_ok w hw) (run_all (n0 % 7) (Nat.mod_lt _ (by decide)) b1 b2) hA
theorem own : ownKnob Tryz.prog.godebug = none := by kernel_rfl
/-- the start that the program's own initialisers leave meets the list of variables -/
theorem door_met (os : Os) (args : Array Value) : laidMetH Tryz.prog Rows.printerCasesRow.laid ((World.doorLaid Tryz.prog 62 os).forCall (fun _ _ => 0) ⟨#[], args, []⟩).memory :=
  laidMetH_of_parts3 (fuel := 8) (laidMet_of_run' 8 (by kernel_rfl) (by kernel_rfl)) (by kernel_rfl) (by kernel_rfl)
set_option maxRecDepth 100000 in
theorem lifted (os : Os) (started : os.Started) (H : Type) (enc : TypeId × Value → H) :
    ReturnsInHanded {} Tryz.checked os 3 .any (fun w args => (Rows.printerCasesSpec.pre enc Tryz.prog Tryz.f3 [] false w args ∧ laidMetH Tryz.prog Rows.printerCasesRow.laid w) ∧ sizedMet enc Tryz.prog Tryz.f3 (OpenSpec.ofChange Rows.printerCasesSpec) false w args)
      (Rows.printerCasesSpec.post enc Tryz.prog Tryz.f3 false true false false) := by
  refine returnsInHanded_of_law (C := Tryz.checked) (X := fun w _ => laidMetH Tryz.prog Rows.printerCasesRow.laid w) own started (by kernel_rfl) Tryz.func3
    (ChangeSpec.witness_shaped (enc := enc) (C := Tryz.checked) (os := os) (X := fun w _ => laidMetH Tryz.prog Rows.printerCasesRow.laid w) false (World.doorLaid Tryz.prog 62 os) #[.int .u8 0, .bool false, .bool false] 8 rfl (World.shaped_of_RefB (by kernel_rfl) (by kernel_rfl)) (by kernel_rfl) (by kernel_rfl) (by kernel_rfl) (door_met os _)) ?_
  intro W base args ds gs before hval0 hW hsh
  have hval : ∀ (j : Nat) t v, Tryz.f3.params[j]? = some t → args[j]? = some v → Value.okWide Tryz.prog W .any base t v := hval0
  have hW' := hW
  obtain ⟨p, q, hA0, hV, rfl, hfz, hnd⟩ := hW
  have hA : DataW.TrodAll enc Tryz.prog W 0 (fun _ => true) true Tryz.f3.params.toList args.toList ds p := hA0
  rw [Tryz.params3] at hA hval
  obtain ⟨v0, v1, v2, d0, d1, d2, p0, p1, p2, rfl, rfl, rfl, h0, h1, h2⟩ := trodAll_three hA
  obtain ⟨rfl, rfl⟩ := trodVars_none hV
  obtain ⟨x0, rfl, rfl, rfl, wx0⟩ := open_int Tryz.underlying5 (hval 0 5 v0 rfl rfl) h0
  obtain ⟨b1, rfl, rfl, rfl⟩ := open_bool Tryz.underlying4 (hval 1 4 v1 rfl rfl) h1
  obtain ⟨b2, rfl, rfl, rfl⟩ := open_bool Tryz.underlying4 (hval 2 4 v2 rfl rfl) h2
  clear hA0 hval0
  have hb0 : 0 ≤ x0 ∧ x0 ≤ 255 := by
    have e := wx0
    simp only [Lit.wf, Bool.and_eq_true, decide_eq_true_eq] at e
    exact e
  obtain ⟨n0, rfl⟩ : ∃ n : Nat, x0 = n := ⟨x0.toNat, by omega⟩
  refine (walk n0 (by omega) b1 b2 W (Tryz.laysM219.s1_3 W hsh)).mono fun e W' ⟨he, hk⟩ => ?_
  subst he
  exact ⟨_, rfl, post_law rfl hW' (fun _ _ _ => trodAll_mk1 (shut_bool Tryz.underlying4 _)) (fun sp => trodAll_mk3 (shut_int Tryz.underlying5 wx0) (shut_bool Tryz.underlying4 b1) (shut_bool Tryz.underlying4 b2)) (fun _ => rfl) hk (ok_one (by kernel_rfl) rfl (okWide_bool_mk Tryz.underlying4 _))⟩
theorem row_holds : Rows.PrinterCasesSaid :=
  OpenClaim.holds_of_wide 3 Tryz.f3 rfl rfl rfl rfl rfl rfl rfl ⟨rfl, rfl, rfl, rfl, rfl⟩ rfl rfl rfl rfl rfl (by kernel_rfl) Tryz.func3 facts
    (of_decide_eq_true (by kernel_rfl)) (by unfold Func.isWrapper; first | (rw [if_pos (by decide +kernel)]; kernel_rfl) | (rw [if_neg (by decide +kernel)]; exact ⟨rfl, rfl⟩))
    (fun os started H enc _ => lifted os started H enc)
theorem card_holds : Rows.PrinterCasesCardSaid :=
  Claim7.holds_tied_plain_at .later [] [.data, .data, .data, .sentinel, .sentinel] true Rows.printerCasesCard.stood.harness true
    row_holds (fun _ h => by cases h) (by kernel_rfl) (fun _ h => by cases h) printerCases_row_tie rfl ⟨rfl, rfl⟩ (by kernel_rfl) rfl
    (fun f fn hf hfn => by
      obtain rfl : f = 3 := Option.some.inj ((show Tryz.prog.funcNamed Rows.printerCasesRow.func = some 3 by kernel_rfl).symm.trans hf) |>.symm
      obtain rfl : fn = Tryz.f3 := (Option.some.inj (Tryz.func3.symm.trans hfn)).symm
      exact ⟨by kernel_rfl, fun j t ht => by
        rw [Tryz.params3] at ht
        have hm : t ∈ [5, 4, 4] := by simpa using Array.mem_of_getElem? ht
        have hall : ([5, 4, 4].all fun u => !Tryz.prog.wantsStandIn u) = true := by kernel_rfl
        exact (show Tryz.prog.wantsStandIn t = false by simpa using List.all_eq_true.1 hall t hm)⟩)
    (by kernel_rfl)
#print axioms card_holds
end Go.Proofs.YtbfbkolbggdfoadGreatDoor
