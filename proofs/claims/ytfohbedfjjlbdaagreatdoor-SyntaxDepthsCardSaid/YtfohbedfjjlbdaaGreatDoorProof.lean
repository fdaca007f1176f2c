/- For every input (a uint8) SyntaxDepths returns true, and its argument reads behind the call as it read before; the listed package variables start as the program text lays them. -/
import Derived.Test.YtfohbedfjjlbdaaGreatDoorRows
import Derived.Test.YtfohbedfjjlbdaaGreatDoorCards
import Derived.Test.YtfohbedfjjlbdaaGreatDoorTie
import Derived.Test.YtfohbedfjjlbdaaGreatDoorShelf
import Derived.Test.YtfohbedfjjlbdaaGreatDoorRunK0
import Derived.Test.YtfohbedfjjlbdaaGreatDoorRunK1
import Derived.Test.YtfohbedfjjlbdaaGreatDoorRunK2
import Derived.Test.YtfohbedfjjlbdaaGreatDoorRunK3
import Derived.Test.YtfohbedfjjlbdaaGreatDoorRunK4
import Derived.Test.YtfohbedfjjlbdaaGreatDoorRunK5
import Derived.Test.YtfohbedfjjlbdaaGreatDoorRunK6
import Derived.Test.YtfohbedfjjlbdaaGreatDoorRunK7
import Derived.Test.YtfohbedfjjlbdaaGreatDoorRunK8
import Derived.Test.YtfohbedfjjlbdaaGreatDoorRunK9
import Derived.Test.YtfohbedfjjlbdaaGreatDoorRunK10
import Derived.Test.YtfohbedfjjlbdaaGreatDoorRunK11
import Derived.Test.YtfohbedfjjlbdaaGreatDoorRunK12
import Derived.WalkKit
import Derived.ProofKit
import Derived.OpenShut
import Derived.LaidMore
import Derived.LaidOnce
import Derived.Stop.Joined
import Derived.SevenTiedAt
namespace Go.Proofs.YtfohbedfjjlbdaaGreatDoor
open Go Go.Ev Go.ChangeShapes Go.WideShapes Go.ChangeAt Go.RowKit
set_option linter.unusedVariables false

theorem mem_all : ∀ k, k < 50 → k ∈ ks0 ++ ks1 ++ ks2 ++ ks3 ++ ks4 ++ ks5 ++ ks6 ++ ks7 ++ ks8 ++ ks9 ++ ks10 ++ ks11 ++ ks12 := by decide
theorem suf_all (k : Nat) (h : k < 50) : suf k = true := by
  have tot : (ks0 ++ ks1 ++ ks2 ++ ks3 ++ ks4 ++ ks5 ++ ks6 ++ ks7 ++ ks8 ++ ks9 ++ ks10 ++ ks11 ++ ks12).all suf = true := by simp only [List.all_append, run0, run1, run2, run3, run4, run5, run6, run7, run8, run9, run10, run11, run12, Bool.and_self]
  exact List.all_eq_true.1 tot k (mem_all k h)
theorem ext_ok : ∀ w, HoldsInt w 0 → ExtOk Tryz.prog w ext :=
  withT_ok mixed named (fun w hw => ext2_ok (g := 0) ⟨_, Tryz.func119, rfl⟩ ⟨_, Tryz.func140, rfl⟩ Tryz.stringslite_IndexByte Tryz.stringslite_Index hw) awake_run
/-- the call at one input -/
theorem walk (n : Nat) (hn : n < 256) (w : World) (hw : HoldsInt w 0) : Calls Tryz.prog 3 #[.int .u8 n] w fun e w' => e = .returned (.bool true) ∧ w.keptBut w' (fun _ => False) := by
  have hA : VRs (fun _ => none) [.int 4 n] [.int .u8 (n : Int)] := VRs.cons (by
    simp only [VR]
    exact ⟨by decide, hn, by rw [sgn_small (show n < halfOf 4 from hn)]; rfl⟩) VRs.nil
  exact law_cut mixed named (ext_ok w hw) (below_spec pre_run n hn) (suf_all (n % 50) (Nat.mod_lt _ (by decide))) hA
theorem own : ownKnob Tryz.prog.godebug = none := by kernel_rfl
/-- the start that the program's own initialisers leave meets the list of variables -/
theorem door_met (os : Os) (args : Array Value) : laidMetH Tryz.prog Rows.syntaxDepthsRow.laid ((World.doorLaid Tryz.prog 62 os).forCall (fun _ _ => 0) ⟨#[], args, []⟩).memory :=
  laidMetH_of_parts3 (fuel := 8) (laidMet_of_run' 8 (by kernel_rfl) (by kernel_rfl)) (by kernel_rfl) (by kernel_rfl)
set_option maxRecDepth 100000 in
theorem lifted (os : Os) (started : os.Started) (H : Type) (enc : TypeId × Value → H) :
    ReturnsInHanded {} Tryz.checked os 3 .any (fun w args => (Rows.syntaxDepthsSpec.pre enc Tryz.prog Tryz.f3 [] false w args ∧ laidMetH Tryz.prog Rows.syntaxDepthsRow.laid w) ∧ sizedMet enc Tryz.prog Tryz.f3 (OpenSpec.ofChange Rows.syntaxDepthsSpec) false w args)
      (Rows.syntaxDepthsSpec.post enc Tryz.prog Tryz.f3 false true false false) := by
  refine returnsInHanded_of_law (C := Tryz.checked) (X := fun w _ => laidMetH Tryz.prog Rows.syntaxDepthsRow.laid w) own started (by kernel_rfl) Tryz.func3
    (ChangeSpec.witness_shaped (enc := enc) (C := Tryz.checked) (os := os) (X := fun w _ => laidMetH Tryz.prog Rows.syntaxDepthsRow.laid w) false (World.doorLaid Tryz.prog 62 os) #[.int .u8 0] 8 rfl (World.shaped_of_RefB (by kernel_rfl) (by kernel_rfl)) (by kernel_rfl) (by kernel_rfl) (by kernel_rfl) (door_met os _)) ?_
  intro W base args ds gs before hval0 hW hsh
  have hval : ∀ (j : Nat) t v, Tryz.f3.params[j]? = some t → args[j]? = some v → Value.okWide Tryz.prog W .any base t v := hval0
  have hW' := hW
  obtain ⟨p, q, hA0, hV, rfl, hfz, hnd⟩ := hW
  have hA : DataW.TrodAll enc Tryz.prog W 0 (fun _ => true) true Tryz.f3.params.toList args.toList ds p := hA0
  rw [Tryz.params3] at hA hval
  obtain ⟨v0, d0, rfl, rfl, h0⟩ := trodAll_one hA
  obtain ⟨rfl, rfl⟩ := trodVars_none hV
  obtain ⟨a0, rfl, rfl, rfl, wx⟩ := open_int Tryz.underlying5 (hval 0 5 v0 rfl rfl) h0
  clear hA0 hval0
  have hb : 0 ≤ a0 ∧ a0 ≤ 255 := by
    have e := wx
    simp only [Lit.wf, Bool.and_eq_true, decide_eq_true_eq] at e
    exact e
  obtain ⟨n, rfl⟩ : ∃ n : Nat, a0 = n := ⟨a0.toNat, by omega⟩
  refine (walk n (by omega) W (Tryz.laysM219.s1_3 W hsh)).mono fun e W' ⟨he, hk⟩ => ?_
  subst he
  exact ⟨_, rfl, post_law rfl hW' (fun _ _ _ => trodAll_mk1 (shut_bool Tryz.underlying4 _)) (fun sp => trodAll_mk1 (shut_int Tryz.underlying5 wx)) (fun _ => rfl) hk (ok_one (by kernel_rfl) rfl (okWide_bool_mk Tryz.underlying4 _))⟩
theorem row_holds : Rows.SyntaxDepthsSaid :=
  OpenClaim.holds_of_wide 3 Tryz.f3 rfl rfl rfl rfl rfl rfl rfl ⟨rfl, rfl, rfl, rfl, rfl⟩ rfl rfl rfl rfl rfl (by kernel_rfl) Tryz.func3 (by kernel_rfl)
    (of_decide_eq_true (by kernel_rfl)) (by unfold Func.isWrapper; first | (rw [if_pos (by decide +kernel)]; kernel_rfl) | (rw [if_neg (by decide +kernel)]; exact ⟨rfl, rfl⟩))
    (fun os started H enc _ => lifted os started H enc)
theorem card_holds : Rows.SyntaxDepthsCardSaid :=
  Claim7.holds_tied_plain_at .later [] [.data, .data, .data, .sentinel, .sentinel] true Rows.syntaxDepthsCard.stood.harness true
    row_holds (fun _ h => by cases h) (by kernel_rfl) (fun _ h => by cases h) syntaxDepths_row_tie rfl ⟨rfl, rfl⟩ (by kernel_rfl) rfl
    (fun f fn hf hfn => by
      obtain rfl : f = 3 := Option.some.inj ((show Tryz.prog.funcNamed Rows.syntaxDepthsRow.func = some 3 by kernel_rfl).symm.trans hf) |>.symm
      obtain rfl : fn = Tryz.f3 := (Option.some.inj (Tryz.func3.symm.trans hfn)).symm
      exact ⟨by kernel_rfl, fun j t ht => by
        rw [Tryz.params3] at ht
        have hm : t ∈ [5] := by simpa using Array.mem_of_getElem? ht
        have hall : ([5].all fun u => !Tryz.prog.wantsStandIn u) = true := by kernel_rfl
        exact (show Tryz.prog.wantsStandIn t = false by simpa using List.all_eq_true.1 hall t hm)⟩)
    (by kernel_rfl)
#print axioms card_holds
end Go.Proofs.YtfohbedfjjlbdaaGreatDoor
