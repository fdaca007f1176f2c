/- For every list of numbers ScopePlaces returns true, and its argument reads behind the call as it read before; the listed package variables start as the program text lays them. -/
import Derived.Test.YtehnkiaepkldiaaGreatDoorSpK
import Derived.Test.YtehnkiaepkldiaaGreatDoorRows
import Derived.Test.YtehnkiaepkldiaaGreatDoorCards
import Derived.Test.YtehnkiaepkldiaaGreatDoorTie
import Derived.WalkKit
import Derived.ProofKit
import Derived.OpenShut
import Derived.ChangeSlices
import Derived.LaidMore
import Derived.LaidOnce
import Derived.Stop.Joined
import Derived.SevenTiedAt
namespace Go.Proofs.YtehnkiaepkldiaaGreatDoor
open Go Go.Ev Go.Sp Go.ChangeShapes Go.WideShapes Go.ChangeAt Go.RowKit
set_option linter.unusedVariables false
theorem fact1 : (Rows.scopePlacesRow.inPlace == Tryz.pinned.checked.prog.inPlace 3) = true := by kernel_rfl
theorem fact2 : (Rows.scopePlacesRow.unfollowed == Tryz.pinned.checked.prog.unfollowed 3) = true := by kernel_rfl
theorem fact3 : (Rows.scopePlacesRow.recurses == Tryz.pinned.checked.prog.recurses 3) = true := by kernel_rfl
theorem fact4 : (Rows.scopePlacesRow.named == Tryz.pinned.checked.prog.varsNamed 3) = true := by kernel_rfl
theorem facts : joinedFacts Tryz.pinned.checked.prog 3 Tryz.f3 Rows.scopePlacesSpec Rows.scopePlacesRow = true := by
  unfold joinedFacts
  rw [fact1, fact2, fact3, fact4]
  kernel_rfl
section
variable {H : Type} {enc : TypeId × Value → H}
/-- 'post' for a law that leaves all that was there as it was -/
theorem post_kept {P : Program} {f : Func} {s : ChangeSpec} {apart fresh handsOn again : Bool} {W W' : World} {args : Array Value} {v : Value} {ds gs : List (DataW H)} {before pa pv : List MemPlace}
    (hW : DataW.Whole enc P f.params.toList s.vars apart W args.toList ds gs before)
    (hres : ∀ (b : Nat) (sp : Nat → Bool) (hd : Bool), DataW.TrodAll enc P W' b sp hd f.resultTypes.toList (v.resultList f.resultTypes.size) (s.fn H (ds ++ gs)).results [])
    (hargs : ∀ sp : Nat → Bool, (∀ p ∈ before, sp p.block = true) → DataW.TrodAll enc P W' 0 sp true f.params.toList args.toList (s.fn H (ds ++ gs)).args pa)
    (hvars : ∀ sp : Nat → Bool, (∀ p ∈ before, sp p.block = true) → DataW.TrodVars enc P W' sp s.vars (s.fn H (ds ++ gs)).vars pv)
    (hps : before = pa ++ pv) (hk : W.keptBut W' (fun _ => False)) (hfz : ∀ a, a.block < W.heap.size → W'.frozen? a = W.frozen? a)
    (hok : ∀ (j : Nat) (t : TypeId) (r : Value), f.resultTypes[j]? = some t → (v.resultList f.resultTypes.size)[j]? = some r → Value.okWide P W' .any 0 t r) :
    s.post enc P f apart fresh handsOn again W args v W' := by
  have hlt : ∀ p ∈ before, p.block < W.heap.size := fun p hp => hW.lt p hp
  have hold : ∀ p ∈ before, (fun b => decide (b < W.heap.size)) p.block = true := fun p hp => by simpa using hlt p hp
  refine ⟨ds, gs, before, [], pa, pv, hW, hres _ _ _, hargs _ hold, hvars _ hold, World.keptBut_mono (fun p hp => hp.elim) hk, fun _ => ?_⟩
  obtain ⟨_, _, _, _, _, hz, hn⟩ := hW
  refine ⟨hok, _, _, ([] ++ pa) ++ pv, ⟨[] ++ pa, pv, trodAll_append (hargs _ (fun _ _ => rfl)) (hres _ _ _), hvars _ (fun _ _ => rfl), rfl, ?_, ?_⟩, ?_⟩
  · intro b off hp
    have hb : MemPlace.cell b off ∈ before := by rw [hps]; simpa using hp
    rw [hfz _ (hlt _ hb)]
    exact hz b off hb
  · intro ha
    have := hn ha
    rw [hps] at this
    simpa using this
  · intro p hp _
    rw [hps]
    simpa using hp
end
theorem own : ownKnob Tryz.prog.godebug = none := by kernel_rfl
theorem cells3 : Tryz.prog.cellsOf 3 = 1 := by kernel_rfl
/-- the start that the program's own initialisers leave meets the list of variables -/
theorem door_met (os : Os) (args : Array Value) : laidMetH Tryz.prog Rows.scopePlacesRow.laid ((World.doorLaid Tryz.prog 62 os).forCall (fun _ _ => 0) ⟨#[], args, []⟩).memory :=
  laidMetH_of_parts3 (fuel := 8) (laidMet_of_run' 8 (by kernel_rfl) (by kernel_rfl)) (by kernel_rfl) (by kernel_rfl)
set_option maxRecDepth 100000 in
theorem lifted (os : Os) (started : os.Started) (H : Type) (enc : TypeId × Value → H) :
    ReturnsInHanded {} Tryz.checked os 3 .any (fun w args => (Rows.scopePlacesSpec.pre enc Tryz.prog Tryz.f3 [] false w args ∧ laidMetH Tryz.prog Rows.scopePlacesRow.laid w) ∧ sizedMet enc Tryz.prog Tryz.f3 (OpenSpec.ofChange Rows.scopePlacesSpec) false w args)
      (Rows.scopePlacesSpec.post enc Tryz.prog Tryz.f3 false true false false) := by
  refine returnsInHanded_of_law (C := Tryz.checked) (X := fun w _ => laidMetH Tryz.prog Rows.scopePlacesRow.laid w) own started (by kernel_rfl) Tryz.func3
    (ChangeSpec.witness_shaped (enc := enc) (C := Tryz.checked) (os := os) (X := fun w _ => laidMetH Tryz.prog Rows.scopePlacesRow.laid w) false (World.doorLaid Tryz.prog 62 os) #[.slice none 0 0] 8 rfl (World.shaped_of_RefB (by kernel_rfl) (by kernel_rfl)) (by kernel_rfl) (by kernel_rfl) (by kernel_rfl) (door_met os _)) ?_
  intro W base args ds gs before hval0 hW hsh
  have hval : ∀ (j : Nat) t v, Tryz.f3.params[j]? = some t → args[j]? = some v → Value.okWide Tryz.prog W .any base t v := hval0
  have hW' := hW
  obtain ⟨p, q, hA0, hV, rfl, hfz, hnd⟩ := hW
  have hA : DataW.TrodAll enc Tryz.prog W 0 (fun _ => true) true Tryz.f3.params.toList args.toList ds p := hA0
  rw [Tryz.params3] at hA hval
  obtain ⟨v0, d0, rfl, rfl, h0⟩ := trodAll_one hA
  obtain ⟨rfl, rfl⟩ := trodVars_none hV
  obtain ⟨ao, len, cap, rfl⟩ := okWide_slice Tryz.underlying22 (hval 0 22 v0 rfl rfl)
  clear hA0 hval0 hval
  obtain ⟨fuel0, hf⟩ := h0
  have hw : HoldsInt W 0 := Tryz.laysM219.s1_3 W hsh
  -- what is left as it was
  have fin : ∀ W' : World, W'.os = W.os → W'.output = W.output → (∀ i, i < W.heap.size → W'.heap[i]? = W.heap[i]?) →
      (∀ sp : Nat → Bool, (∀ p' ∈ p ++ [], sp p'.block = true) → DataW.TrodAll enc Tryz.prog W' 0 sp true [22] [.slice ao len cap] [d0] p) →
      Rows.scopePlacesSpec.post enc Tryz.prog Tryz.f3 false true false false W #[.slice ao len cap] (.bool true) W' := by
    intro W' h1 h2 h3 h4
    refine post_kept hW' (fun _ _ _ => trodAll_mk1 (shut_bool Tryz.underlying4 _)) h4 (fun sp _ => rfl) (pv := []) (by simp) ⟨h1, h2, fun i hi => ?_⟩ (fun a ha => ?_) (ok_one (by kernel_rfl) rfl (okWide_bool_mk Tryz.underlying4 _))
    · rw [h3 i hi]
      exact (World.keptBut_refl W (fun _ => False)).2.2 i hi
    · unfold World.frozen?
      rw [h3 _ ha]
  rcases open_ints Tryz.underlying22 Tryz.underlying3 cells3 hf with ⟨hcs, hx⟩ | ⟨a, len', cap', zs, hcs, hba, hl, hm, hz, hx, hcell, hwz⟩
  · simp [Value.cells] at hcs
    obtain ⟨rfl, rfl, rfl⟩ := hcs
    simp only [Prod.mk.injEq] at hx
    obtain ⟨rfl, rfl⟩ := hx
    refine (walk3 none 0 0 W hw (fun a h => by cases h) (fun h => by omega) (fun a h => by cases h)).mono fun e W' ⟨he, h1, h2, _, _, h3⟩ => ?_
    subst he
    exact ⟨_, rfl, fin W' h1 h2 h3 fun sp _ => trodAll_mk1 ⟨2, by simp [Value.cells, DataW.trod, Tryz.underlying22]⟩⟩
  · simp [Value.cells] at hcs
    obtain ⟨rfl, rfl, rfl⟩ := hcs
    simp only [Prod.mk.injEq] at hx
    obtain ⟨rfl, rfl⟩ := hx
    simp only [if_true] at hz
    have hcell' : ∀ i, i < zs.length → ∃ x, W.cell? (a.add i) = some (.int .i64 x) := fun i hi => ⟨_, hcell i hi⟩
    have hblk : 0 < zs.length → a.block < W.heap.size := fun h => by
      have h1 := hcell 0 h
      rcases Nat.lt_or_ge a.block W.heap.size with h2 | h2
      · exact h2
      · exfalso
        have e3 : (a.add 0).block = a.block := block_add a 0
        unfold World.cell? at h1
        rw [e3, Array.getElem?_eq_none h2] at h1
        cases h1
    refine (walk3 (some a) len cap W hw (fun a' h hlen => by cases h; exact hblk (by omega)) (fun _ => ⟨a, rfl⟩) (fun a' h j hj => by cases h; exact hcell' j (by omega))).mono fun e W' ⟨he, h1, h2, _, _, h3⟩ => ?_
    subst he
    refine ⟨_, rfl, fin W' h1 h2 h3 fun sp hsp => trodAll_mk1 ⟨2, ?_⟩⟩
    refine shut_ints 0 Tryz.underlying22 Tryz.underlying3 cells3 (Nat.zero_le _) hl hm ?_ (fun i hi => ?_) hwz
    · by_cases hz0 : zs.length = 0
      · split <;> omega
      · rw [if_pos]
        · exact hz
        · refine hsp (.cell a.block a.off) ?_
          exact List.mem_append_left _ (MemPlace.mem_row.2 ⟨0, by omega, rfl⟩)
    · rw [← hcell i hi]
      unfold World.cell?
      rw [block_add, h3 _ (hblk (by omega))]
theorem row_holds : Rows.ScopePlacesSaid :=
  OpenClaim.holds_of_wide 3 Tryz.f3 rfl rfl rfl rfl rfl rfl rfl ⟨rfl, rfl, rfl, rfl, rfl⟩ rfl rfl rfl rfl rfl (by kernel_rfl) Tryz.func3 facts
    (of_decide_eq_true (by kernel_rfl)) (by unfold Func.isWrapper; first | (rw [if_pos (by decide +kernel)]; kernel_rfl) | (rw [if_neg (by decide +kernel)]; exact ⟨rfl, rfl⟩))
    (fun os started H enc _ => lifted os started H enc)
theorem card_holds : Rows.ScopePlacesCardSaid :=
  Claim7.holds_tied_plain_at .later [] [.data, .data, .data, .sentinel, .sentinel] true Rows.scopePlacesCard.stood.harness true
    row_holds (fun _ h => by cases h) (by kernel_rfl) (fun _ h => by cases h) scopePlaces_row_tie rfl ⟨rfl, rfl⟩ (by kernel_rfl) rfl
    (fun f fn hf hfn => by
      obtain rfl : f = 3 := Option.some.inj ((show Tryz.prog.funcNamed Rows.scopePlacesRow.func = some 3 by kernel_rfl).symm.trans hf) |>.symm
      obtain rfl : fn = Tryz.f3 := (Option.some.inj (Tryz.func3.symm.trans hfn)).symm
      exact ⟨by kernel_rfl, fun j t ht => by
        rw [Tryz.params3] at ht
        have hm : t ∈ [22] := by simpa using Array.mem_of_getElem? ht
        have hall : ([22].all fun u => !Tryz.prog.wantsStandIn u) = true := by kernel_rfl
        exact (show Tryz.prog.wantsStandIn t = false by simpa using List.all_eq_true.1 hall t hm)⟩)
    (by kernel_rfl)
#print axioms card_holds
end Go.Proofs.YtehnkiaepkldiaaGreatDoor
