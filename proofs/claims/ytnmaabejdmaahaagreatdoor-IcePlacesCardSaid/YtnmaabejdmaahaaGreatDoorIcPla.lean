/- IcePlaces returns true for every input, and its argument reads behind the call as it read before. Condition: the table of the sides of a cell, which the row lists, holds what the text of the program lays (the card ties it). -/
import Derived.Test.YtnmaabejdmaahaaGreatDoorIcPla6
import Derived.Test.YtnmaabejdmaahaaGreatDoorIcPla7
import Derived.Test.YtnmaabejdmaahaaGreatDoorIcPla8
import Derived.Test.YtnmaabejdmaahaaGreatDoorIcPla9
namespace Go.Proofs.YtnmaabejdmaahaaGreatDoor.icePlaces
open Go Go.Ab Go.ChangeShapes Go.WideShapes Go.ChangeAt Go.RowKit
set_option maxRecDepth 100000 in
set_option maxHeartbeats 12800000 in
theorem lifted (os : Os) (started : os.Started) (H : Type) (enc : TypeId × Value → H) :
    ReturnsInHanded {} Tryz.checked os 3 .any (fun w args => (Rows.icePlacesSpec.pre enc Tryz.prog Tryz.f3 [] false w args ∧ laidMetH Tryz.prog laid1 w) ∧ sizedMet enc Tryz.prog Tryz.f3 (OpenSpec.ofChange Rows.icePlacesSpec) false w args)
      (Rows.icePlacesSpec.post enc Tryz.prog Tryz.f3 false true false false) := by
  refine rih_and (C := Tryz.checked) (X := fun w _ => laidMetH Tryz.prog laid1 w) (fun _ _ _ hh h => h.of_heap hh) ownKnobT started (by kernel_rfl) Tryz.func3
    (ChangeSpec.witness_shaped (enc := enc) (C := Tryz.checked) (os := os) (X := fun w _ => laidMetH Tryz.prog laid1 w) false (World.laidAll Tryz.prog os laid1) #[.agg #[.int .i64 0, .int .i64 0, .int .i64 0, .int .i64 0, .int .i64 0, .int .i64 0, .slice none 0 0]] 8 (World.laidAll_os _ _ _)
      (World.shaped_of_ZipB (by kernel_rfl) (by kernel_rfl)) (by kernel_rfl) (by kernel_rfl) (by kernel_rfl)
      (by rw [MakeChecks.laidMetH_plain _ _ _ (by kernel_rfl)]; exact laidMet_laidAll _ (by kernel_rfl) (by kernel_rfl))) ?_
  intro W base args ds gs before hval0 hW0 hsh hL
  have hval : ∀ (j : Nat) t v, Tryz.f3.params[j]? = some t → args[j]? = some v → Value.okWide Tryz.prog W .any base t v := hval0
  have hW : DataW.Whole enc Tryz.prog Tryz.f3.params.toList Rows.icePlacesSpec.vars false W args.toList ds gs before := hW0
  have hW' := hW
  obtain ⟨p, q, hA0, hV, rfl, hfz, hnd⟩ := hW
  have hA : DataW.TrodAll enc Tryz.prog W 0 (fun _ => true) true Tryz.f3.params.toList args.toList ds p := hA0
  rw [Tryz.params3] at hA hval
  obtain ⟨v0, vs0, d0, ds0, p0, q0, hargs, rfl, rfl, h0, r0⟩ := trodAll_cons hA
  obtain ⟨rfl, rfl, rfl⟩ := trodAll_nil r0
  obtain rfl : args = #[v0] := by cases args; simp_all
  obtain ⟨rfl, rfl⟩ := trodVars_none hV
  obtain ⟨x0, g0⟩ := arg_st opens_srch Tryz.underlying28 (hval 0 28 v0 rfl rfl) h0
  refine (law_callsI (IcePlaces_s x0) (args := #[v0]) (globs_ofI hL hsh) (RepL.cons g0 (RepL.nil _ _))).mono fun e W' ⟨he, hb⟩ => ?_
  subst he
  have hp : Rows.icePlacesSpec.post enc Tryz.prog Tryz.f3 false true false false W #[v0] (.bool true) W' := post_law hW' rfl (by kernel_rfl) (fun t ht => by
    rw [Tryz.params3] at ht
    have hm : t ∈ [28] := by simpa using ht
    have hall : ([28].all fun u => Tryz.prog.readableRec u && decide (u < Tryz.prog.types.size)) = true := by kernel_rfl
    have h2 := List.all_eq_true.1 hall t hm
    rw [Bool.and_eq_true, decide_eq_true_eq] at h2
    exact h2) rfl rfl rfl hb
  exact ⟨.bool true, rfl, hp⟩
theorem holds : Rows.IcePlacesSaid :=
  OpenClaim.holds_of_wide 3 Tryz.f3 rfl rfl rfl rfl rfl rfl rfl ⟨rfl, rfl, rfl, rfl, rfl⟩ rfl rfl rfl rfl rfl (by as_aux_lemma => kernel_rfl) Tryz.func3 closed
    (of_decide_eq_true (by as_aux_lemma => kernel_rfl)) (by unfold Func.isWrapper; first | (rw [if_pos (by decide +kernel)]; as_aux_lemma => kernel_rfl) | (rw [if_neg (by decide +kernel)]; exact ⟨rfl, rfl⟩))
    (fun os started H enc _ => lifted os started H enc)
theorem card_holds : Rows.IcePlacesCardSaid :=
  Claim7.holds_tied_plain_at .later [] [.data] true (true, "781787c6fb4694554b0edfb58abee9572b332e0763ba634bdb92583c9e903b31") true
    holds (fun _ h => by cases h) wfb (fun _ h => by cases h) icePlaces_row_tie rfl ⟨rfl, rfl⟩ mainT rfl
    (fun f fn hf hfn => by
      obtain rfl : f = 3 := Option.some.inj ((show Tryz.prog.funcNamed "cherenkov/cherenkovlaw03.IcePlaces" = some 3 by as_aux_lemma => kernel_rfl).symm.trans hf) |>.symm
      obtain rfl : fn = Tryz.f3 := (Option.some.inj (Tryz.func3.symm.trans hfn)).symm
      exact ⟨looksT, fun j t ht => by
        rw [Tryz.params3] at ht
        have hm : t ∈ [28] := by simpa using Array.mem_of_getElem? ht
        have hall : ([28].all fun u => !Tryz.prog.wantsStandIn u) = true := by as_aux_lemma => kernel_rfl
        exact (show Tryz.prog.wantsStandIn t = false by simpa using List.all_eq_true.1 hall t hm)⟩)
    goesF
end Go.Proofs.YtnmaabejdmaahaaGreatDoor.icePlaces
