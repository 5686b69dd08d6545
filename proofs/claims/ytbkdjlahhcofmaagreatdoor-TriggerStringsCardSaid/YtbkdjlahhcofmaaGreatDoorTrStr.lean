/- TriggerStrings returns true for every input, and each argument reads behind the call as it read before. Condition: the variables of the library that the row lists hold what the text of the program lays (the card ties them). -/
import Derived.Test.YtbkdjlahhcofmaaGreatDoorTrStr7
import Derived.Test.YtbkdjlahhcofmaaGreatDoorTrStr8
import Derived.Test.YtbkdjlahhcofmaaGreatDoorTrStr9
import Derived.Test.YtbkdjlahhcofmaaGreatDoorTrStr10
namespace Go.Proofs.YtbkdjlahhcofmaaGreatDoor.triggerStrings
open Go Go.Ab Go.ChangeShapes Go.WideShapes Go.ChangeAt Go.RowKit
set_option maxRecDepth 100000 in
set_option maxHeartbeats 12800000 in
theorem lifted (os : Os) (started : os.Started) (H : Type) (enc : TypeId × Value → H) :
    ReturnsInHanded {} Tryz.checked os 8 .any (fun w args => (Rows.triggerStringsSpec.pre enc Tryz.prog Tryz.f8 [] false w args ∧ laidMetH Tryz.prog laid7 w) ∧ sizedMet enc Tryz.prog Tryz.f8 (OpenSpec.ofChange Rows.triggerStringsSpec) false w args)
      (Rows.triggerStringsSpec.post enc Tryz.prog Tryz.f8 false true false false) := by
  refine rih_and (C := Tryz.checked) (X := fun w _ => laidMetH Tryz.prog laid7 w) (fun _ _ _ hh h => h.of_heap hh) ownKnobT started (by kernel_rfl) Tryz.func8
    (ChangeSpec.witness_shaped (enc := enc) (C := Tryz.checked) (os := os) (X := fun w _ => laidMetH Tryz.prog laid7 w) false (World.laidAll Tryz.prog os laid7) #[.agg #[.int .i64 0, .int .i64 0, .int .i64 0, .int .i64 0, .int .i64 0], .agg #[.int .i64 0, .int .i64 0, .int .i64 0], .string ⟨#[]⟩] 8 (World.laidAll_os _ _ _)
      (World.shaped_of_ZipB (by kernel_rfl) (by kernel_rfl)) (by kernel_rfl) (by kernel_rfl) (by kernel_rfl)
      (by rw [MakeChecks.laidMetH_plain _ _ _ (by kernel_rfl)]; exact laidMet_laidAll _ (by kernel_rfl) (by kernel_rfl))) ?_
  intro W base args ds gs before hval0 hW0 hsh hL
  have hval : ∀ (j : Nat) t v, Tryz.f8.params[j]? = some t → args[j]? = some v → Value.okWide Tryz.prog W .any base t v := hval0
  have hW : DataW.Whole enc Tryz.prog Tryz.f8.params.toList Rows.triggerStringsSpec.vars false W args.toList ds gs before := hW0
  have hW' := hW
  obtain ⟨p, q, hA0, hV, rfl, hfz, hnd⟩ := hW
  have hA : DataW.TrodAll enc Tryz.prog W 0 (fun _ => true) true Tryz.f8.params.toList args.toList ds p := hA0
  rw [Tryz.params8] at hA hval
  obtain ⟨v0, vs0, d0, ds0, p0, q0, hargs, rfl, rfl, h0, r0⟩ := trodAll_cons hA
  obtain ⟨v1, vs1, d1, ds1, p1, q1, rfl, rfl, rfl, h1, r1⟩ := trodAll_cons r0
  obtain ⟨v2, vs2, d2, ds2, p2, q2, rfl, rfl, rfl, h2, r2⟩ := trodAll_cons r1
  obtain ⟨rfl, rfl, rfl⟩ := trodAll_nil r2
  obtain rfl : args = #[v0, v1, v2] := by cases args; simp_all
  obtain ⟨rfl, rfl⟩ := trodVars_none hV
  obtain ⟨x0, g0⟩ := arg_st opens_rulw Tryz.underlying44 (hval 0 44 v0 rfl rfl) h0
  obtain ⟨x1, g1⟩ := arg_st opens_hitw Tryz.underlying50 (hval 1 50 v1 rfl rfl) h1
  obtain ⟨x2, g2⟩ := arg_s (hval 2 9 v2 rfl rfl) h2
  refine (law_callsS (TriggerStrings_s x0.1 x1.1 x2 x0.2 x1.2) (args := #[v0, v1, v2]) (globs_of hL hsh) (RepL.cons g0 (RepL.cons g1 (RepL.cons g2 (RepL.nil _ _))))).mono fun e W' ⟨he, hb⟩ => ?_
  subst he
  have hp : Rows.triggerStringsSpec.post enc Tryz.prog Tryz.f8 false true false false W #[v0, v1, v2] (.bool true) W' := post_law hW' rfl (by kernel_rfl) (fun t ht => by
    rw [Tryz.params8] at ht
    have hm : t ∈ [44, 50, 9] := by simpa using ht
    have hall : ([44, 50, 9].all fun u => Tryz.prog.readableRec u && decide (u < Tryz.prog.types.size)) = true := by kernel_rfl
    have h2 := List.all_eq_true.1 hall t hm
    rw [Bool.and_eq_true, decide_eq_true_eq] at h2
    exact h2) rfl rfl rfl hb
  exact ⟨.bool true, rfl, hp⟩
theorem holds : Rows.TriggerStringsSaid :=
  OpenClaim.holds_of_wide 8 Tryz.f8 rfl rfl rfl rfl rfl rfl rfl ⟨rfl, rfl, rfl, rfl, rfl⟩ rfl rfl rfl rfl rfl (by as_aux_lemma => kernel_rfl) Tryz.func8 closed
    (of_decide_eq_true (by as_aux_lemma => kernel_rfl)) (by unfold Func.isWrapper; first | (rw [if_pos (by decide +kernel)]; as_aux_lemma => kernel_rfl) | (rw [if_neg (by decide +kernel)]; exact ⟨rfl, rfl⟩))
    (fun os started H enc _ => lifted os started H enc)
theorem card_holds : Rows.TriggerStringsCardSaid :=
  Claim7.holds_tied_plain_at .later [] [.data, .data, .data, .data, .sentinel, .sentinel, .pinned] true (true, "9fdafd392fc4baf11d1d0a86c4b3daf8f8217a59c4600aeca29490a9de12145c") true
    holds (fun _ h => by cases h) wfb (fun _ h => by cases h) triggerStrings_row_tie rfl ⟨rfl, rfl⟩ mainT rfl
    (fun f fn hf hfn => by
      obtain rfl : f = 8 := Option.some.inj ((show Tryz.prog.funcNamed "cherenkov/cherenkovlaw04.TriggerStrings" = some 8 by as_aux_lemma => kernel_rfl).symm.trans hf) |>.symm
      obtain rfl : fn = Tryz.f8 := (Option.some.inj (Tryz.func8.symm.trans hfn)).symm
      exact ⟨looksT, fun j t ht => by
        rw [Tryz.params8] at ht
        have hm : t ∈ [44, 50, 9] := by simpa using Array.mem_of_getElem? ht
        have hall : ([44, 50, 9].all fun u => !Tryz.prog.wantsStandIn u) = true := by as_aux_lemma => kernel_rfl
        exact (show Tryz.prog.wantsStandIn t = false by simpa using List.all_eq_true.1 hall t hm)⟩)
    goesF
end Go.Proofs.YtbkdjlahhcofmaaGreatDoor.triggerStrings
