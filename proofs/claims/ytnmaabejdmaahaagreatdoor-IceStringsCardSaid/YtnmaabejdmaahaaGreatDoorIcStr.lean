/- IceStrings returns true for every input, and each argument reads behind the call as it read before. Condition: the variables that the row lists (the table of the sides of a cell, and those of the library: the powers of ten, the two errors of strconv and others) hold what the text of the program lays (the card ties it). -/
import Derived.Test.YtnmaabejdmaahaaGreatDoorIcStr6
import Derived.Test.YtnmaabejdmaahaaGreatDoorIcStr7
import Derived.Test.YtnmaabejdmaahaaGreatDoorIcStr8
import Derived.Test.YtnmaabejdmaahaaGreatDoorIcStr9
namespace Go.Proofs.YtnmaabejdmaahaaGreatDoor.iceStrings
open Go Go.Ab Go.ChangeShapes Go.WideShapes Go.ChangeAt Go.RowKit
set_option maxRecDepth 100000 in
set_option maxHeartbeats 12800000 in
theorem lifted (os : Os) (started : os.Started) (H : Type) (enc : TypeId × Value → H) :
    ReturnsInHanded {} Tryz.checked os 4 .any (fun w args => (Rows.iceStringsSpec.pre enc Tryz.prog Tryz.f4 [] false w args ∧ laidMetH Tryz.prog laid8 w) ∧ sizedMet enc Tryz.prog Tryz.f4 (OpenSpec.ofChange Rows.iceStringsSpec) false w args)
      (Rows.iceStringsSpec.post enc Tryz.prog Tryz.f4 false true false false) := by
  refine rih_and (C := Tryz.checked) (X := fun w _ => laidMetH Tryz.prog laid8 w) (fun _ _ _ hh h => h.of_heap hh) ownKnobT started (by kernel_rfl) Tryz.func4
    (ChangeSpec.witness_shaped (enc := enc) (C := Tryz.checked) (os := os) (X := fun w _ => laidMetH Tryz.prog laid8 w) false (World.laidAll Tryz.prog os laid8) #[.agg #[.slice none 0 0, .int .i64 0, .slice none 0 0], .string ⟨#[]⟩] 8 (World.laidAll_os _ _ _)
      (World.shaped_of_ZipB (by kernel_rfl) (by kernel_rfl)) (by kernel_rfl) (by kernel_rfl) (by kernel_rfl)
      (by rw [MakeChecks.laidMetH_plain _ _ _ (by kernel_rfl)]; exact laidMet_laidAll _ (by kernel_rfl) (by kernel_rfl))) ?_
  intro W base args ds gs before hval0 hW0 hsh hL
  have hval : ∀ (j : Nat) t v, Tryz.f4.params[j]? = some t → args[j]? = some v → Value.okWide Tryz.prog W .any base t v := hval0
  have hW : DataW.Whole enc Tryz.prog Tryz.f4.params.toList Rows.iceStringsSpec.vars false W args.toList ds gs before := hW0
  have hW' := hW
  obtain ⟨p, q, hA0, hV, rfl, hfz, hnd⟩ := hW
  have hA : DataW.TrodAll enc Tryz.prog W 0 (fun _ => true) true Tryz.f4.params.toList args.toList ds p := hA0
  rw [Tryz.params4] at hA hval
  obtain ⟨v0, vs0, d0, ds0, p0, q0, hargs, rfl, rfl, h0, r0⟩ := trodAll_cons hA
  obtain ⟨v1, vs1, d1, ds1, p1, q1, rfl, rfl, rfl, h1, r1⟩ := trodAll_cons r0
  obtain ⟨rfl, rfl, rfl⟩ := trodAll_nil r1
  obtain rfl : args = #[v0, v1] := by cases args; simp_all
  obtain ⟨rfl, rfl⟩ := trodVars_none hV
  obtain ⟨x0, g0⟩ := arg_st opens_grdw Tryz.underlying45 (hval 0 45 v0 rfl rfl) h0
  obtain ⟨x1, g1⟩ := arg_s (hval 1 9 v1 rfl rfl) h1
  refine (law_callsI (IceStrings_s ⟨x0.1.1, x0.2.1.1, x0.2.2.1⟩ x1 ⟨fun z hz => by rw [List.mem_singleton] at hz; subst hz; have := x0.2.1.2; unfold InW at this; show _ ≤ x0.2.1.1 ∧ x0.2.1.1 ≤ _; omega, fun z hz => by have := x0.2.2.2 z hz; unfold InW at this; omega, fun l hl z hz => by
    have h := x0.1.2 l hl
    unfold InW at h
    simp only [List.mem_cons, List.not_mem_nil, or_false] at hz
    rcases hz with rfl | rfl | rfl <;> omega⟩) (args := #[v0, v1]) (globs_ofI hL hsh) (RepL.cons g0 (RepL.cons g1 (RepL.nil _ _)))).mono fun e W' ⟨he, hb⟩ => ?_
  subst he
  have hp : Rows.iceStringsSpec.post enc Tryz.prog Tryz.f4 false true false false W #[v0, v1] (.bool true) W' := post_law hW' rfl (by kernel_rfl) (fun t ht => by
    rw [Tryz.params4] at ht
    have hm : t ∈ [45, 9] := by simpa using ht
    have hall : ([45, 9].all fun u => Tryz.prog.readableRec u && decide (u < Tryz.prog.types.size)) = true := by kernel_rfl
    have h2 := List.all_eq_true.1 hall t hm
    rw [Bool.and_eq_true, decide_eq_true_eq] at h2
    exact h2) rfl rfl rfl hb
  exact ⟨.bool true, rfl, hp⟩
theorem holds : Rows.IceStringsSaid :=
  OpenClaim.holds_of_wide 4 Tryz.f4 rfl rfl rfl rfl rfl rfl rfl ⟨rfl, rfl, rfl, rfl, rfl⟩ rfl rfl rfl rfl rfl (by as_aux_lemma => kernel_rfl) Tryz.func4 closed
    (of_decide_eq_true (by as_aux_lemma => kernel_rfl)) (by unfold Func.isWrapper; first | (rw [if_pos (by decide +kernel)]; as_aux_lemma => kernel_rfl) | (rw [if_neg (by decide +kernel)]; exact ⟨rfl, rfl⟩))
    (fun os started H enc _ => lifted os started H enc)
theorem card_holds : Rows.IceStringsCardSaid :=
  Claim7.holds_tied_plain_at .later [] [.data, .data, .data, .data, .sentinel, .sentinel, .data, .pinned] true (true, "781787c6fb4694554b0edfb58abee9572b332e0763ba634bdb92583c9e903b31") true
    holds (fun _ h => by cases h) wfb (fun _ h => by cases h) iceStrings_row_tie rfl ⟨rfl, rfl⟩ mainT rfl
    (fun f fn hf hfn => by
      obtain rfl : f = 4 := Option.some.inj ((show Tryz.prog.funcNamed "cherenkov/cherenkovlaw03.IceStrings" = some 4 by as_aux_lemma => kernel_rfl).symm.trans hf) |>.symm
      obtain rfl : fn = Tryz.f4 := (Option.some.inj (Tryz.func4.symm.trans hfn)).symm
      exact ⟨looksT, fun j t ht => by
        rw [Tryz.params4] at ht
        have hm : t ∈ [45, 9] := by simpa using Array.mem_of_getElem? ht
        have hall : ([45, 9].all fun u => !Tryz.prog.wantsStandIn u) = true := by as_aux_lemma => kernel_rfl
        exact (show Tryz.prog.wantsStandIn t = false by simpa using List.all_eq_true.1 hall t hm)⟩)
    goesF
end Go.Proofs.YtnmaabejdmaahaaGreatDoor.iceStrings
