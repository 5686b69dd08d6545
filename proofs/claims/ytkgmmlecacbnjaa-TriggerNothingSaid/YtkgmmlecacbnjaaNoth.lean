/- TriggerNothing returns true for every input, and each argument reads behind the call as it read before. No condition. -/
import Derived.Test.YtkgmmlecacbnjaaNoth4
namespace Go.Proofs.Ytkgmmlecacbnjaa.triggerNothing
open Go Go.Ab Go.ChangeShapes Go.WideShapes Go.ChangeAt Go.RowKit
set_option maxRecDepth 100000 in
theorem lifted (os : Os) (started : os.Started) (H : Type) (enc : TypeId × Value → H) :
    ReturnsInHanded {} Try.checked os 3 .any (Rows.triggerNothingSpec.pre6 enc Try.prog Try.f3 Rows.triggerNothingRow.domain false) (Rows.triggerNothingSpec.post enc Try.prog Try.f3 false true false false) := by
  refine returnsInHanded_of_change (C := Try.checked) ownKnobT started (by kernel_rfl) Try.func3
    (ChangeSpec.witness6 (enc := enc) (C := Try.checked) false ⟨#[], #[.agg #[.slice none 0 0], .agg #[.slice none 0 0, .int .i64 0, .int .i64 0, .int .i64 0], .slice none 0 0], []⟩ 8 (by kernel_rfl) (by kernel_rfl) (by kernel_rfl) (by kernel_rfl)) ?_
  intro W base args ds gs before hval0 hW0 _ _
  have hval : ∀ (j : Nat) t v, Try.f3.params[j]? = some t → args[j]? = some v → Value.okWide Try.prog W .any base t v := hval0
  have hW : DataW.Whole enc Try.prog Try.f3.params.toList Rows.triggerNothingSpec.vars false W args.toList ds gs before := hW0
  have hW' := hW
  obtain ⟨p, q, hA0, hV, rfl, hfz, hnd⟩ := hW
  have hA : DataW.TrodAll enc Try.prog W 0 (fun _ => true) true Try.f3.params.toList args.toList ds p := hA0
  rw [Try.params3] at hA hval
  obtain ⟨v0, vs0, d0, ds0, p0, q0, hargs, rfl, rfl, h0, r0⟩ := trodAll_cons hA
  obtain ⟨v1, vs1, d1, ds1, p1, q1, rfl, rfl, rfl, h1, r1⟩ := trodAll_cons r0
  obtain ⟨v2, vs2, d2, ds2, p2, q2, rfl, rfl, rfl, h2, r2⟩ := trodAll_cons r1
  obtain ⟨rfl, rfl, rfl⟩ := trodAll_nil r2
  obtain rfl : args = #[v0, v1, v2] := by cases args; simp_all
  obtain ⟨rfl, rfl⟩ := trodVars_none hV
  obtain ⟨x0, g0⟩ := arg_st opens_arr Try.underlying24 (hval 0 24 v0 rfl rfl) h0
  obtain ⟨x1, g1⟩ := arg_st opens_setup Try.underlying27 (hval 1 27 v1 rfl rfl) h1
  obtain ⟨x2, g2⟩ := arg_sl opens_hits Try.underlying28 (hval 2 28 v2 rfl rfl) h2
  refine (law_calls (TriggerNothing_s x0 x1 x2) (args := #[v0, v1, v2]) (RepL.cons g0 (RepL.cons g1 (RepL.cons g2 (RepL.nil _ _))))).mono fun e W' ⟨he, hb⟩ => ?_
  subst he
  have hp : Rows.triggerNothingSpec.post enc Try.prog Try.f3 false true false false W #[v0, v1, v2] (.bool true) W' := post_law hW' rfl (by kernel_rfl) (fun t ht => by
    rw [Try.params3] at ht
    have hm : t ∈ [24, 27, 28] := by simpa using ht
    have hall : ([24, 27, 28].all fun u => Try.prog.readableRec u && decide (u < Try.prog.types.size)) = true := by kernel_rfl
    have h2 := List.all_eq_true.1 hall t hm
    rw [Bool.and_eq_true, decide_eq_true_eq] at h2
    exact h2) rfl rfl rfl hb
  exact ⟨.bool true, rfl, hp⟩
theorem holds : Rows.TriggerNothingSaid :=
  OpenClaim.holds_of_wide 3 Try.f3 rfl rfl rfl rfl rfl rfl rfl ⟨rfl, rfl, rfl, rfl, rfl⟩ rfl rfl rfl rfl rfl (by kernel_rfl) Try.func3 (by kernel_rfl)
    (of_decide_eq_true (by kernel_rfl)) (by unfold Func.isWrapper; first | (rw [if_pos (by decide +kernel)]; kernel_rfl) | (rw [if_neg (by decide +kernel)]; exact ⟨rfl, rfl⟩))
    (fun os started H enc _ => lifted os started H enc)
end Go.Proofs.Ytkgmmlecacbnjaa.triggerNothing
