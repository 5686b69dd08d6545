/- AlertEqualAreas returns true for every input, and each argument reads behind the call as it read before. No condition. -/
import Derived.Test.YtenkgipcblfocaaGreatEqualAreas5
namespace Go.Proofs.YtenkgipcblfocaaGreat.alertEqualAreas
open Go Go.Ab Go.ChangeShapes Go.WideShapes Go.ChangeAt Go.RowKit
set_option maxRecDepth 100000 in
theorem lifted (os : Os) (started : os.Started) (H : Type) (enc : TypeId × Value → H) :
    ReturnsInHanded {} Tryz.checked os 13 .any (Rows.alertEqualAreasSpec.pre6 enc Tryz.prog Tryz.f13 Rows.alertEqualAreasRow.domain false) (Rows.alertEqualAreasSpec.post enc Tryz.prog Tryz.f13 false true false false) := by
  refine returnsInHanded_of_change (C := Tryz.checked) ownKnobT started (by kernel_rfl) Tryz.func13
    (ChangeSpec.witness6 (enc := enc) (C := Tryz.checked) false ⟨#[], #[.agg #[.slice none 0 0], .agg #[.int .i64 0, .int .i64 0]], []⟩ 8 (by kernel_rfl) (by kernel_rfl) (by kernel_rfl) (by kernel_rfl)) ?_
  intro W base args ds gs before hval0 hW0 _ _
  have hval : ∀ (j : Nat) t v, Tryz.f13.params[j]? = some t → args[j]? = some v → Value.okWide Tryz.prog W .any base t v := hval0
  have hW : DataW.Whole enc Tryz.prog Tryz.f13.params.toList Rows.alertEqualAreasSpec.vars false W args.toList ds gs before := hW0
  have hW' := hW
  obtain ⟨p, q, hA0, hV, rfl, hfz, hnd⟩ := hW
  have hA : DataW.TrodAll enc Tryz.prog W 0 (fun _ => true) true Tryz.f13.params.toList args.toList ds p := hA0
  rw [Tryz.params13] at hA hval
  obtain ⟨v0, vs0, d0, ds0, p0, q0, hargs, rfl, rfl, h0, r0⟩ := trodAll_cons hA
  obtain ⟨v1, vs1, d1, ds1, p1, q1, rfl, rfl, rfl, h1, r1⟩ := trodAll_cons r0
  obtain ⟨rfl, rfl, rfl⟩ := trodAll_nil r1
  obtain rfl : args = #[v0, v1] := by cases args; simp_all
  obtain ⟨rfl, rfl⟩ := trodVars_none hV
  obtain ⟨x0, g0⟩ := arg_st opens_sky Tryz.underlying36 (hval 0 36 v0 rfl rfl) h0
  obtain ⟨x1, g1⟩ := arg_st opens_pt Tryz.underlying23 (hval 1 23 v1 rfl rfl) h1
  refine (law_calls (AlertEqualAreas_s x0 x1) (args := #[v0, v1]) (RepL.cons g0 (RepL.cons g1 (RepL.nil _ _)))).mono fun e W' ⟨he, hb⟩ => ?_
  subst he
  have hp : Rows.alertEqualAreasSpec.post enc Tryz.prog Tryz.f13 false true false false W #[v0, v1] (.bool true) W' := post_law hW' rfl (by kernel_rfl) (fun t ht => by
    rw [Tryz.params13] at ht
    have hm : t ∈ [36, 23] := by simpa using ht
    have hall : ([36, 23].all fun u => Tryz.prog.readableRec u && decide (u < Tryz.prog.types.size)) = true := by kernel_rfl
    have h2 := List.all_eq_true.1 hall t hm
    rw [Bool.and_eq_true, decide_eq_true_eq] at h2
    exact h2) rfl rfl rfl hb
  exact ⟨.bool true, rfl, hp⟩
theorem holds : Rows.AlertEqualAreasSaid :=
  OpenClaim.holds_of_wide 13 Tryz.f13 rfl rfl rfl rfl rfl rfl rfl ⟨rfl, rfl, rfl, rfl, rfl⟩ rfl rfl rfl rfl rfl (by kernel_rfl) Tryz.func13 (by kernel_rfl)
    (of_decide_eq_true (by kernel_rfl)) (by unfold Func.isWrapper; first | (rw [if_pos (by decide +kernel)]; kernel_rfl) | (rw [if_neg (by decide +kernel)]; exact ⟨rfl, rfl⟩))
    (fun os started H enc _ => lifted os started H enc)
end Go.Proofs.YtenkgipcblfocaaGreat.alertEqualAreas
