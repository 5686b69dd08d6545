/- Laws on which the proofs of this seat stand. No condition. -/
import Derived.Test.YtienhiloecfgnaaDoorK5
namespace Go.Proofs.YtienhiloecfgnaaDoor
open Go Go.RowKit Go.Proofs Go.Shelf Go.Ab
theorem firstE_two (a b : Int) : firstE [a, b] = if a = 0 then b else a := by
  unfold firstE firstE
  by_cases h : a = 0
  · rw [if_pos h, if_pos h]; by_cases h2 : b = 0
    · rw [if_pos h2, h2]; rfl
    · rw [if_neg h2]
  · rw [if_neg h, if_neg h]
theorem layerAtE_bad {x : Grid} {c : Cel} (h : (checkIce x).2 ≠ 0) : layerAtE x c = (0, (checkIce x).2) := by
  have e : firstE [iceErrE x, cellErrE x c] = (checkIce x).2 := by rw [firstE_two, iceErrE, if_neg h]
  unfold layerAtE; rw [e, if_pos (by simpa using h)]
theorem layerAtE_cell {x : Grid} {c : Cel} (h : (checkIce x).2 = 0) (hc : cellErrE x c ≠ 0) : layerAtE x c = (0, cellErrE x c) := by
  have e : firstE [iceErrE x, cellErrE x c] = cellErrE x c := by rw [firstE_two, iceErrE, if_pos h]
  unfold layerAtE; rw [e, if_pos (by simpa using hc)]
theorem layerAtE_ok {x : Grid} {c : Cel} (h : (checkIce x).2 = 0) (hc : cellErrE x c = 0) : layerAtE x c = (layerI x c, 0) := by
  have e : firstE [iceErrE x, cellErrE x c] = 0 := by rw [firstE_two, iceErrE, if_pos h, hc]
  unfold layerAtE; rw [e, if_neg (by decide)]
theorem neq_self (a : Int) : (!decide (a = a)) = false := by simp
set_option maxRecDepth 100000 in
theorem IceGrids_s (x : Grid) (c : Cel) : Summ Tryd.prog GG 5 [gridF x, .agg (celF c)] (bv true) := by
  refine summW Tryd.func5 rfl rfl 65 rfl (by simp) (fun M0 => ?_)
  cases hf : fewB x with
  | false =>
    have g : (!fewB x) = true := by rw [hf]; rfl
    repeat (first
    | (apply s_move_f; exact rfl; exact rfl)
    | (apply s_assign_f; exact rfl; exact rfl)
    | (apply s_load_pt TY; exact rfl; exact rfl; exact rfl; (first | exact rfl | assumption))
    | (apply s_load_pts TY; exact rfl; exact rfl; exact rfl; (first | assumption | exact rfl); exact rfl)
    | (apply s_extract; exact rfl; exact rfl; exact rfl)
    | (apply s_box; exact rfl; exact rfl; exact rfl)
    | (apply s_not; exact rfl; exact rfl)
    | (apply s_eql; exact rfl; exact rfl; exact rfl)
    | (apply s_neq; exact rfl; exact rfl; exact rfl)
    | (apply s_move_o; exact rfl; exact rfl)
    | (apply s_move_x; exact rfl; exact rfl)
    | (apply s_assign_x; exact rfl; exact rfl)
    | (apply s_assign_o; exact rfl; exact rfl)
    | (apply s_load_bx_f TY; exact rfl; exact rfl; exact rfl; exact rfl; exact rfl)
    | (apply s_load_bx_x TY; exact rfl; exact rfl; exact rfl; exact rfl; exact rfl)
    | (apply s_load_bx_o TY; exact rfl; exact rfl; exact rfl; exact rfl; exact rfl)
    | (apply s_load_bxs TY; exact rfl; exact rfl; exact rfl; exact rfl; exact rfl; exact rfl)
    | (apply s_load_row TY; exact rfl; exact rfl; exact rfl; exact rfl; (first | exact rfl | assumption))
    | (apply s_makefn; exact rfl; exact rfl)
    | (apply s_pickT; exact rfl; exact rfl; (first | exact rfl | assumption); exact rfl)
    | (apply s_pickF; exact rfl; exact rfl; (first | exact rfl | assumption); exact rfl)
    | apply w_seq
    | apply w_region
    | apply s_nil
    | apply t_norm
    | apply t_exit
    | apply t_ret
    | apply k_hit
    | (apply k_miss; exact rfl)
    | apply k_norm
    | apply k_ret
    | apply w_block
    | apply w_exit
    | apply w_ret
    | apply w_skip
    | (apply s_call (awake_s); exact rfl; exact rfl; exact rfl; exact rfl)
    | (apply s_call (Few_s x); exact rfl; exact rfl; exact rfl; exact rfl)
    | (apply g_skip; exact rfl; (first | exact rfl | assumption); exact rfl)
    | (apply g_move_f; exact rfl; (first | exact rfl | assumption); exact rfl; exact rfl)
    | (apply g_assign_f; exact rfl; (first | exact rfl | assumption); exact rfl; exact rfl)
    | (apply g_load_pt TY; exact rfl; (first | exact rfl | assumption); exact rfl; exact rfl; exact rfl; (first | exact rfl | assumption))
    | (apply g_load_pts TY; exact rfl; (first | exact rfl | assumption); exact rfl; exact rfl; exact rfl; (first | assumption | exact rfl); exact rfl)
    | (apply g_eql; exact rfl; (first | exact rfl | assumption); exact rfl; exact rfl; exact rfl)
    | (apply g_neq; exact rfl; (first | exact rfl | assumption); exact rfl; exact rfl; exact rfl)
    | (apply g_move_o; exact rfl; (first | exact rfl | assumption); exact rfl; exact rfl)
    | (apply g_move_x; exact rfl; (first | exact rfl | assumption); exact rfl; exact rfl)
    | (apply g_assign_x; exact rfl; (first | exact rfl | assumption); exact rfl; exact rfl)
    | (apply g_assign_o; exact rfl; (first | exact rfl | assumption); exact rfl; exact rfl)
    | (apply g_load_bx_f TY; exact rfl; (first | exact rfl | assumption); exact rfl; exact rfl; exact rfl; exact rfl; exact rfl)
    | (apply g_load_bx_x TY; exact rfl; (first | exact rfl | assumption); exact rfl; exact rfl; exact rfl; exact rfl; exact rfl)
    | (apply g_load_bx_o TY; exact rfl; (first | exact rfl | assumption); exact rfl; exact rfl; exact rfl; exact rfl; exact rfl)
    | (apply g_load_bxs TY; exact rfl; (first | exact rfl | assumption); exact rfl; exact rfl; exact rfl; exact rfl; exact rfl; exact rfl)
    | (apply g_load_row TY; exact rfl; (first | exact rfl | assumption); exact rfl; exact rfl; exact rfl; exact rfl; (first | exact rfl | assumption))
    | (apply g_call (awake_s); exact rfl; (first | exact rfl | assumption); exact rfl; exact rfl; exact rfl; exact rfl)
    | (apply g_call (Few_s x); exact rfl; (first | exact rfl | assumption); exact rfl; exact rfl; exact rfl; exact rfl)
    | (apply w_condT; exact rfl; (first | exact rfl | assumption))
    | (apply w_condF; exact rfl; (first | exact rfl | assumption)))
    exact lv_ret (ret1 rfl (res_tmp rfl))
  | true =>
  have g : (!fewB x) = false := by rw [hf]; rfl
  obtain ⟨f1, f2⟩ := fewB_true hf
  have n1 := neq_self (checkIce x).1
  have n2 := neq_self (checkIce x).2
  by_cases h : (checkIce x).2 = 0
  · have v : Valid x := (checkIce_zero x).1 h
    have d1 : decide ((checkIce x).2 = 0) = true := by simpa using h
    by_cases hc : cellErrE x c = 0
    · have hi : InG x c := (cellB_in v).1 ((unlessE_zero (by decide)).1 hc)
      have e := layerAtE_ok h hc
      have d2 : (!decide (cellErrE x c = 0)) = false := by simp [hc]
      have d3 : decide ((layerAtE x c).2 = 0) = true := by rw [e]; rfl
      repeat (first
    | (apply s_move_f; exact rfl; exact rfl)
    | (apply s_assign_f; exact rfl; exact rfl)
    | (apply s_load_pt TY; exact rfl; exact rfl; exact rfl; (first | exact rfl | assumption))
    | (apply s_load_pts TY; exact rfl; exact rfl; exact rfl; (first | assumption | exact rfl); exact rfl)
    | (apply s_extract; exact rfl; exact rfl; exact rfl)
    | (apply s_box; exact rfl; exact rfl; exact rfl)
    | (apply s_not; exact rfl; exact rfl)
    | (apply s_eql; exact rfl; exact rfl; exact rfl)
    | (apply s_neq; exact rfl; exact rfl; exact rfl)
    | (apply s_move_o; exact rfl; exact rfl)
    | (apply s_move_x; exact rfl; exact rfl)
    | (apply s_assign_x; exact rfl; exact rfl)
    | (apply s_assign_o; exact rfl; exact rfl)
    | (apply s_load_bx_f TY; exact rfl; exact rfl; exact rfl; exact rfl; exact rfl)
    | (apply s_load_bx_x TY; exact rfl; exact rfl; exact rfl; exact rfl; exact rfl)
    | (apply s_load_bx_o TY; exact rfl; exact rfl; exact rfl; exact rfl; exact rfl)
    | (apply s_load_bxs TY; exact rfl; exact rfl; exact rfl; exact rfl; exact rfl; exact rfl)
    | (apply s_load_row TY; exact rfl; exact rfl; exact rfl; exact rfl; (first | exact rfl | assumption))
    | (apply s_makefn; exact rfl; exact rfl)
    | (apply s_pickT; exact rfl; exact rfl; (first | exact rfl | assumption); exact rfl)
    | (apply s_pickF; exact rfl; exact rfl; (first | exact rfl | assumption); exact rfl)
    | apply w_seq
    | apply w_region
    | apply s_nil
    | apply t_norm
    | apply t_exit
    | apply t_ret
    | apply k_hit
    | (apply k_miss; exact rfl)
    | apply k_norm
    | apply k_ret
    | apply w_block
    | apply w_exit
    | apply w_ret
    | apply w_skip
    | (apply s_call (awake_s); exact rfl; exact rfl; exact rfl; exact rfl)
    | (apply s_call (Few_s x); exact rfl; exact rfl; exact rfl; exact rfl)
    | (apply s_call (CopyIce_s x (by omega) (by omega)); exact rfl; exact rfl; exact rfl; exact rfl)
    | (apply s_call (CheckIce_s x ⟨by omega, by omega⟩); exact rfl; exact rfl; exact rfl; exact rfl)
    | (apply s_call (LayerAt_s x c ⟨by omega, by omega⟩); exact rfl; exact rfl; exact rfl; exact rfl)
    | (apply s_call (refCheckIce_s x); exact rfl; exact rfl; exact rfl; exact rfl)
    | (apply g_skip; exact rfl; (first | exact rfl | assumption); exact rfl)
    | (apply g_move_f; exact rfl; (first | exact rfl | assumption); exact rfl; exact rfl)
    | (apply g_assign_f; exact rfl; (first | exact rfl | assumption); exact rfl; exact rfl)
    | (apply g_load_pt TY; exact rfl; (first | exact rfl | assumption); exact rfl; exact rfl; exact rfl; (first | exact rfl | assumption))
    | (apply g_load_pts TY; exact rfl; (first | exact rfl | assumption); exact rfl; exact rfl; exact rfl; (first | assumption | exact rfl); exact rfl)
    | (apply g_eql; exact rfl; (first | exact rfl | assumption); exact rfl; exact rfl; exact rfl)
    | (apply g_neq; exact rfl; (first | exact rfl | assumption); exact rfl; exact rfl; exact rfl)
    | (apply g_move_o; exact rfl; (first | exact rfl | assumption); exact rfl; exact rfl)
    | (apply g_move_x; exact rfl; (first | exact rfl | assumption); exact rfl; exact rfl)
    | (apply g_assign_x; exact rfl; (first | exact rfl | assumption); exact rfl; exact rfl)
    | (apply g_assign_o; exact rfl; (first | exact rfl | assumption); exact rfl; exact rfl)
    | (apply g_load_bx_f TY; exact rfl; (first | exact rfl | assumption); exact rfl; exact rfl; exact rfl; exact rfl; exact rfl)
    | (apply g_load_bx_x TY; exact rfl; (first | exact rfl | assumption); exact rfl; exact rfl; exact rfl; exact rfl; exact rfl)
    | (apply g_load_bx_o TY; exact rfl; (first | exact rfl | assumption); exact rfl; exact rfl; exact rfl; exact rfl; exact rfl)
    | (apply g_load_bxs TY; exact rfl; (first | exact rfl | assumption); exact rfl; exact rfl; exact rfl; exact rfl; exact rfl; exact rfl)
    | (apply g_load_row TY; exact rfl; (first | exact rfl | assumption); exact rfl; exact rfl; exact rfl; exact rfl; (first | exact rfl | assumption))
    | (apply g_call (awake_s); exact rfl; (first | exact rfl | assumption); exact rfl; exact rfl; exact rfl; exact rfl)
    | (apply g_call (Few_s x); exact rfl; (first | exact rfl | assumption); exact rfl; exact rfl; exact rfl; exact rfl)
    | (apply g_call (CopyIce_s x (by omega) (by omega)); exact rfl; (first | exact rfl | assumption); exact rfl; exact rfl; exact rfl; exact rfl)
    | (apply g_call (CheckIce_s x ⟨by omega, by omega⟩); exact rfl; (first | exact rfl | assumption); exact rfl; exact rfl; exact rfl; exact rfl)
    | (apply g_call (LayerAt_s x c ⟨by omega, by omega⟩); exact rfl; (first | exact rfl | assumption); exact rfl; exact rfl; exact rfl; exact rfl)
    | (apply g_call (refCheckIce_s x); exact rfl; (first | exact rfl | assumption); exact rfl; exact rfl; exact rfl; exact rfl)
    | (apply w_condT; exact rfl; (first | exact rfl | assumption))
    | (apply w_condF; exact rfl; (first | exact rfl | assumption)))
      apply w_draw 8 rfl (by kernel_rfl)
      repeat (first
    | (apply s_move_f; exact rfl; exact rfl)
    | (apply s_assign_f; exact rfl; exact rfl)
    | (apply s_load_pt TY; exact rfl; exact rfl; exact rfl; (first | exact rfl | assumption))
    | (apply s_load_pts TY; exact rfl; exact rfl; exact rfl; (first | assumption | exact rfl); exact rfl)
    | (apply s_extract; exact rfl; exact rfl; exact rfl)
    | (apply s_box; exact rfl; exact rfl; exact rfl)
    | (apply s_not; exact rfl; exact rfl)
    | (apply s_eql; exact rfl; exact rfl; exact rfl)
    | (apply s_neq; exact rfl; exact rfl; exact rfl)
    | (apply s_move_o; exact rfl; exact rfl)
    | (apply s_move_x; exact rfl; exact rfl)
    | (apply s_assign_x; exact rfl; exact rfl)
    | (apply s_assign_o; exact rfl; exact rfl)
    | (apply s_load_bx_f TY; exact rfl; exact rfl; exact rfl; exact rfl; exact rfl)
    | (apply s_load_bx_x TY; exact rfl; exact rfl; exact rfl; exact rfl; exact rfl)
    | (apply s_load_bx_o TY; exact rfl; exact rfl; exact rfl; exact rfl; exact rfl)
    | (apply s_load_bxs TY; exact rfl; exact rfl; exact rfl; exact rfl; exact rfl; exact rfl)
    | (apply s_load_row TY; exact rfl; exact rfl; exact rfl; exact rfl; (first | exact rfl | assumption))
    | (apply s_makefn; exact rfl; exact rfl)
    | (apply s_pickT; exact rfl; exact rfl; (first | exact rfl | assumption); exact rfl)
    | (apply s_pickF; exact rfl; exact rfl; (first | exact rfl | assumption); exact rfl)
    | apply w_seq
    | apply w_region
    | apply s_nil
    | apply t_norm
    | apply t_exit
    | apply t_ret
    | apply k_hit
    | (apply k_miss; exact rfl)
    | apply k_norm
    | apply k_ret
    | apply w_block
    | apply w_exit
    | apply w_ret
    | apply w_skip
    | (apply s_call (awake_s); exact rfl; exact rfl; exact rfl; exact rfl)
    | (apply s_call (Few_s x); exact rfl; exact rfl; exact rfl; exact rfl)
    | (apply s_call (CopyIce_s x (by omega) (by omega)); exact rfl; exact rfl; exact rfl; exact rfl)
    | (apply s_call (CheckIce_s x ⟨by omega, by omega⟩); exact rfl; exact rfl; exact rfl; exact rfl)
    | (apply s_call (LayerAt_s x c ⟨by omega, by omega⟩); exact rfl; exact rfl; exact rfl; exact rfl)
    | (apply s_call (refCheckIce_s x); exact rfl; exact rfl; exact rfl; exact rfl)
    | (apply s_call (CellErr_s x c v); exact rfl; exact rfl; exact rfl; exact rfl)
    | (apply s_call (Layer_s x c v hi); exact rfl; exact rfl; exact rfl; exact rfl)
    | (apply g_skip; exact rfl; (first | exact rfl | assumption); exact rfl)
    | (apply g_move_f; exact rfl; (first | exact rfl | assumption); exact rfl; exact rfl)
    | (apply g_assign_f; exact rfl; (first | exact rfl | assumption); exact rfl; exact rfl)
    | (apply g_load_pt TY; exact rfl; (first | exact rfl | assumption); exact rfl; exact rfl; exact rfl; (first | exact rfl | assumption))
    | (apply g_load_pts TY; exact rfl; (first | exact rfl | assumption); exact rfl; exact rfl; exact rfl; (first | assumption | exact rfl); exact rfl)
    | (apply g_eql; exact rfl; (first | exact rfl | assumption); exact rfl; exact rfl; exact rfl)
    | (apply g_neq; exact rfl; (first | exact rfl | assumption); exact rfl; exact rfl; exact rfl)
    | (apply g_move_o; exact rfl; (first | exact rfl | assumption); exact rfl; exact rfl)
    | (apply g_move_x; exact rfl; (first | exact rfl | assumption); exact rfl; exact rfl)
    | (apply g_assign_x; exact rfl; (first | exact rfl | assumption); exact rfl; exact rfl)
    | (apply g_assign_o; exact rfl; (first | exact rfl | assumption); exact rfl; exact rfl)
    | (apply g_load_bx_f TY; exact rfl; (first | exact rfl | assumption); exact rfl; exact rfl; exact rfl; exact rfl; exact rfl)
    | (apply g_load_bx_x TY; exact rfl; (first | exact rfl | assumption); exact rfl; exact rfl; exact rfl; exact rfl; exact rfl)
    | (apply g_load_bx_o TY; exact rfl; (first | exact rfl | assumption); exact rfl; exact rfl; exact rfl; exact rfl; exact rfl)
    | (apply g_load_bxs TY; exact rfl; (first | exact rfl | assumption); exact rfl; exact rfl; exact rfl; exact rfl; exact rfl; exact rfl)
    | (apply g_load_row TY; exact rfl; (first | exact rfl | assumption); exact rfl; exact rfl; exact rfl; exact rfl; (first | exact rfl | assumption))
    | (apply g_call (awake_s); exact rfl; (first | exact rfl | assumption); exact rfl; exact rfl; exact rfl; exact rfl)
    | (apply g_call (Few_s x); exact rfl; (first | exact rfl | assumption); exact rfl; exact rfl; exact rfl; exact rfl)
    | (apply g_call (CopyIce_s x (by omega) (by omega)); exact rfl; (first | exact rfl | assumption); exact rfl; exact rfl; exact rfl; exact rfl)
    | (apply g_call (CheckIce_s x ⟨by omega, by omega⟩); exact rfl; (first | exact rfl | assumption); exact rfl; exact rfl; exact rfl; exact rfl)
    | (apply g_call (LayerAt_s x c ⟨by omega, by omega⟩); exact rfl; (first | exact rfl | assumption); exact rfl; exact rfl; exact rfl; exact rfl)
    | (apply g_call (refCheckIce_s x); exact rfl; (first | exact rfl | assumption); exact rfl; exact rfl; exact rfl; exact rfl)
    | (apply g_call (CellErr_s x c v); exact rfl; (first | exact rfl | assumption); exact rfl; exact rfl; exact rfl; exact rfl)
    | (apply g_call (Layer_s x c v hi); exact rfl; (first | exact rfl | assumption); exact rfl; exact rfl; exact rfl; exact rfl)
    | (apply w_condT; exact rfl; (first | exact rfl | assumption))
    | (apply w_condF; exact rfl; (first | exact rfl | assumption)))
      exact lv_ret (ret1 rfl (res_tmp (avb (by rw [e]; simp))))
    · have e := layerAtE_cell h hc
      have d2 : (!decide (cellErrE x c = 0)) = true := by simp [hc]
      have d3 : decide ((layerAtE x c).2 = cellErrE x c) = true := by rw [e]; simp
      repeat (first
    | (apply s_move_f; exact rfl; exact rfl)
    | (apply s_assign_f; exact rfl; exact rfl)
    | (apply s_load_pt TY; exact rfl; exact rfl; exact rfl; (first | exact rfl | assumption))
    | (apply s_load_pts TY; exact rfl; exact rfl; exact rfl; (first | assumption | exact rfl); exact rfl)
    | (apply s_extract; exact rfl; exact rfl; exact rfl)
    | (apply s_box; exact rfl; exact rfl; exact rfl)
    | (apply s_not; exact rfl; exact rfl)
    | (apply s_eql; exact rfl; exact rfl; exact rfl)
    | (apply s_neq; exact rfl; exact rfl; exact rfl)
    | (apply s_move_o; exact rfl; exact rfl)
    | (apply s_move_x; exact rfl; exact rfl)
    | (apply s_assign_x; exact rfl; exact rfl)
    | (apply s_assign_o; exact rfl; exact rfl)
    | (apply s_load_bx_f TY; exact rfl; exact rfl; exact rfl; exact rfl; exact rfl)
    | (apply s_load_bx_x TY; exact rfl; exact rfl; exact rfl; exact rfl; exact rfl)
    | (apply s_load_bx_o TY; exact rfl; exact rfl; exact rfl; exact rfl; exact rfl)
    | (apply s_load_bxs TY; exact rfl; exact rfl; exact rfl; exact rfl; exact rfl; exact rfl)
    | (apply s_load_row TY; exact rfl; exact rfl; exact rfl; exact rfl; (first | exact rfl | assumption))
    | (apply s_makefn; exact rfl; exact rfl)
    | (apply s_pickT; exact rfl; exact rfl; (first | exact rfl | assumption); exact rfl)
    | (apply s_pickF; exact rfl; exact rfl; (first | exact rfl | assumption); exact rfl)
    | apply w_seq
    | apply w_region
    | apply s_nil
    | apply t_norm
    | apply t_exit
    | apply t_ret
    | apply k_hit
    | (apply k_miss; exact rfl)
    | apply k_norm
    | apply k_ret
    | apply w_block
    | apply w_exit
    | apply w_ret
    | apply w_skip
    | (apply s_call (awake_s); exact rfl; exact rfl; exact rfl; exact rfl)
    | (apply s_call (Few_s x); exact rfl; exact rfl; exact rfl; exact rfl)
    | (apply s_call (CopyIce_s x (by omega) (by omega)); exact rfl; exact rfl; exact rfl; exact rfl)
    | (apply s_call (CheckIce_s x ⟨by omega, by omega⟩); exact rfl; exact rfl; exact rfl; exact rfl)
    | (apply s_call (LayerAt_s x c ⟨by omega, by omega⟩); exact rfl; exact rfl; exact rfl; exact rfl)
    | (apply s_call (refCheckIce_s x); exact rfl; exact rfl; exact rfl; exact rfl)
    | (apply g_skip; exact rfl; (first | exact rfl | assumption); exact rfl)
    | (apply g_move_f; exact rfl; (first | exact rfl | assumption); exact rfl; exact rfl)
    | (apply g_assign_f; exact rfl; (first | exact rfl | assumption); exact rfl; exact rfl)
    | (apply g_load_pt TY; exact rfl; (first | exact rfl | assumption); exact rfl; exact rfl; exact rfl; (first | exact rfl | assumption))
    | (apply g_load_pts TY; exact rfl; (first | exact rfl | assumption); exact rfl; exact rfl; exact rfl; (first | assumption | exact rfl); exact rfl)
    | (apply g_eql; exact rfl; (first | exact rfl | assumption); exact rfl; exact rfl; exact rfl)
    | (apply g_neq; exact rfl; (first | exact rfl | assumption); exact rfl; exact rfl; exact rfl)
    | (apply g_move_o; exact rfl; (first | exact rfl | assumption); exact rfl; exact rfl)
    | (apply g_move_x; exact rfl; (first | exact rfl | assumption); exact rfl; exact rfl)
    | (apply g_assign_x; exact rfl; (first | exact rfl | assumption); exact rfl; exact rfl)
    | (apply g_assign_o; exact rfl; (first | exact rfl | assumption); exact rfl; exact rfl)
    | (apply g_load_bx_f TY; exact rfl; (first | exact rfl | assumption); exact rfl; exact rfl; exact rfl; exact rfl; exact rfl)
    | (apply g_load_bx_x TY; exact rfl; (first | exact rfl | assumption); exact rfl; exact rfl; exact rfl; exact rfl; exact rfl)
    | (apply g_load_bx_o TY; exact rfl; (first | exact rfl | assumption); exact rfl; exact rfl; exact rfl; exact rfl; exact rfl)
    | (apply g_load_bxs TY; exact rfl; (first | exact rfl | assumption); exact rfl; exact rfl; exact rfl; exact rfl; exact rfl; exact rfl)
    | (apply g_load_row TY; exact rfl; (first | exact rfl | assumption); exact rfl; exact rfl; exact rfl; exact rfl; (first | exact rfl | assumption))
    | (apply g_call (awake_s); exact rfl; (first | exact rfl | assumption); exact rfl; exact rfl; exact rfl; exact rfl)
    | (apply g_call (Few_s x); exact rfl; (first | exact rfl | assumption); exact rfl; exact rfl; exact rfl; exact rfl)
    | (apply g_call (CopyIce_s x (by omega) (by omega)); exact rfl; (first | exact rfl | assumption); exact rfl; exact rfl; exact rfl; exact rfl)
    | (apply g_call (CheckIce_s x ⟨by omega, by omega⟩); exact rfl; (first | exact rfl | assumption); exact rfl; exact rfl; exact rfl; exact rfl)
    | (apply g_call (LayerAt_s x c ⟨by omega, by omega⟩); exact rfl; (first | exact rfl | assumption); exact rfl; exact rfl; exact rfl; exact rfl)
    | (apply g_call (refCheckIce_s x); exact rfl; (first | exact rfl | assumption); exact rfl; exact rfl; exact rfl; exact rfl)
    | (apply w_condT; exact rfl; (first | exact rfl | assumption))
    | (apply w_condF; exact rfl; (first | exact rfl | assumption)))
      apply w_draw 8 rfl (by kernel_rfl)
      repeat (first
    | (apply s_move_f; exact rfl; exact rfl)
    | (apply s_assign_f; exact rfl; exact rfl)
    | (apply s_load_pt TY; exact rfl; exact rfl; exact rfl; (first | exact rfl | assumption))
    | (apply s_load_pts TY; exact rfl; exact rfl; exact rfl; (first | assumption | exact rfl); exact rfl)
    | (apply s_extract; exact rfl; exact rfl; exact rfl)
    | (apply s_box; exact rfl; exact rfl; exact rfl)
    | (apply s_not; exact rfl; exact rfl)
    | (apply s_eql; exact rfl; exact rfl; exact rfl)
    | (apply s_neq; exact rfl; exact rfl; exact rfl)
    | (apply s_move_o; exact rfl; exact rfl)
    | (apply s_move_x; exact rfl; exact rfl)
    | (apply s_assign_x; exact rfl; exact rfl)
    | (apply s_assign_o; exact rfl; exact rfl)
    | (apply s_load_bx_f TY; exact rfl; exact rfl; exact rfl; exact rfl; exact rfl)
    | (apply s_load_bx_x TY; exact rfl; exact rfl; exact rfl; exact rfl; exact rfl)
    | (apply s_load_bx_o TY; exact rfl; exact rfl; exact rfl; exact rfl; exact rfl)
    | (apply s_load_bxs TY; exact rfl; exact rfl; exact rfl; exact rfl; exact rfl; exact rfl)
    | (apply s_load_row TY; exact rfl; exact rfl; exact rfl; exact rfl; (first | exact rfl | assumption))
    | (apply s_makefn; exact rfl; exact rfl)
    | (apply s_pickT; exact rfl; exact rfl; (first | exact rfl | assumption); exact rfl)
    | (apply s_pickF; exact rfl; exact rfl; (first | exact rfl | assumption); exact rfl)
    | apply w_seq
    | apply w_region
    | apply s_nil
    | apply t_norm
    | apply t_exit
    | apply t_ret
    | apply k_hit
    | (apply k_miss; exact rfl)
    | apply k_norm
    | apply k_ret
    | apply w_block
    | apply w_exit
    | apply w_ret
    | apply w_skip
    | (apply s_call (awake_s); exact rfl; exact rfl; exact rfl; exact rfl)
    | (apply s_call (Few_s x); exact rfl; exact rfl; exact rfl; exact rfl)
    | (apply s_call (CopyIce_s x (by omega) (by omega)); exact rfl; exact rfl; exact rfl; exact rfl)
    | (apply s_call (CheckIce_s x ⟨by omega, by omega⟩); exact rfl; exact rfl; exact rfl; exact rfl)
    | (apply s_call (LayerAt_s x c ⟨by omega, by omega⟩); exact rfl; exact rfl; exact rfl; exact rfl)
    | (apply s_call (refCheckIce_s x); exact rfl; exact rfl; exact rfl; exact rfl)
    | (apply s_call (CellErr_s x c v); exact rfl; exact rfl; exact rfl; exact rfl)
    | (apply g_skip; exact rfl; (first | exact rfl | assumption); exact rfl)
    | (apply g_move_f; exact rfl; (first | exact rfl | assumption); exact rfl; exact rfl)
    | (apply g_assign_f; exact rfl; (first | exact rfl | assumption); exact rfl; exact rfl)
    | (apply g_load_pt TY; exact rfl; (first | exact rfl | assumption); exact rfl; exact rfl; exact rfl; (first | exact rfl | assumption))
    | (apply g_load_pts TY; exact rfl; (first | exact rfl | assumption); exact rfl; exact rfl; exact rfl; (first | assumption | exact rfl); exact rfl)
    | (apply g_eql; exact rfl; (first | exact rfl | assumption); exact rfl; exact rfl; exact rfl)
    | (apply g_neq; exact rfl; (first | exact rfl | assumption); exact rfl; exact rfl; exact rfl)
    | (apply g_move_o; exact rfl; (first | exact rfl | assumption); exact rfl; exact rfl)
    | (apply g_move_x; exact rfl; (first | exact rfl | assumption); exact rfl; exact rfl)
    | (apply g_assign_x; exact rfl; (first | exact rfl | assumption); exact rfl; exact rfl)
    | (apply g_assign_o; exact rfl; (first | exact rfl | assumption); exact rfl; exact rfl)
    | (apply g_load_bx_f TY; exact rfl; (first | exact rfl | assumption); exact rfl; exact rfl; exact rfl; exact rfl; exact rfl)
    | (apply g_load_bx_x TY; exact rfl; (first | exact rfl | assumption); exact rfl; exact rfl; exact rfl; exact rfl; exact rfl)
    | (apply g_load_bx_o TY; exact rfl; (first | exact rfl | assumption); exact rfl; exact rfl; exact rfl; exact rfl; exact rfl)
    | (apply g_load_bxs TY; exact rfl; (first | exact rfl | assumption); exact rfl; exact rfl; exact rfl; exact rfl; exact rfl; exact rfl)
    | (apply g_load_row TY; exact rfl; (first | exact rfl | assumption); exact rfl; exact rfl; exact rfl; exact rfl; (first | exact rfl | assumption))
    | (apply g_call (awake_s); exact rfl; (first | exact rfl | assumption); exact rfl; exact rfl; exact rfl; exact rfl)
    | (apply g_call (Few_s x); exact rfl; (first | exact rfl | assumption); exact rfl; exact rfl; exact rfl; exact rfl)
    | (apply g_call (CopyIce_s x (by omega) (by omega)); exact rfl; (first | exact rfl | assumption); exact rfl; exact rfl; exact rfl; exact rfl)
    | (apply g_call (CheckIce_s x ⟨by omega, by omega⟩); exact rfl; (first | exact rfl | assumption); exact rfl; exact rfl; exact rfl; exact rfl)
    | (apply g_call (LayerAt_s x c ⟨by omega, by omega⟩); exact rfl; (first | exact rfl | assumption); exact rfl; exact rfl; exact rfl; exact rfl)
    | (apply g_call (refCheckIce_s x); exact rfl; (first | exact rfl | assumption); exact rfl; exact rfl; exact rfl; exact rfl)
    | (apply g_call (CellErr_s x c v); exact rfl; (first | exact rfl | assumption); exact rfl; exact rfl; exact rfl; exact rfl)
    | (apply w_condT; exact rfl; (first | exact rfl | assumption))
    | (apply w_condF; exact rfl; (first | exact rfl | assumption)))
      exact lv_ret (ret1 rfl (res_tmp (avb (by rw [e]; simp))))
  · have e := layerAtE_bad (c := c) h
    have d1 : decide ((checkIce x).2 = 0) = false := by simpa using h
    have d2 : (!decide ((checkIce x).2 = 0)) = true := by simp [h]
    have d3 : decide ((layerAtE x c).2 = (checkIce x).2) = true := by rw [e]; simp
    repeat (first
    | (apply s_move_f; exact rfl; exact rfl)
    | (apply s_assign_f; exact rfl; exact rfl)
    | (apply s_load_pt TY; exact rfl; exact rfl; exact rfl; (first | exact rfl | assumption))
    | (apply s_load_pts TY; exact rfl; exact rfl; exact rfl; (first | assumption | exact rfl); exact rfl)
    | (apply s_extract; exact rfl; exact rfl; exact rfl)
    | (apply s_box; exact rfl; exact rfl; exact rfl)
    | (apply s_not; exact rfl; exact rfl)
    | (apply s_eql; exact rfl; exact rfl; exact rfl)
    | (apply s_neq; exact rfl; exact rfl; exact rfl)
    | (apply s_move_o; exact rfl; exact rfl)
    | (apply s_move_x; exact rfl; exact rfl)
    | (apply s_assign_x; exact rfl; exact rfl)
    | (apply s_assign_o; exact rfl; exact rfl)
    | (apply s_load_bx_f TY; exact rfl; exact rfl; exact rfl; exact rfl; exact rfl)
    | (apply s_load_bx_x TY; exact rfl; exact rfl; exact rfl; exact rfl; exact rfl)
    | (apply s_load_bx_o TY; exact rfl; exact rfl; exact rfl; exact rfl; exact rfl)
    | (apply s_load_bxs TY; exact rfl; exact rfl; exact rfl; exact rfl; exact rfl; exact rfl)
    | (apply s_load_row TY; exact rfl; exact rfl; exact rfl; exact rfl; (first | exact rfl | assumption))
    | (apply s_makefn; exact rfl; exact rfl)
    | (apply s_pickT; exact rfl; exact rfl; (first | exact rfl | assumption); exact rfl)
    | (apply s_pickF; exact rfl; exact rfl; (first | exact rfl | assumption); exact rfl)
    | apply w_seq
    | apply w_region
    | apply s_nil
    | apply t_norm
    | apply t_exit
    | apply t_ret
    | apply k_hit
    | (apply k_miss; exact rfl)
    | apply k_norm
    | apply k_ret
    | apply w_block
    | apply w_exit
    | apply w_ret
    | apply w_skip
    | (apply s_call (awake_s); exact rfl; exact rfl; exact rfl; exact rfl)
    | (apply s_call (Few_s x); exact rfl; exact rfl; exact rfl; exact rfl)
    | (apply s_call (CopyIce_s x (by omega) (by omega)); exact rfl; exact rfl; exact rfl; exact rfl)
    | (apply s_call (CheckIce_s x ⟨by omega, by omega⟩); exact rfl; exact rfl; exact rfl; exact rfl)
    | (apply s_call (LayerAt_s x c ⟨by omega, by omega⟩); exact rfl; exact rfl; exact rfl; exact rfl)
    | (apply s_call (refCheckIce_s x); exact rfl; exact rfl; exact rfl; exact rfl)
    | (apply g_skip; exact rfl; (first | exact rfl | assumption); exact rfl)
    | (apply g_move_f; exact rfl; (first | exact rfl | assumption); exact rfl; exact rfl)
    | (apply g_assign_f; exact rfl; (first | exact rfl | assumption); exact rfl; exact rfl)
    | (apply g_load_pt TY; exact rfl; (first | exact rfl | assumption); exact rfl; exact rfl; exact rfl; (first | exact rfl | assumption))
    | (apply g_load_pts TY; exact rfl; (first | exact rfl | assumption); exact rfl; exact rfl; exact rfl; (first | assumption | exact rfl); exact rfl)
    | (apply g_eql; exact rfl; (first | exact rfl | assumption); exact rfl; exact rfl; exact rfl)
    | (apply g_neq; exact rfl; (first | exact rfl | assumption); exact rfl; exact rfl; exact rfl)
    | (apply g_move_o; exact rfl; (first | exact rfl | assumption); exact rfl; exact rfl)
    | (apply g_move_x; exact rfl; (first | exact rfl | assumption); exact rfl; exact rfl)
    | (apply g_assign_x; exact rfl; (first | exact rfl | assumption); exact rfl; exact rfl)
    | (apply g_assign_o; exact rfl; (first | exact rfl | assumption); exact rfl; exact rfl)
    | (apply g_load_bx_f TY; exact rfl; (first | exact rfl | assumption); exact rfl; exact rfl; exact rfl; exact rfl; exact rfl)
    | (apply g_load_bx_x TY; exact rfl; (first | exact rfl | assumption); exact rfl; exact rfl; exact rfl; exact rfl; exact rfl)
    | (apply g_load_bx_o TY; exact rfl; (first | exact rfl | assumption); exact rfl; exact rfl; exact rfl; exact rfl; exact rfl)
    | (apply g_load_bxs TY; exact rfl; (first | exact rfl | assumption); exact rfl; exact rfl; exact rfl; exact rfl; exact rfl; exact rfl)
    | (apply g_load_row TY; exact rfl; (first | exact rfl | assumption); exact rfl; exact rfl; exact rfl; exact rfl; (first | exact rfl | assumption))
    | (apply g_call (awake_s); exact rfl; (first | exact rfl | assumption); exact rfl; exact rfl; exact rfl; exact rfl)
    | (apply g_call (Few_s x); exact rfl; (first | exact rfl | assumption); exact rfl; exact rfl; exact rfl; exact rfl)
    | (apply g_call (CopyIce_s x (by omega) (by omega)); exact rfl; (first | exact rfl | assumption); exact rfl; exact rfl; exact rfl; exact rfl)
    | (apply g_call (CheckIce_s x ⟨by omega, by omega⟩); exact rfl; (first | exact rfl | assumption); exact rfl; exact rfl; exact rfl; exact rfl)
    | (apply g_call (LayerAt_s x c ⟨by omega, by omega⟩); exact rfl; (first | exact rfl | assumption); exact rfl; exact rfl; exact rfl; exact rfl)
    | (apply g_call (refCheckIce_s x); exact rfl; (first | exact rfl | assumption); exact rfl; exact rfl; exact rfl; exact rfl)
    | (apply w_condT; exact rfl; (first | exact rfl | assumption))
    | (apply w_condF; exact rfl; (first | exact rfl | assumption)))
    apply w_draw 8 rfl (by kernel_rfl)
    repeat (first
    | (apply s_move_f; exact rfl; exact rfl)
    | (apply s_assign_f; exact rfl; exact rfl)
    | (apply s_load_pt TY; exact rfl; exact rfl; exact rfl; (first | exact rfl | assumption))
    | (apply s_load_pts TY; exact rfl; exact rfl; exact rfl; (first | assumption | exact rfl); exact rfl)
    | (apply s_extract; exact rfl; exact rfl; exact rfl)
    | (apply s_box; exact rfl; exact rfl; exact rfl)
    | (apply s_not; exact rfl; exact rfl)
    | (apply s_eql; exact rfl; exact rfl; exact rfl)
    | (apply s_neq; exact rfl; exact rfl; exact rfl)
    | (apply s_move_o; exact rfl; exact rfl)
    | (apply s_move_x; exact rfl; exact rfl)
    | (apply s_assign_x; exact rfl; exact rfl)
    | (apply s_assign_o; exact rfl; exact rfl)
    | (apply s_load_bx_f TY; exact rfl; exact rfl; exact rfl; exact rfl; exact rfl)
    | (apply s_load_bx_x TY; exact rfl; exact rfl; exact rfl; exact rfl; exact rfl)
    | (apply s_load_bx_o TY; exact rfl; exact rfl; exact rfl; exact rfl; exact rfl)
    | (apply s_load_bxs TY; exact rfl; exact rfl; exact rfl; exact rfl; exact rfl; exact rfl)
    | (apply s_load_row TY; exact rfl; exact rfl; exact rfl; exact rfl; (first | exact rfl | assumption))
    | (apply s_makefn; exact rfl; exact rfl)
    | (apply s_pickT; exact rfl; exact rfl; (first | exact rfl | assumption); exact rfl)
    | (apply s_pickF; exact rfl; exact rfl; (first | exact rfl | assumption); exact rfl)
    | apply w_seq
    | apply w_region
    | apply s_nil
    | apply t_norm
    | apply t_exit
    | apply t_ret
    | apply k_hit
    | (apply k_miss; exact rfl)
    | apply k_norm
    | apply k_ret
    | apply w_block
    | apply w_exit
    | apply w_ret
    | apply w_skip
    | (apply s_call (awake_s); exact rfl; exact rfl; exact rfl; exact rfl)
    | (apply s_call (Few_s x); exact rfl; exact rfl; exact rfl; exact rfl)
    | (apply s_call (CopyIce_s x (by omega) (by omega)); exact rfl; exact rfl; exact rfl; exact rfl)
    | (apply s_call (CheckIce_s x ⟨by omega, by omega⟩); exact rfl; exact rfl; exact rfl; exact rfl)
    | (apply s_call (LayerAt_s x c ⟨by omega, by omega⟩); exact rfl; exact rfl; exact rfl; exact rfl)
    | (apply s_call (refCheckIce_s x); exact rfl; exact rfl; exact rfl; exact rfl)
    | (apply g_skip; exact rfl; (first | exact rfl | assumption); exact rfl)
    | (apply g_move_f; exact rfl; (first | exact rfl | assumption); exact rfl; exact rfl)
    | (apply g_assign_f; exact rfl; (first | exact rfl | assumption); exact rfl; exact rfl)
    | (apply g_load_pt TY; exact rfl; (first | exact rfl | assumption); exact rfl; exact rfl; exact rfl; (first | exact rfl | assumption))
    | (apply g_load_pts TY; exact rfl; (first | exact rfl | assumption); exact rfl; exact rfl; exact rfl; (first | assumption | exact rfl); exact rfl)
    | (apply g_eql; exact rfl; (first | exact rfl | assumption); exact rfl; exact rfl; exact rfl)
    | (apply g_neq; exact rfl; (first | exact rfl | assumption); exact rfl; exact rfl; exact rfl)
    | (apply g_move_o; exact rfl; (first | exact rfl | assumption); exact rfl; exact rfl)
    | (apply g_move_x; exact rfl; (first | exact rfl | assumption); exact rfl; exact rfl)
    | (apply g_assign_x; exact rfl; (first | exact rfl | assumption); exact rfl; exact rfl)
    | (apply g_assign_o; exact rfl; (first | exact rfl | assumption); exact rfl; exact rfl)
    | (apply g_load_bx_f TY; exact rfl; (first | exact rfl | assumption); exact rfl; exact rfl; exact rfl; exact rfl; exact rfl)
    | (apply g_load_bx_x TY; exact rfl; (first | exact rfl | assumption); exact rfl; exact rfl; exact rfl; exact rfl; exact rfl)
    | (apply g_load_bx_o TY; exact rfl; (first | exact rfl | assumption); exact rfl; exact rfl; exact rfl; exact rfl; exact rfl)
    | (apply g_load_bxs TY; exact rfl; (first | exact rfl | assumption); exact rfl; exact rfl; exact rfl; exact rfl; exact rfl; exact rfl)
    | (apply g_load_row TY; exact rfl; (first | exact rfl | assumption); exact rfl; exact rfl; exact rfl; exact rfl; (first | exact rfl | assumption))
    | (apply g_call (awake_s); exact rfl; (first | exact rfl | assumption); exact rfl; exact rfl; exact rfl; exact rfl)
    | (apply g_call (Few_s x); exact rfl; (first | exact rfl | assumption); exact rfl; exact rfl; exact rfl; exact rfl)
    | (apply g_call (CopyIce_s x (by omega) (by omega)); exact rfl; (first | exact rfl | assumption); exact rfl; exact rfl; exact rfl; exact rfl)
    | (apply g_call (CheckIce_s x ⟨by omega, by omega⟩); exact rfl; (first | exact rfl | assumption); exact rfl; exact rfl; exact rfl; exact rfl)
    | (apply g_call (LayerAt_s x c ⟨by omega, by omega⟩); exact rfl; (first | exact rfl | assumption); exact rfl; exact rfl; exact rfl; exact rfl)
    | (apply g_call (refCheckIce_s x); exact rfl; (first | exact rfl | assumption); exact rfl; exact rfl; exact rfl; exact rfl)
    | (apply w_condT; exact rfl; (first | exact rfl | assumption))
    | (apply w_condF; exact rfl; (first | exact rfl | assumption)))
    exact lv_ret (ret1 rfl (res_tmp (avb (by rw [e]; simp))))
end Go.Proofs.YtienhiloecfgnaaDoor
namespace Go.Proofs.YtienhiloecfgnaaDoor
open Go Go.RowKit Go.Proofs Go.Shelf Go.Ab
set_option maxRecDepth 100000 in
theorem CopyHole_s (h : Hole) (hl : h.widths.length ≤ 1000000) (ht : h.shrinks.length ≤ 1000000) : Summ Tryd.prog GG 48 [holeF h] (holeF h) := by
  refine summW Tryd.func48 rfl rfl 12 rfl (by simp) (fun M0 => ?_)
  repeat (first
    | (apply s_fld_pt TY; exact rfl; exact rfl; exact rfl)
    | (apply s_load_pt TY; exact rfl; exact rfl; exact rfl; (first | exact rfl | assumption))
    | (apply s_load_pts TY; exact rfl; exact rfl; exact rfl; (first | assumption | exact rfl); exact rfl)
    | (apply s_box; exact rfl; exact rfl; exact rfl)
    | (apply s_fld_bx TY; exact rfl; exact rfl; exact rfl)
    | (apply s_load_bx_f TY; exact rfl; exact rfl; exact rfl; exact rfl; exact rfl)
    | (apply s_load_bx_x TY; exact rfl; exact rfl; exact rfl; exact rfl; exact rfl)
    | (apply s_load_bx_o TY; exact rfl; exact rfl; exact rfl; exact rfl; exact rfl)
    | (apply s_load_bxs TY; exact rfl; exact rfl; exact rfl; exact rfl; exact rfl; exact rfl)
    | (apply s_load_row TY; exact rfl; exact rfl; exact rfl; exact rfl; (first | exact rfl | assumption))
    | (apply s_makefn; exact rfl; exact rfl)
    | (apply s_build TY; exact rfl; exact rfl; exact rfl; exact rfl; exact rfl)
    | apply w_seq
    | apply w_region
    | apply s_nil
    | apply t_norm
    | apply t_exit
    | apply t_ret
    | apply k_hit
    | (apply k_miss; exact rfl)
    | apply k_norm
    | apply k_ret
    | apply w_block
    | apply w_exit
    | apply w_ret
    | apply w_skip
    | (apply s_alloc TY; exact rfl; exact rfl; exact rfl)
    | (apply s_store TY; exact rfl; exact rfl; exact rfl; exact rfl; exact rfl; exact rfl)
    | (apply w_condT; exact rfl; (first | exact rfl | assumption))
    | (apply w_condF; exact rfl; (first | exact rfl | assumption)))
  apply w_draw 8 rfl (by kernel_rfl)
  repeat (first
    | (apply s_fld_pt TY; exact rfl; exact rfl; exact rfl)
    | (apply s_load_pt TY; exact rfl; exact rfl; exact rfl; (first | exact rfl | assumption))
    | (apply s_load_pts TY; exact rfl; exact rfl; exact rfl; (first | assumption | exact rfl); exact rfl)
    | (apply s_box; exact rfl; exact rfl; exact rfl)
    | (apply s_fld_bx TY; exact rfl; exact rfl; exact rfl)
    | (apply s_load_bx_f TY; exact rfl; exact rfl; exact rfl; exact rfl; exact rfl)
    | (apply s_load_bx_x TY; exact rfl; exact rfl; exact rfl; exact rfl; exact rfl)
    | (apply s_load_bx_o TY; exact rfl; exact rfl; exact rfl; exact rfl; exact rfl)
    | (apply s_load_bxs TY; exact rfl; exact rfl; exact rfl; exact rfl; exact rfl; exact rfl)
    | (apply s_load_row TY; exact rfl; exact rfl; exact rfl; exact rfl; (first | exact rfl | assumption))
    | (apply s_makefn; exact rfl; exact rfl)
    | (apply s_build TY; exact rfl; exact rfl; exact rfl; exact rfl; exact rfl)
    | apply w_seq
    | apply w_region
    | apply s_nil
    | apply t_norm
    | apply t_exit
    | apply t_ret
    | apply k_hit
    | (apply k_miss; exact rfl)
    | apply k_norm
    | apply k_ret
    | apply w_block
    | apply w_exit
    | apply w_ret
    | apply w_skip
    | (apply s_call (CopyInts_s h.widths hl); exact rfl; exact rfl; exact rfl; exact rfl)
    | (apply s_call (CopyInts_s h.shrinks ht); exact rfl; exact rfl; exact rfl; exact rfl)
    | (apply s_alloc TY; exact rfl; exact rfl; exact rfl)
    | (apply s_store TY; exact rfl; exact rfl; exact rfl; exact rfl; exact rfl; exact rfl)
    | (apply w_condT; exact rfl; (first | exact rfl | assumption))
    | (apply w_condF; exact rfl; (first | exact rfl | assumption)))
  exact lv_ret (ret1 rfl (res_bxs (sub := holeL h) TY rfl rfl rfl rfl rfl))
theorem holeE1_shape {h : Hole} (e : holeShape h = false) : checkHole h = (0, 10) := by
  have e1 : holeE1 h = 10 := by unfold holeE1; rw [e]; rfl
  unfold checkHole; rw [e1]; rfl
theorem holeE1_many {h : Hole} (e : holeShape h = true) (h2 : 20 < h.widths.length) : checkHole h = (0, 8) := by
  have e1 : holeE1 h = 8 := by
    unfold holeE1 unlessE
    rw [if_pos e, if_neg (by simpa using (by omega : (20 : Int) < h.widths.length))]; rfl
  unfold checkHole; rw [e1]; rfl
theorem holeE1_need {h : Hole} (e : holeShape h = true) (h2 : h.widths.length ≤ 20) (n : withinB h.need 1 1000000 = false) : checkHole h = (0, 2) := by
  have e1 : holeE1 h = 2 := by
    unfold holeE1 unlessE
    rw [if_pos e, if_pos (by simpa using (by omega : (h.widths.length : Int) ≤ 20)), n]; rfl
  unfold checkHole; rw [e1]; rfl
theorem holeE1_ok {h : Hole} (e : holeShape h = true) (h2 : h.widths.length ≤ 20) (n : withinB h.need 1 1000000 = true) : checkHole h = holeScan h h.widths.length 0 := by
  have e1 : holeE1 h = 0 := by
    unfold holeE1 unlessE
    rw [if_pos e, if_pos (by simpa using (by omega : (h.widths.length : Int) ≤ 20)), n]; rfl
  unfold checkHole; rw [e1]; rfl
theorem hole_bad1 {h : Hole} {k : Nat} (b : (withinB (h.widths.getD k 0) 0 1000000 && withinB (h.shrinks.getD k 0) 1 1000000) = false) : holeAt h k = 2 := by
  unfold holeAt; rw [b]; rfl
theorem hole_bad2 {h : Hole} {k : Nat} (b : (withinB (h.widths.getD k 0) 0 1000000 && withinB (h.shrinks.getD k 0) 1 1000000) = true) (c : h.widths.getD k 0 < h.need) : holeAt h k = 22 := by
  unfold holeAt unlessE; rw [b, if_pos rfl, if_neg (by simpa using c)]; rfl
theorem hole_good {h : Hole} {k : Nat} (b : (withinB (h.widths.getD k 0) 0 1000000 && withinB (h.shrinks.getD k 0) 1 1000000) = true) (c : ¬ h.widths.getD k 0 < h.need) : holeAt h k = 0 := by
  unfold holeAt unlessE; rw [b, if_pos rfl, if_pos (by simpa using c)]; rfl
theorem scan_stop {h : Hole} {k : Nat} {z : Int} (hk : k < h.widths.length) (e : checkHole h = holeScan h (h.widths.length - k) k) (b : holeAt h k = z) (hz : z ≠ 0) : checkHole h = ((k : Int), z) := by
  rw [e, show h.widths.length - k = (h.widths.length - (k + 1)) + 1 by omega, holeScan, b, if_pos (by simpa using hz)]
theorem scan_next {h : Hole} {k : Nat} (hk : k < h.widths.length) (e : checkHole h = holeScan h (h.widths.length - k) k) (b : holeAt h k = 0) : checkHole h = holeScan h (h.widths.length - (k + 1)) (k + 1) := by
  rw [e, show h.widths.length - k = (h.widths.length - (k + 1)) + 1 by omega, holeScan, b]; rfl
theorem getD_at {l : List Int} {k : Nat} (hk : k < l.length) : l.getD k 0 = l[k] := by
  rw [List.getD_eq_getElem?_getD, List.getElem?_eq_getElem hk, Option.getD_some]
set_option maxRecDepth 100000 in
set_option maxHeartbeats 1000000 in
theorem refCheckHole_s (h : Hole) : Summ Tryd.prog GG 52 [holeF h] (.tup [iv (checkHole h).1, iv (checkHole h).2]) := by
  refine summW Tryd.func52 rfl rfl 59 rfl (by simp) (fun M0 => ?_)
  by_cases h0 : h.widths.length = 0
  · have hc : decide ((h.widths.length : Int) = 0) = true := decide_eq_true (by omega)
    repeat (first
    | (apply s_move_f; exact rfl; exact rfl)
    | (apply s_assign_f; exact rfl; exact rfl)
    | (apply s_fld_pt TY; exact rfl; exact rfl; exact rfl)
    | (apply s_load_pt TY; exact rfl; exact rfl; exact rfl; (first | exact rfl | assumption))
    | (apply s_load_pts TY; exact rfl; exact rfl; exact rfl; (first | assumption | exact rfl); exact rfl)
    | (apply s_len TY; exact rfl; exact rfl; exact rfl)
    | (apply s_box; exact rfl; exact rfl; exact rfl)
    | (apply s_not; exact rfl; exact rfl)
    | (apply s_lss; exact rfl; exact rfl; exact rfl)
    | (apply s_gtr; exact rfl; exact rfl; exact rfl)
    | (apply s_eql; exact rfl; exact rfl; exact rfl)
    | (apply s_neq; exact rfl; exact rfl; exact rfl)
    | (apply s_move_o; exact rfl; exact rfl)
    | (apply s_move_x; exact rfl; exact rfl)
    | (apply s_assign_x; exact rfl; exact rfl)
    | (apply s_assign_o; exact rfl; exact rfl)
    | (apply s_fld_bx TY; exact rfl; exact rfl; exact rfl)
    | (apply s_load_bx_f TY; exact rfl; exact rfl; exact rfl; exact rfl; exact rfl)
    | (apply s_load_bx_x TY; exact rfl; exact rfl; exact rfl; exact rfl; exact rfl)
    | (apply s_load_bx_o TY; exact rfl; exact rfl; exact rfl; exact rfl; exact rfl)
    | (apply s_load_bxs TY; exact rfl; exact rfl; exact rfl; exact rfl; exact rfl; exact rfl)
    | (apply s_load_row TY; exact rfl; exact rfl; exact rfl; exact rfl; (first | exact rfl | assumption))
    | (apply s_len_nil TY; exact rfl; exact rfl; exact rfl)
    | (apply s_len_ow TY; exact rfl; exact rfl; exact rfl; exact rfl)
    | (apply s_len_str TY; exact rfl; exact rfl; exact rfl)
    | (apply s_makefn; exact rfl; exact rfl)
    | (apply s_pickT; exact rfl; exact rfl; (first | exact rfl | assumption); exact rfl)
    | (apply s_pickF; exact rfl; exact rfl; (first | exact rfl | assumption); exact rfl)
    | apply w_seq
    | apply w_region
    | apply s_nil
    | apply t_norm
    | apply t_exit
    | apply t_ret
    | apply k_hit
    | (apply k_miss; exact rfl)
    | apply k_norm
    | apply k_ret
    | apply w_block
    | apply w_exit
    | apply w_ret
    | apply w_skip
    | (apply s_add; exact rfl; exact rfl; exact rfl; (omega))
    | (apply g_skip; exact rfl; (first | exact rfl | assumption); exact rfl)
    | (apply g_skipu; exact rfl; exact rfl; exact rfl)
    | (apply g_move_f; exact rfl; (first | exact rfl | assumption); exact rfl; exact rfl)
    | (apply g_assign_f; exact rfl; (first | exact rfl | assumption); exact rfl; exact rfl)
    | (apply g_fld_pt TY; exact rfl; (first | exact rfl | assumption); exact rfl; exact rfl; exact rfl)
    | (apply g_load_pt TY; exact rfl; (first | exact rfl | assumption); exact rfl; exact rfl; exact rfl; (first | exact rfl | assumption))
    | (apply g_load_pts TY; exact rfl; (first | exact rfl | assumption); exact rfl; exact rfl; exact rfl; (first | assumption | exact rfl); exact rfl)
    | (apply g_len TY; exact rfl; (first | exact rfl | assumption); exact rfl; exact rfl; exact rfl)
    | (apply g_not; exact rfl; (first | exact rfl | assumption); exact rfl; exact rfl)
    | (apply g_neq; exact rfl; (first | exact rfl | assumption); exact rfl; exact rfl; exact rfl)
    | (apply g_move_o; exact rfl; (first | exact rfl | assumption); exact rfl; exact rfl)
    | (apply g_move_x; exact rfl; (first | exact rfl | assumption); exact rfl; exact rfl)
    | (apply g_assign_x; exact rfl; (first | exact rfl | assumption); exact rfl; exact rfl)
    | (apply g_assign_o; exact rfl; (first | exact rfl | assumption); exact rfl; exact rfl)
    | (apply g_fld_bx TY; exact rfl; (first | exact rfl | assumption); exact rfl; exact rfl; exact rfl)
    | (apply g_load_bx_f TY; exact rfl; (first | exact rfl | assumption); exact rfl; exact rfl; exact rfl; exact rfl; exact rfl)
    | (apply g_load_bx_x TY; exact rfl; (first | exact rfl | assumption); exact rfl; exact rfl; exact rfl; exact rfl; exact rfl)
    | (apply g_load_bx_o TY; exact rfl; (first | exact rfl | assumption); exact rfl; exact rfl; exact rfl; exact rfl; exact rfl)
    | (apply g_load_bxs TY; exact rfl; (first | exact rfl | assumption); exact rfl; exact rfl; exact rfl; exact rfl; exact rfl; exact rfl)
    | (apply g_load_row TY; exact rfl; (first | exact rfl | assumption); exact rfl; exact rfl; exact rfl; exact rfl; (first | exact rfl | assumption))
    | (apply g_len_nil TY; exact rfl; (first | exact rfl | assumption); exact rfl; exact rfl; exact rfl)
    | (apply g_len_ow TY; exact rfl; (first | exact rfl | assumption); exact rfl; exact rfl; exact rfl; exact rfl)
    | (apply g_len_str TY; exact rfl; (first | exact rfl | assumption); exact rfl; exact rfl; exact rfl)
    | (apply s_idxN TY; exact rfl; exact rfl; exact rfl; exact rfl; assumption; assumption)
    | (apply s_idxN_ow TY; exact rfl; exact rfl; exact rfl; exact rfl; exact rfl; assumption)
    | (apply s_idx TY; exact rfl; exact rfl; exact rfl; exact rfl; omega; omega; assumption)
    | (apply g_idxN TY; exact rfl; (first | exact rfl | assumption); exact rfl; exact rfl; exact rfl; exact rfl; assumption; assumption)
    | (apply w_condT; exact rfl; (first | exact rfl | assumption))
    | (apply w_condF; exact rfl; (first | exact rfl | assumption)))
    have e := holeE1_shape (h := h) (by unfold holeShape; rw [h0]; rfl)
    exact lv_ret (ret2 rfl (res_tmp (av1 e)) (res_tmp (av2 e)))
  have hc : decide ((h.widths.length : Int) = 0) = false := decide_eq_false (by omega)
  by_cases h1 : h.shrinks.length = h.widths.length
  case neg =>
    have hd : (!decide ((h.shrinks.length : Int) = (h.widths.length : Int))) = true := by simp; omega
    repeat (first
    | (apply s_move_f; exact rfl; exact rfl)
    | (apply s_assign_f; exact rfl; exact rfl)
    | (apply s_fld_pt TY; exact rfl; exact rfl; exact rfl)
    | (apply s_load_pt TY; exact rfl; exact rfl; exact rfl; (first | exact rfl | assumption))
    | (apply s_load_pts TY; exact rfl; exact rfl; exact rfl; (first | assumption | exact rfl); exact rfl)
    | (apply s_len TY; exact rfl; exact rfl; exact rfl)
    | (apply s_box; exact rfl; exact rfl; exact rfl)
    | (apply s_not; exact rfl; exact rfl)
    | (apply s_lss; exact rfl; exact rfl; exact rfl)
    | (apply s_gtr; exact rfl; exact rfl; exact rfl)
    | (apply s_eql; exact rfl; exact rfl; exact rfl)
    | (apply s_neq; exact rfl; exact rfl; exact rfl)
    | (apply s_move_o; exact rfl; exact rfl)
    | (apply s_move_x; exact rfl; exact rfl)
    | (apply s_assign_x; exact rfl; exact rfl)
    | (apply s_assign_o; exact rfl; exact rfl)
    | (apply s_fld_bx TY; exact rfl; exact rfl; exact rfl)
    | (apply s_load_bx_f TY; exact rfl; exact rfl; exact rfl; exact rfl; exact rfl)
    | (apply s_load_bx_x TY; exact rfl; exact rfl; exact rfl; exact rfl; exact rfl)
    | (apply s_load_bx_o TY; exact rfl; exact rfl; exact rfl; exact rfl; exact rfl)
    | (apply s_load_bxs TY; exact rfl; exact rfl; exact rfl; exact rfl; exact rfl; exact rfl)
    | (apply s_load_row TY; exact rfl; exact rfl; exact rfl; exact rfl; (first | exact rfl | assumption))
    | (apply s_len_nil TY; exact rfl; exact rfl; exact rfl)
    | (apply s_len_ow TY; exact rfl; exact rfl; exact rfl; exact rfl)
    | (apply s_len_str TY; exact rfl; exact rfl; exact rfl)
    | (apply s_makefn; exact rfl; exact rfl)
    | (apply s_pickT; exact rfl; exact rfl; (first | exact rfl | assumption); exact rfl)
    | (apply s_pickF; exact rfl; exact rfl; (first | exact rfl | assumption); exact rfl)
    | apply w_seq
    | apply w_region
    | apply s_nil
    | apply t_norm
    | apply t_exit
    | apply t_ret
    | apply k_hit
    | (apply k_miss; exact rfl)
    | apply k_norm
    | apply k_ret
    | apply w_block
    | apply w_exit
    | apply w_ret
    | apply w_skip
    | (apply s_add; exact rfl; exact rfl; exact rfl; (omega))
    | (apply g_skip; exact rfl; (first | exact rfl | assumption); exact rfl)
    | (apply g_skipu; exact rfl; exact rfl; exact rfl)
    | (apply g_move_f; exact rfl; (first | exact rfl | assumption); exact rfl; exact rfl)
    | (apply g_assign_f; exact rfl; (first | exact rfl | assumption); exact rfl; exact rfl)
    | (apply g_fld_pt TY; exact rfl; (first | exact rfl | assumption); exact rfl; exact rfl; exact rfl)
    | (apply g_load_pt TY; exact rfl; (first | exact rfl | assumption); exact rfl; exact rfl; exact rfl; (first | exact rfl | assumption))
    | (apply g_load_pts TY; exact rfl; (first | exact rfl | assumption); exact rfl; exact rfl; exact rfl; (first | assumption | exact rfl); exact rfl)
    | (apply g_len TY; exact rfl; (first | exact rfl | assumption); exact rfl; exact rfl; exact rfl)
    | (apply g_not; exact rfl; (first | exact rfl | assumption); exact rfl; exact rfl)
    | (apply g_neq; exact rfl; (first | exact rfl | assumption); exact rfl; exact rfl; exact rfl)
    | (apply g_move_o; exact rfl; (first | exact rfl | assumption); exact rfl; exact rfl)
    | (apply g_move_x; exact rfl; (first | exact rfl | assumption); exact rfl; exact rfl)
    | (apply g_assign_x; exact rfl; (first | exact rfl | assumption); exact rfl; exact rfl)
    | (apply g_assign_o; exact rfl; (first | exact rfl | assumption); exact rfl; exact rfl)
    | (apply g_fld_bx TY; exact rfl; (first | exact rfl | assumption); exact rfl; exact rfl; exact rfl)
    | (apply g_load_bx_f TY; exact rfl; (first | exact rfl | assumption); exact rfl; exact rfl; exact rfl; exact rfl; exact rfl)
    | (apply g_load_bx_x TY; exact rfl; (first | exact rfl | assumption); exact rfl; exact rfl; exact rfl; exact rfl; exact rfl)
    | (apply g_load_bx_o TY; exact rfl; (first | exact rfl | assumption); exact rfl; exact rfl; exact rfl; exact rfl; exact rfl)
    | (apply g_load_bxs TY; exact rfl; (first | exact rfl | assumption); exact rfl; exact rfl; exact rfl; exact rfl; exact rfl; exact rfl)
    | (apply g_load_row TY; exact rfl; (first | exact rfl | assumption); exact rfl; exact rfl; exact rfl; exact rfl; (first | exact rfl | assumption))
    | (apply g_len_nil TY; exact rfl; (first | exact rfl | assumption); exact rfl; exact rfl; exact rfl)
    | (apply g_len_ow TY; exact rfl; (first | exact rfl | assumption); exact rfl; exact rfl; exact rfl; exact rfl)
    | (apply g_len_str TY; exact rfl; (first | exact rfl | assumption); exact rfl; exact rfl; exact rfl)
    | (apply s_idxN TY; exact rfl; exact rfl; exact rfl; exact rfl; assumption; assumption)
    | (apply s_idxN_ow TY; exact rfl; exact rfl; exact rfl; exact rfl; exact rfl; assumption)
    | (apply s_idx TY; exact rfl; exact rfl; exact rfl; exact rfl; omega; omega; assumption)
    | (apply g_idxN TY; exact rfl; (first | exact rfl | assumption); exact rfl; exact rfl; exact rfl; exact rfl; assumption; assumption)
    | (apply w_condT; exact rfl; (first | exact rfl | assumption))
    | (apply w_condF; exact rfl; (first | exact rfl | assumption)))
    have e := holeE1_shape (h := h) (by unfold holeShape; simp; omega)
    exact lv_ret (ret2 rfl (res_tmp (av1 e)) (res_tmp (av2 e)))
  have hd : (!decide ((h.shrinks.length : Int) = (h.widths.length : Int))) = false := by simp; omega
  have hs : holeShape h = true := by unfold holeShape; simp; omega
  by_cases h2 : 20 < h.widths.length
  · have hu : decide ((20 : Int) < h.widths.length) = true := decide_eq_true (by omega)
    repeat (first
    | (apply s_move_f; exact rfl; exact rfl)
    | (apply s_assign_f; exact rfl; exact rfl)
    | (apply s_fld_pt TY; exact rfl; exact rfl; exact rfl)
    | (apply s_load_pt TY; exact rfl; exact rfl; exact rfl; (first | exact rfl | assumption))
    | (apply s_load_pts TY; exact rfl; exact rfl; exact rfl; (first | assumption | exact rfl); exact rfl)
    | (apply s_len TY; exact rfl; exact rfl; exact rfl)
    | (apply s_box; exact rfl; exact rfl; exact rfl)
    | (apply s_not; exact rfl; exact rfl)
    | (apply s_lss; exact rfl; exact rfl; exact rfl)
    | (apply s_gtr; exact rfl; exact rfl; exact rfl)
    | (apply s_eql; exact rfl; exact rfl; exact rfl)
    | (apply s_neq; exact rfl; exact rfl; exact rfl)
    | (apply s_move_o; exact rfl; exact rfl)
    | (apply s_move_x; exact rfl; exact rfl)
    | (apply s_assign_x; exact rfl; exact rfl)
    | (apply s_assign_o; exact rfl; exact rfl)
    | (apply s_fld_bx TY; exact rfl; exact rfl; exact rfl)
    | (apply s_load_bx_f TY; exact rfl; exact rfl; exact rfl; exact rfl; exact rfl)
    | (apply s_load_bx_x TY; exact rfl; exact rfl; exact rfl; exact rfl; exact rfl)
    | (apply s_load_bx_o TY; exact rfl; exact rfl; exact rfl; exact rfl; exact rfl)
    | (apply s_load_bxs TY; exact rfl; exact rfl; exact rfl; exact rfl; exact rfl; exact rfl)
    | (apply s_load_row TY; exact rfl; exact rfl; exact rfl; exact rfl; (first | exact rfl | assumption))
    | (apply s_len_nil TY; exact rfl; exact rfl; exact rfl)
    | (apply s_len_ow TY; exact rfl; exact rfl; exact rfl; exact rfl)
    | (apply s_len_str TY; exact rfl; exact rfl; exact rfl)
    | (apply s_makefn; exact rfl; exact rfl)
    | (apply s_pickT; exact rfl; exact rfl; (first | exact rfl | assumption); exact rfl)
    | (apply s_pickF; exact rfl; exact rfl; (first | exact rfl | assumption); exact rfl)
    | apply w_seq
    | apply w_region
    | apply s_nil
    | apply t_norm
    | apply t_exit
    | apply t_ret
    | apply k_hit
    | (apply k_miss; exact rfl)
    | apply k_norm
    | apply k_ret
    | apply w_block
    | apply w_exit
    | apply w_ret
    | apply w_skip
    | (apply s_add; exact rfl; exact rfl; exact rfl; (omega))
    | (apply g_skip; exact rfl; (first | exact rfl | assumption); exact rfl)
    | (apply g_skipu; exact rfl; exact rfl; exact rfl)
    | (apply g_move_f; exact rfl; (first | exact rfl | assumption); exact rfl; exact rfl)
    | (apply g_assign_f; exact rfl; (first | exact rfl | assumption); exact rfl; exact rfl)
    | (apply g_fld_pt TY; exact rfl; (first | exact rfl | assumption); exact rfl; exact rfl; exact rfl)
    | (apply g_load_pt TY; exact rfl; (first | exact rfl | assumption); exact rfl; exact rfl; exact rfl; (first | exact rfl | assumption))
    | (apply g_load_pts TY; exact rfl; (first | exact rfl | assumption); exact rfl; exact rfl; exact rfl; (first | assumption | exact rfl); exact rfl)
    | (apply g_len TY; exact rfl; (first | exact rfl | assumption); exact rfl; exact rfl; exact rfl)
    | (apply g_not; exact rfl; (first | exact rfl | assumption); exact rfl; exact rfl)
    | (apply g_neq; exact rfl; (first | exact rfl | assumption); exact rfl; exact rfl; exact rfl)
    | (apply g_move_o; exact rfl; (first | exact rfl | assumption); exact rfl; exact rfl)
    | (apply g_move_x; exact rfl; (first | exact rfl | assumption); exact rfl; exact rfl)
    | (apply g_assign_x; exact rfl; (first | exact rfl | assumption); exact rfl; exact rfl)
    | (apply g_assign_o; exact rfl; (first | exact rfl | assumption); exact rfl; exact rfl)
    | (apply g_fld_bx TY; exact rfl; (first | exact rfl | assumption); exact rfl; exact rfl; exact rfl)
    | (apply g_load_bx_f TY; exact rfl; (first | exact rfl | assumption); exact rfl; exact rfl; exact rfl; exact rfl; exact rfl)
    | (apply g_load_bx_x TY; exact rfl; (first | exact rfl | assumption); exact rfl; exact rfl; exact rfl; exact rfl; exact rfl)
    | (apply g_load_bx_o TY; exact rfl; (first | exact rfl | assumption); exact rfl; exact rfl; exact rfl; exact rfl; exact rfl)
    | (apply g_load_bxs TY; exact rfl; (first | exact rfl | assumption); exact rfl; exact rfl; exact rfl; exact rfl; exact rfl; exact rfl)
    | (apply g_load_row TY; exact rfl; (first | exact rfl | assumption); exact rfl; exact rfl; exact rfl; exact rfl; (first | exact rfl | assumption))
    | (apply g_len_nil TY; exact rfl; (first | exact rfl | assumption); exact rfl; exact rfl; exact rfl)
    | (apply g_len_ow TY; exact rfl; (first | exact rfl | assumption); exact rfl; exact rfl; exact rfl; exact rfl)
    | (apply g_len_str TY; exact rfl; (first | exact rfl | assumption); exact rfl; exact rfl; exact rfl)
    | (apply s_idxN TY; exact rfl; exact rfl; exact rfl; exact rfl; assumption; assumption)
    | (apply s_idxN_ow TY; exact rfl; exact rfl; exact rfl; exact rfl; exact rfl; assumption)
    | (apply s_idx TY; exact rfl; exact rfl; exact rfl; exact rfl; omega; omega; assumption)
    | (apply g_idxN TY; exact rfl; (first | exact rfl | assumption); exact rfl; exact rfl; exact rfl; exact rfl; assumption; assumption)
    | (apply w_condT; exact rfl; (first | exact rfl | assumption))
    | (apply w_condF; exact rfl; (first | exact rfl | assumption)))
    have e := holeE1_many hs h2
    exact lv_ret (ret2 rfl (res_tmp (av1 e)) (res_tmp (av2 e)))
  have hu : decide ((20 : Int) < h.widths.length) = false := decide_eq_false (by omega)
  cases wn : withinB h.need 1 1000000 with
  | false =>
    have gn : (!withinB h.need 1 1000000) = true := by rw [wn]; rfl
    repeat (first
    | (apply s_move_f; exact rfl; exact rfl)
    | (apply s_assign_f; exact rfl; exact rfl)
    | (apply s_fld_pt TY; exact rfl; exact rfl; exact rfl)
    | (apply s_load_pt TY; exact rfl; exact rfl; exact rfl; (first | exact rfl | assumption))
    | (apply s_load_pts TY; exact rfl; exact rfl; exact rfl; (first | assumption | exact rfl); exact rfl)
    | (apply s_len TY; exact rfl; exact rfl; exact rfl)
    | (apply s_box; exact rfl; exact rfl; exact rfl)
    | (apply s_not; exact rfl; exact rfl)
    | (apply s_lss; exact rfl; exact rfl; exact rfl)
    | (apply s_gtr; exact rfl; exact rfl; exact rfl)
    | (apply s_eql; exact rfl; exact rfl; exact rfl)
    | (apply s_neq; exact rfl; exact rfl; exact rfl)
    | (apply s_move_o; exact rfl; exact rfl)
    | (apply s_move_x; exact rfl; exact rfl)
    | (apply s_assign_x; exact rfl; exact rfl)
    | (apply s_assign_o; exact rfl; exact rfl)
    | (apply s_fld_bx TY; exact rfl; exact rfl; exact rfl)
    | (apply s_load_bx_f TY; exact rfl; exact rfl; exact rfl; exact rfl; exact rfl)
    | (apply s_load_bx_x TY; exact rfl; exact rfl; exact rfl; exact rfl; exact rfl)
    | (apply s_load_bx_o TY; exact rfl; exact rfl; exact rfl; exact rfl; exact rfl)
    | (apply s_load_bxs TY; exact rfl; exact rfl; exact rfl; exact rfl; exact rfl; exact rfl)
    | (apply s_load_row TY; exact rfl; exact rfl; exact rfl; exact rfl; (first | exact rfl | assumption))
    | (apply s_len_nil TY; exact rfl; exact rfl; exact rfl)
    | (apply s_len_ow TY; exact rfl; exact rfl; exact rfl; exact rfl)
    | (apply s_len_str TY; exact rfl; exact rfl; exact rfl)
    | (apply s_makefn; exact rfl; exact rfl)
    | (apply s_pickT; exact rfl; exact rfl; (first | exact rfl | assumption); exact rfl)
    | (apply s_pickF; exact rfl; exact rfl; (first | exact rfl | assumption); exact rfl)
    | apply w_seq
    | apply w_region
    | apply s_nil
    | apply t_norm
    | apply t_exit
    | apply t_ret
    | apply k_hit
    | (apply k_miss; exact rfl)
    | apply k_norm
    | apply k_ret
    | apply w_block
    | apply w_exit
    | apply w_ret
    | apply w_skip
    | (apply s_call (Within_s _ _ _); exact rfl; exact rfl; exact rfl; exact rfl)
    | (apply s_add; exact rfl; exact rfl; exact rfl; (omega))
    | (apply g_skip; exact rfl; (first | exact rfl | assumption); exact rfl)
    | (apply g_skipu; exact rfl; exact rfl; exact rfl)
    | (apply g_move_f; exact rfl; (first | exact rfl | assumption); exact rfl; exact rfl)
    | (apply g_assign_f; exact rfl; (first | exact rfl | assumption); exact rfl; exact rfl)
    | (apply g_fld_pt TY; exact rfl; (first | exact rfl | assumption); exact rfl; exact rfl; exact rfl)
    | (apply g_load_pt TY; exact rfl; (first | exact rfl | assumption); exact rfl; exact rfl; exact rfl; (first | exact rfl | assumption))
    | (apply g_load_pts TY; exact rfl; (first | exact rfl | assumption); exact rfl; exact rfl; exact rfl; (first | assumption | exact rfl); exact rfl)
    | (apply g_len TY; exact rfl; (first | exact rfl | assumption); exact rfl; exact rfl; exact rfl)
    | (apply g_not; exact rfl; (first | exact rfl | assumption); exact rfl; exact rfl)
    | (apply g_neq; exact rfl; (first | exact rfl | assumption); exact rfl; exact rfl; exact rfl)
    | (apply g_move_o; exact rfl; (first | exact rfl | assumption); exact rfl; exact rfl)
    | (apply g_move_x; exact rfl; (first | exact rfl | assumption); exact rfl; exact rfl)
    | (apply g_assign_x; exact rfl; (first | exact rfl | assumption); exact rfl; exact rfl)
    | (apply g_assign_o; exact rfl; (first | exact rfl | assumption); exact rfl; exact rfl)
    | (apply g_fld_bx TY; exact rfl; (first | exact rfl | assumption); exact rfl; exact rfl; exact rfl)
    | (apply g_load_bx_f TY; exact rfl; (first | exact rfl | assumption); exact rfl; exact rfl; exact rfl; exact rfl; exact rfl)
    | (apply g_load_bx_x TY; exact rfl; (first | exact rfl | assumption); exact rfl; exact rfl; exact rfl; exact rfl; exact rfl)
    | (apply g_load_bx_o TY; exact rfl; (first | exact rfl | assumption); exact rfl; exact rfl; exact rfl; exact rfl; exact rfl)
    | (apply g_load_bxs TY; exact rfl; (first | exact rfl | assumption); exact rfl; exact rfl; exact rfl; exact rfl; exact rfl; exact rfl)
    | (apply g_load_row TY; exact rfl; (first | exact rfl | assumption); exact rfl; exact rfl; exact rfl; exact rfl; (first | exact rfl | assumption))
    | (apply g_len_nil TY; exact rfl; (first | exact rfl | assumption); exact rfl; exact rfl; exact rfl)
    | (apply g_len_ow TY; exact rfl; (first | exact rfl | assumption); exact rfl; exact rfl; exact rfl; exact rfl)
    | (apply g_len_str TY; exact rfl; (first | exact rfl | assumption); exact rfl; exact rfl; exact rfl)
    | (apply g_call (Within_s _ _ _); exact rfl; (first | exact rfl | assumption); exact rfl; exact rfl; exact rfl; exact rfl)
    | (apply s_idxN TY; exact rfl; exact rfl; exact rfl; exact rfl; assumption; assumption)
    | (apply s_idxN_ow TY; exact rfl; exact rfl; exact rfl; exact rfl; exact rfl; assumption)
    | (apply s_idx TY; exact rfl; exact rfl; exact rfl; exact rfl; omega; omega; assumption)
    | (apply g_idxN TY; exact rfl; (first | exact rfl | assumption); exact rfl; exact rfl; exact rfl; exact rfl; assumption; assumption)
    | (apply w_condT; exact rfl; (first | exact rfl | assumption))
    | (apply w_condF; exact rfl; (first | exact rfl | assumption)))
    have e := holeE1_need hs (by omega) wn
    exact lv_ret (ret2 rfl (res_tmp (av1 e)) (res_tmp (av2 e)))
  | true =>
  have gn : (!withinB h.need 1 1000000) = false := by rw [wn]; rfl
  have hok := holeE1_ok hs (by omega) wn
  repeat (first
    | (apply s_move_f; exact rfl; exact rfl)
    | (apply s_assign_f; exact rfl; exact rfl)
    | (apply s_fld_pt TY; exact rfl; exact rfl; exact rfl)
    | (apply s_load_pt TY; exact rfl; exact rfl; exact rfl; (first | exact rfl | assumption))
    | (apply s_load_pts TY; exact rfl; exact rfl; exact rfl; (first | assumption | exact rfl); exact rfl)
    | (apply s_len TY; exact rfl; exact rfl; exact rfl)
    | (apply s_box; exact rfl; exact rfl; exact rfl)
    | (apply s_not; exact rfl; exact rfl)
    | (apply s_lss; exact rfl; exact rfl; exact rfl)
    | (apply s_gtr; exact rfl; exact rfl; exact rfl)
    | (apply s_eql; exact rfl; exact rfl; exact rfl)
    | (apply s_neq; exact rfl; exact rfl; exact rfl)
    | (apply s_move_o; exact rfl; exact rfl)
    | (apply s_move_x; exact rfl; exact rfl)
    | (apply s_assign_x; exact rfl; exact rfl)
    | (apply s_assign_o; exact rfl; exact rfl)
    | (apply s_fld_bx TY; exact rfl; exact rfl; exact rfl)
    | (apply s_load_bx_f TY; exact rfl; exact rfl; exact rfl; exact rfl; exact rfl)
    | (apply s_load_bx_x TY; exact rfl; exact rfl; exact rfl; exact rfl; exact rfl)
    | (apply s_load_bx_o TY; exact rfl; exact rfl; exact rfl; exact rfl; exact rfl)
    | (apply s_load_bxs TY; exact rfl; exact rfl; exact rfl; exact rfl; exact rfl; exact rfl)
    | (apply s_load_row TY; exact rfl; exact rfl; exact rfl; exact rfl; (first | exact rfl | assumption))
    | (apply s_len_nil TY; exact rfl; exact rfl; exact rfl)
    | (apply s_len_ow TY; exact rfl; exact rfl; exact rfl; exact rfl)
    | (apply s_len_str TY; exact rfl; exact rfl; exact rfl)
    | (apply s_makefn; exact rfl; exact rfl)
    | (apply s_pickT; exact rfl; exact rfl; (first | exact rfl | assumption); exact rfl)
    | (apply s_pickF; exact rfl; exact rfl; (first | exact rfl | assumption); exact rfl)
    | apply w_seq
    | apply w_region
    | apply s_nil
    | apply t_norm
    | apply t_exit
    | apply t_ret
    | apply k_hit
    | (apply k_miss; exact rfl)
    | apply k_norm
    | apply k_ret
    | apply w_block
    | apply w_exit
    | apply w_ret
    | apply w_skip
    | (apply s_call (Within_s _ _ _); exact rfl; exact rfl; exact rfl; exact rfl)
    | (apply s_add; exact rfl; exact rfl; exact rfl; (omega))
    | (apply g_skip; exact rfl; (first | exact rfl | assumption); exact rfl)
    | (apply g_skipu; exact rfl; exact rfl; exact rfl)
    | (apply g_move_f; exact rfl; (first | exact rfl | assumption); exact rfl; exact rfl)
    | (apply g_assign_f; exact rfl; (first | exact rfl | assumption); exact rfl; exact rfl)
    | (apply g_fld_pt TY; exact rfl; (first | exact rfl | assumption); exact rfl; exact rfl; exact rfl)
    | (apply g_load_pt TY; exact rfl; (first | exact rfl | assumption); exact rfl; exact rfl; exact rfl; (first | exact rfl | assumption))
    | (apply g_load_pts TY; exact rfl; (first | exact rfl | assumption); exact rfl; exact rfl; exact rfl; (first | assumption | exact rfl); exact rfl)
    | (apply g_len TY; exact rfl; (first | exact rfl | assumption); exact rfl; exact rfl; exact rfl)
    | (apply g_not; exact rfl; (first | exact rfl | assumption); exact rfl; exact rfl)
    | (apply g_neq; exact rfl; (first | exact rfl | assumption); exact rfl; exact rfl; exact rfl)
    | (apply g_move_o; exact rfl; (first | exact rfl | assumption); exact rfl; exact rfl)
    | (apply g_move_x; exact rfl; (first | exact rfl | assumption); exact rfl; exact rfl)
    | (apply g_assign_x; exact rfl; (first | exact rfl | assumption); exact rfl; exact rfl)
    | (apply g_assign_o; exact rfl; (first | exact rfl | assumption); exact rfl; exact rfl)
    | (apply g_fld_bx TY; exact rfl; (first | exact rfl | assumption); exact rfl; exact rfl; exact rfl)
    | (apply g_load_bx_f TY; exact rfl; (first | exact rfl | assumption); exact rfl; exact rfl; exact rfl; exact rfl; exact rfl)
    | (apply g_load_bx_x TY; exact rfl; (first | exact rfl | assumption); exact rfl; exact rfl; exact rfl; exact rfl; exact rfl)
    | (apply g_load_bx_o TY; exact rfl; (first | exact rfl | assumption); exact rfl; exact rfl; exact rfl; exact rfl; exact rfl)
    | (apply g_load_bxs TY; exact rfl; (first | exact rfl | assumption); exact rfl; exact rfl; exact rfl; exact rfl; exact rfl; exact rfl)
    | (apply g_load_row TY; exact rfl; (first | exact rfl | assumption); exact rfl; exact rfl; exact rfl; exact rfl; (first | exact rfl | assumption))
    | (apply g_len_nil TY; exact rfl; (first | exact rfl | assumption); exact rfl; exact rfl; exact rfl)
    | (apply g_len_ow TY; exact rfl; (first | exact rfl | assumption); exact rfl; exact rfl; exact rfl; exact rfl)
    | (apply g_len_str TY; exact rfl; (first | exact rfl | assumption); exact rfl; exact rfl; exact rfl)
    | (apply g_call (Within_s _ _ _); exact rfl; (first | exact rfl | assumption); exact rfl; exact rfl; exact rfl; exact rfl)
    | (apply s_idxN TY; exact rfl; exact rfl; exact rfl; exact rfl; assumption; assumption)
    | (apply s_idxN_ow TY; exact rfl; exact rfl; exact rfl; exact rfl; exact rfl; assumption)
    | (apply s_idx TY; exact rfl; exact rfl; exact rfl; exact rfl; omega; omega; assumption)
    | (apply g_idxN TY; exact rfl; (first | exact rfl | assumption); exact rfl; exact rfl; exact rfl; exact rfl; assumption; assumption)
    | (apply w_condT; exact rfl; (first | exact rfl | assumption))
    | (apply w_condF; exact rfl; (first | exact rfl | assumption)))
  apply w_loop (fun k : Nat => ⟨(Ab.upd (Ab.upd (Ab.upd (Ab.upd (fun _ => .bot) 1 (.f (.pt (holeL h) 0))) 2 (.f (iv 0))) 3 (.f (iv 0))) 4 (.f (iv (k : Nat)))), (fun _ => none), 0⟩) (fun k => k ≤ h.widths.length ∧ checkHole h = holeScan h (h.widths.length - k) k) (fun k => h.widths.length - k) 0 ⟨Nat.zero_le _, hok⟩ (gh_le ⟨le_upd rfl trivial (le_upd rfl trivial (le_upd rfl trivial (le_upd rfl trivial (le_nil _)))), le_h0 _ _⟩)
  intro k ⟨hk, hall⟩
  by_cases hkc : k < h.widths.length
  · have hcc : decide ((k : Int) < (h.widths.length : Int)) = true := decide_eq_true (by omega)
    have hks : k < h.shrinks.length := by omega
    have a1 : (intsF h.widths)[k * 1]? = some (iv h.widths[k]) := map_at hkc
    have a2 : (intsF h.shrinks)[k * 1]? = some (iv h.shrinks[k]) := map_at hks
    have n1 : intsF h.widths ≠ [] := map_ne hkc
    have n2 : intsF h.shrinks ≠ [] := map_ne hks
    have q1 := getD_at hkc
    have q2 := getD_at hks
    cases w1 : withinB h.widths[k] 0 1000000 with
    | false =>
      have g1 : (!withinB h.widths[k] 0 1000000) = true := by rw [w1]; rfl
      repeat (first
    | (apply s_move_f; exact rfl; exact rfl)
    | (apply s_assign_f; exact rfl; exact rfl)
    | (apply s_fld_pt TY; exact rfl; exact rfl; exact rfl)
    | (apply s_load_pt TY; exact rfl; exact rfl; exact rfl; (first | exact rfl | assumption))
    | (apply s_load_pts TY; exact rfl; exact rfl; exact rfl; (first | assumption | exact rfl); exact rfl)
    | (apply s_len TY; exact rfl; exact rfl; exact rfl)
    | (apply s_box; exact rfl; exact rfl; exact rfl)
    | (apply s_not; exact rfl; exact rfl)
    | (apply s_lss; exact rfl; exact rfl; exact rfl)
    | (apply s_gtr; exact rfl; exact rfl; exact rfl)
    | (apply s_eql; exact rfl; exact rfl; exact rfl)
    | (apply s_neq; exact rfl; exact rfl; exact rfl)
    | (apply s_move_o; exact rfl; exact rfl)
    | (apply s_move_x; exact rfl; exact rfl)
    | (apply s_assign_x; exact rfl; exact rfl)
    | (apply s_assign_o; exact rfl; exact rfl)
    | (apply s_fld_bx TY; exact rfl; exact rfl; exact rfl)
    | (apply s_load_bx_f TY; exact rfl; exact rfl; exact rfl; exact rfl; exact rfl)
    | (apply s_load_bx_x TY; exact rfl; exact rfl; exact rfl; exact rfl; exact rfl)
    | (apply s_load_bx_o TY; exact rfl; exact rfl; exact rfl; exact rfl; exact rfl)
    | (apply s_load_bxs TY; exact rfl; exact rfl; exact rfl; exact rfl; exact rfl; exact rfl)
    | (apply s_load_row TY; exact rfl; exact rfl; exact rfl; exact rfl; (first | exact rfl | assumption))
    | (apply s_len_nil TY; exact rfl; exact rfl; exact rfl)
    | (apply s_len_ow TY; exact rfl; exact rfl; exact rfl; exact rfl)
    | (apply s_len_str TY; exact rfl; exact rfl; exact rfl)
    | (apply s_makefn; exact rfl; exact rfl)
    | (apply s_pickT; exact rfl; exact rfl; (first | exact rfl | assumption); exact rfl)
    | (apply s_pickF; exact rfl; exact rfl; (first | exact rfl | assumption); exact rfl)
    | apply w_seq
    | apply w_region
    | apply s_nil
    | apply t_norm
    | apply t_exit
    | apply t_ret
    | apply k_hit
    | (apply k_miss; exact rfl)
    | apply k_norm
    | apply k_ret
    | apply w_block
    | apply w_exit
    | apply w_ret
    | apply w_skip
    | (apply s_call (Within_s _ _ _); exact rfl; exact rfl; exact rfl; exact rfl)
    | (apply s_add; exact rfl; exact rfl; exact rfl; (omega))
    | (apply g_skip; exact rfl; (first | exact rfl | assumption); exact rfl)
    | (apply g_skipu; exact rfl; exact rfl; exact rfl)
    | (apply g_move_f; exact rfl; (first | exact rfl | assumption); exact rfl; exact rfl)
    | (apply g_assign_f; exact rfl; (first | exact rfl | assumption); exact rfl; exact rfl)
    | (apply g_fld_pt TY; exact rfl; (first | exact rfl | assumption); exact rfl; exact rfl; exact rfl)
    | (apply g_load_pt TY; exact rfl; (first | exact rfl | assumption); exact rfl; exact rfl; exact rfl; (first | exact rfl | assumption))
    | (apply g_load_pts TY; exact rfl; (first | exact rfl | assumption); exact rfl; exact rfl; exact rfl; (first | assumption | exact rfl); exact rfl)
    | (apply g_len TY; exact rfl; (first | exact rfl | assumption); exact rfl; exact rfl; exact rfl)
    | (apply g_not; exact rfl; (first | exact rfl | assumption); exact rfl; exact rfl)
    | (apply g_neq; exact rfl; (first | exact rfl | assumption); exact rfl; exact rfl; exact rfl)
    | (apply g_move_o; exact rfl; (first | exact rfl | assumption); exact rfl; exact rfl)
    | (apply g_move_x; exact rfl; (first | exact rfl | assumption); exact rfl; exact rfl)
    | (apply g_assign_x; exact rfl; (first | exact rfl | assumption); exact rfl; exact rfl)
    | (apply g_assign_o; exact rfl; (first | exact rfl | assumption); exact rfl; exact rfl)
    | (apply g_fld_bx TY; exact rfl; (first | exact rfl | assumption); exact rfl; exact rfl; exact rfl)
    | (apply g_load_bx_f TY; exact rfl; (first | exact rfl | assumption); exact rfl; exact rfl; exact rfl; exact rfl; exact rfl)
    | (apply g_load_bx_x TY; exact rfl; (first | exact rfl | assumption); exact rfl; exact rfl; exact rfl; exact rfl; exact rfl)
    | (apply g_load_bx_o TY; exact rfl; (first | exact rfl | assumption); exact rfl; exact rfl; exact rfl; exact rfl; exact rfl)
    | (apply g_load_bxs TY; exact rfl; (first | exact rfl | assumption); exact rfl; exact rfl; exact rfl; exact rfl; exact rfl; exact rfl)
    | (apply g_load_row TY; exact rfl; (first | exact rfl | assumption); exact rfl; exact rfl; exact rfl; exact rfl; (first | exact rfl | assumption))
    | (apply g_len_nil TY; exact rfl; (first | exact rfl | assumption); exact rfl; exact rfl; exact rfl)
    | (apply g_len_ow TY; exact rfl; (first | exact rfl | assumption); exact rfl; exact rfl; exact rfl; exact rfl)
    | (apply g_len_str TY; exact rfl; (first | exact rfl | assumption); exact rfl; exact rfl; exact rfl)
    | (apply g_call (Within_s _ _ _); exact rfl; (first | exact rfl | assumption); exact rfl; exact rfl; exact rfl; exact rfl)
    | (apply s_idxN TY; exact rfl; exact rfl; exact rfl; exact rfl; assumption; assumption)
    | (apply s_idxN_ow TY; exact rfl; exact rfl; exact rfl; exact rfl; exact rfl; assumption)
    | (apply s_idx TY; exact rfl; exact rfl; exact rfl; exact rfl; omega; omega; assumption)
    | (apply g_idxN TY; exact rfl; (first | exact rfl | assumption); exact rfl; exact rfl; exact rfl; exact rfl; assumption; assumption)
    | (apply w_condT; exact rfl; (first | exact rfl | assumption))
    | (apply w_condF; exact rfl; (first | exact rfl | assumption)))
      have e := scan_stop hkc hall (hole_bad1 (by rw [q1, w1]; rfl)) (by decide)
      exact lv_ret (ret2 rfl (res_tmp (av1 e)) (res_tmp (av2 e)))
    | true =>
      have g1 : (!withinB h.widths[k] 0 1000000) = false := by rw [w1]; rfl
      cases w2 : withinB h.shrinks[k] 1 1000000 with
      | false =>
        have g2 : (!withinB h.shrinks[k] 1 1000000) = true := by rw [w2]; rfl
        repeat (first
    | (apply s_move_f; exact rfl; exact rfl)
    | (apply s_assign_f; exact rfl; exact rfl)
    | (apply s_fld_pt TY; exact rfl; exact rfl; exact rfl)
    | (apply s_load_pt TY; exact rfl; exact rfl; exact rfl; (first | exact rfl | assumption))
    | (apply s_load_pts TY; exact rfl; exact rfl; exact rfl; (first | assumption | exact rfl); exact rfl)
    | (apply s_len TY; exact rfl; exact rfl; exact rfl)
    | (apply s_box; exact rfl; exact rfl; exact rfl)
    | (apply s_not; exact rfl; exact rfl)
    | (apply s_lss; exact rfl; exact rfl; exact rfl)
    | (apply s_gtr; exact rfl; exact rfl; exact rfl)
    | (apply s_eql; exact rfl; exact rfl; exact rfl)
    | (apply s_neq; exact rfl; exact rfl; exact rfl)
    | (apply s_move_o; exact rfl; exact rfl)
    | (apply s_move_x; exact rfl; exact rfl)
    | (apply s_assign_x; exact rfl; exact rfl)
    | (apply s_assign_o; exact rfl; exact rfl)
    | (apply s_fld_bx TY; exact rfl; exact rfl; exact rfl)
    | (apply s_load_bx_f TY; exact rfl; exact rfl; exact rfl; exact rfl; exact rfl)
    | (apply s_load_bx_x TY; exact rfl; exact rfl; exact rfl; exact rfl; exact rfl)
    | (apply s_load_bx_o TY; exact rfl; exact rfl; exact rfl; exact rfl; exact rfl)
    | (apply s_load_bxs TY; exact rfl; exact rfl; exact rfl; exact rfl; exact rfl; exact rfl)
    | (apply s_load_row TY; exact rfl; exact rfl; exact rfl; exact rfl; (first | exact rfl | assumption))
    | (apply s_len_nil TY; exact rfl; exact rfl; exact rfl)
    | (apply s_len_ow TY; exact rfl; exact rfl; exact rfl; exact rfl)
    | (apply s_len_str TY; exact rfl; exact rfl; exact rfl)
    | (apply s_makefn; exact rfl; exact rfl)
    | (apply s_pickT; exact rfl; exact rfl; (first | exact rfl | assumption); exact rfl)
    | (apply s_pickF; exact rfl; exact rfl; (first | exact rfl | assumption); exact rfl)
    | apply w_seq
    | apply w_region
    | apply s_nil
    | apply t_norm
    | apply t_exit
    | apply t_ret
    | apply k_hit
    | (apply k_miss; exact rfl)
    | apply k_norm
    | apply k_ret
    | apply w_block
    | apply w_exit
    | apply w_ret
    | apply w_skip
    | (apply s_call (Within_s _ _ _); exact rfl; exact rfl; exact rfl; exact rfl)
    | (apply s_add; exact rfl; exact rfl; exact rfl; (omega))
    | (apply g_skip; exact rfl; (first | exact rfl | assumption); exact rfl)
    | (apply g_skipu; exact rfl; exact rfl; exact rfl)
    | (apply g_move_f; exact rfl; (first | exact rfl | assumption); exact rfl; exact rfl)
    | (apply g_assign_f; exact rfl; (first | exact rfl | assumption); exact rfl; exact rfl)
    | (apply g_fld_pt TY; exact rfl; (first | exact rfl | assumption); exact rfl; exact rfl; exact rfl)
    | (apply g_load_pt TY; exact rfl; (first | exact rfl | assumption); exact rfl; exact rfl; exact rfl; (first | exact rfl | assumption))
    | (apply g_load_pts TY; exact rfl; (first | exact rfl | assumption); exact rfl; exact rfl; exact rfl; (first | assumption | exact rfl); exact rfl)
    | (apply g_len TY; exact rfl; (first | exact rfl | assumption); exact rfl; exact rfl; exact rfl)
    | (apply g_not; exact rfl; (first | exact rfl | assumption); exact rfl; exact rfl)
    | (apply g_neq; exact rfl; (first | exact rfl | assumption); exact rfl; exact rfl; exact rfl)
    | (apply g_move_o; exact rfl; (first | exact rfl | assumption); exact rfl; exact rfl)
    | (apply g_move_x; exact rfl; (first | exact rfl | assumption); exact rfl; exact rfl)
    | (apply g_assign_x; exact rfl; (first | exact rfl | assumption); exact rfl; exact rfl)
    | (apply g_assign_o; exact rfl; (first | exact rfl | assumption); exact rfl; exact rfl)
    | (apply g_fld_bx TY; exact rfl; (first | exact rfl | assumption); exact rfl; exact rfl; exact rfl)
    | (apply g_load_bx_f TY; exact rfl; (first | exact rfl | assumption); exact rfl; exact rfl; exact rfl; exact rfl; exact rfl)
    | (apply g_load_bx_x TY; exact rfl; (first | exact rfl | assumption); exact rfl; exact rfl; exact rfl; exact rfl; exact rfl)
    | (apply g_load_bx_o TY; exact rfl; (first | exact rfl | assumption); exact rfl; exact rfl; exact rfl; exact rfl; exact rfl)
    | (apply g_load_bxs TY; exact rfl; (first | exact rfl | assumption); exact rfl; exact rfl; exact rfl; exact rfl; exact rfl; exact rfl)
    | (apply g_load_row TY; exact rfl; (first | exact rfl | assumption); exact rfl; exact rfl; exact rfl; exact rfl; (first | exact rfl | assumption))
    | (apply g_len_nil TY; exact rfl; (first | exact rfl | assumption); exact rfl; exact rfl; exact rfl)
    | (apply g_len_ow TY; exact rfl; (first | exact rfl | assumption); exact rfl; exact rfl; exact rfl; exact rfl)
    | (apply g_len_str TY; exact rfl; (first | exact rfl | assumption); exact rfl; exact rfl; exact rfl)
    | (apply g_call (Within_s _ _ _); exact rfl; (first | exact rfl | assumption); exact rfl; exact rfl; exact rfl; exact rfl)
    | (apply s_idxN TY; exact rfl; exact rfl; exact rfl; exact rfl; assumption; assumption)
    | (apply s_idxN_ow TY; exact rfl; exact rfl; exact rfl; exact rfl; exact rfl; assumption)
    | (apply s_idx TY; exact rfl; exact rfl; exact rfl; exact rfl; omega; omega; assumption)
    | (apply g_idxN TY; exact rfl; (first | exact rfl | assumption); exact rfl; exact rfl; exact rfl; exact rfl; assumption; assumption)
    | (apply w_condT; exact rfl; (first | exact rfl | assumption))
    | (apply w_condF; exact rfl; (first | exact rfl | assumption)))
        have e := scan_stop hkc hall (hole_bad1 (by rw [q1, q2, w1, w2]; rfl)) (by decide)
        exact lv_ret (ret2 rfl (res_tmp (av1 e)) (res_tmp (av2 e)))
      | true =>
        have g2 : (!withinB h.shrinks[k] 1 1000000) = false := by rw [w2]; rfl
        have hw : (withinB (h.widths.getD k 0) 0 1000000 && withinB (h.shrinks.getD k 0) 1 1000000) = true := by rw [q1, q2, w1, w2]; rfl
        by_cases hn : h.widths[k] < h.need
        · have g3 : decide (h.widths[k] < h.need) = true := decide_eq_true hn
          repeat (first
    | (apply s_move_f; exact rfl; exact rfl)
    | (apply s_assign_f; exact rfl; exact rfl)
    | (apply s_fld_pt TY; exact rfl; exact rfl; exact rfl)
    | (apply s_load_pt TY; exact rfl; exact rfl; exact rfl; (first | exact rfl | assumption))
    | (apply s_load_pts TY; exact rfl; exact rfl; exact rfl; (first | assumption | exact rfl); exact rfl)
    | (apply s_len TY; exact rfl; exact rfl; exact rfl)
    | (apply s_box; exact rfl; exact rfl; exact rfl)
    | (apply s_not; exact rfl; exact rfl)
    | (apply s_lss; exact rfl; exact rfl; exact rfl)
    | (apply s_gtr; exact rfl; exact rfl; exact rfl)
    | (apply s_eql; exact rfl; exact rfl; exact rfl)
    | (apply s_neq; exact rfl; exact rfl; exact rfl)
    | (apply s_move_o; exact rfl; exact rfl)
    | (apply s_move_x; exact rfl; exact rfl)
    | (apply s_assign_x; exact rfl; exact rfl)
    | (apply s_assign_o; exact rfl; exact rfl)
    | (apply s_fld_bx TY; exact rfl; exact rfl; exact rfl)
    | (apply s_load_bx_f TY; exact rfl; exact rfl; exact rfl; exact rfl; exact rfl)
    | (apply s_load_bx_x TY; exact rfl; exact rfl; exact rfl; exact rfl; exact rfl)
    | (apply s_load_bx_o TY; exact rfl; exact rfl; exact rfl; exact rfl; exact rfl)
    | (apply s_load_bxs TY; exact rfl; exact rfl; exact rfl; exact rfl; exact rfl; exact rfl)
    | (apply s_load_row TY; exact rfl; exact rfl; exact rfl; exact rfl; (first | exact rfl | assumption))
    | (apply s_len_nil TY; exact rfl; exact rfl; exact rfl)
    | (apply s_len_ow TY; exact rfl; exact rfl; exact rfl; exact rfl)
    | (apply s_len_str TY; exact rfl; exact rfl; exact rfl)
    | (apply s_makefn; exact rfl; exact rfl)
    | (apply s_pickT; exact rfl; exact rfl; (first | exact rfl | assumption); exact rfl)
    | (apply s_pickF; exact rfl; exact rfl; (first | exact rfl | assumption); exact rfl)
    | apply w_seq
    | apply w_region
    | apply s_nil
    | apply t_norm
    | apply t_exit
    | apply t_ret
    | apply k_hit
    | (apply k_miss; exact rfl)
    | apply k_norm
    | apply k_ret
    | apply w_block
    | apply w_exit
    | apply w_ret
    | apply w_skip
    | (apply s_call (Within_s _ _ _); exact rfl; exact rfl; exact rfl; exact rfl)
    | (apply s_add; exact rfl; exact rfl; exact rfl; (omega))
    | (apply g_skip; exact rfl; (first | exact rfl | assumption); exact rfl)
    | (apply g_skipu; exact rfl; exact rfl; exact rfl)
    | (apply g_move_f; exact rfl; (first | exact rfl | assumption); exact rfl; exact rfl)
    | (apply g_assign_f; exact rfl; (first | exact rfl | assumption); exact rfl; exact rfl)
    | (apply g_fld_pt TY; exact rfl; (first | exact rfl | assumption); exact rfl; exact rfl; exact rfl)
    | (apply g_load_pt TY; exact rfl; (first | exact rfl | assumption); exact rfl; exact rfl; exact rfl; (first | exact rfl | assumption))
    | (apply g_load_pts TY; exact rfl; (first | exact rfl | assumption); exact rfl; exact rfl; exact rfl; (first | assumption | exact rfl); exact rfl)
    | (apply g_len TY; exact rfl; (first | exact rfl | assumption); exact rfl; exact rfl; exact rfl)
    | (apply g_not; exact rfl; (first | exact rfl | assumption); exact rfl; exact rfl)
    | (apply g_neq; exact rfl; (first | exact rfl | assumption); exact rfl; exact rfl; exact rfl)
    | (apply g_move_o; exact rfl; (first | exact rfl | assumption); exact rfl; exact rfl)
    | (apply g_move_x; exact rfl; (first | exact rfl | assumption); exact rfl; exact rfl)
    | (apply g_assign_x; exact rfl; (first | exact rfl | assumption); exact rfl; exact rfl)
    | (apply g_assign_o; exact rfl; (first | exact rfl | assumption); exact rfl; exact rfl)
    | (apply g_fld_bx TY; exact rfl; (first | exact rfl | assumption); exact rfl; exact rfl; exact rfl)
    | (apply g_load_bx_f TY; exact rfl; (first | exact rfl | assumption); exact rfl; exact rfl; exact rfl; exact rfl; exact rfl)
    | (apply g_load_bx_x TY; exact rfl; (first | exact rfl | assumption); exact rfl; exact rfl; exact rfl; exact rfl; exact rfl)
    | (apply g_load_bx_o TY; exact rfl; (first | exact rfl | assumption); exact rfl; exact rfl; exact rfl; exact rfl; exact rfl)
    | (apply g_load_bxs TY; exact rfl; (first | exact rfl | assumption); exact rfl; exact rfl; exact rfl; exact rfl; exact rfl; exact rfl)
    | (apply g_load_row TY; exact rfl; (first | exact rfl | assumption); exact rfl; exact rfl; exact rfl; exact rfl; (first | exact rfl | assumption))
    | (apply g_len_nil TY; exact rfl; (first | exact rfl | assumption); exact rfl; exact rfl; exact rfl)
    | (apply g_len_ow TY; exact rfl; (first | exact rfl | assumption); exact rfl; exact rfl; exact rfl; exact rfl)
    | (apply g_len_str TY; exact rfl; (first | exact rfl | assumption); exact rfl; exact rfl; exact rfl)
    | (apply g_call (Within_s _ _ _); exact rfl; (first | exact rfl | assumption); exact rfl; exact rfl; exact rfl; exact rfl)
    | (apply s_idxN TY; exact rfl; exact rfl; exact rfl; exact rfl; assumption; assumption)
    | (apply s_idxN_ow TY; exact rfl; exact rfl; exact rfl; exact rfl; exact rfl; assumption)
    | (apply s_idx TY; exact rfl; exact rfl; exact rfl; exact rfl; omega; omega; assumption)
    | (apply g_idxN TY; exact rfl; (first | exact rfl | assumption); exact rfl; exact rfl; exact rfl; exact rfl; assumption; assumption)
    | (apply w_condT; exact rfl; (first | exact rfl | assumption))
    | (apply w_condF; exact rfl; (first | exact rfl | assumption)))
          apply w_draw 7 rfl (by kernel_rfl)
          repeat (first
    | (apply s_move_f; exact rfl; exact rfl)
    | (apply s_assign_f; exact rfl; exact rfl)
    | (apply s_fld_pt TY; exact rfl; exact rfl; exact rfl)
    | (apply s_load_pt TY; exact rfl; exact rfl; exact rfl; (first | exact rfl | assumption))
    | (apply s_load_pts TY; exact rfl; exact rfl; exact rfl; (first | assumption | exact rfl); exact rfl)
    | (apply s_len TY; exact rfl; exact rfl; exact rfl)
    | (apply s_box; exact rfl; exact rfl; exact rfl)
    | (apply s_not; exact rfl; exact rfl)
    | (apply s_lss; exact rfl; exact rfl; exact rfl)
    | (apply s_gtr; exact rfl; exact rfl; exact rfl)
    | (apply s_eql; exact rfl; exact rfl; exact rfl)
    | (apply s_neq; exact rfl; exact rfl; exact rfl)
    | (apply s_move_o; exact rfl; exact rfl)
    | (apply s_move_x; exact rfl; exact rfl)
    | (apply s_assign_x; exact rfl; exact rfl)
    | (apply s_assign_o; exact rfl; exact rfl)
    | (apply s_fld_bx TY; exact rfl; exact rfl; exact rfl)
    | (apply s_load_bx_f TY; exact rfl; exact rfl; exact rfl; exact rfl; exact rfl)
    | (apply s_load_bx_x TY; exact rfl; exact rfl; exact rfl; exact rfl; exact rfl)
    | (apply s_load_bx_o TY; exact rfl; exact rfl; exact rfl; exact rfl; exact rfl)
    | (apply s_load_bxs TY; exact rfl; exact rfl; exact rfl; exact rfl; exact rfl; exact rfl)
    | (apply s_load_row TY; exact rfl; exact rfl; exact rfl; exact rfl; (first | exact rfl | assumption))
    | (apply s_len_nil TY; exact rfl; exact rfl; exact rfl)
    | (apply s_len_ow TY; exact rfl; exact rfl; exact rfl; exact rfl)
    | (apply s_len_str TY; exact rfl; exact rfl; exact rfl)
    | (apply s_makefn; exact rfl; exact rfl)
    | (apply s_pickT; exact rfl; exact rfl; (first | exact rfl | assumption); exact rfl)
    | (apply s_pickF; exact rfl; exact rfl; (first | exact rfl | assumption); exact rfl)
    | apply w_seq
    | apply w_region
    | apply s_nil
    | apply t_norm
    | apply t_exit
    | apply t_ret
    | apply k_hit
    | (apply k_miss; exact rfl)
    | apply k_norm
    | apply k_ret
    | apply w_block
    | apply w_exit
    | apply w_ret
    | apply w_skip
    | (apply s_call (Within_s _ _ _); exact rfl; exact rfl; exact rfl; exact rfl)
    | (apply s_add; exact rfl; exact rfl; exact rfl; (omega))
    | (apply g_skip; exact rfl; (first | exact rfl | assumption); exact rfl)
    | (apply g_skipu; exact rfl; exact rfl; exact rfl)
    | (apply g_move_f; exact rfl; (first | exact rfl | assumption); exact rfl; exact rfl)
    | (apply g_assign_f; exact rfl; (first | exact rfl | assumption); exact rfl; exact rfl)
    | (apply g_fld_pt TY; exact rfl; (first | exact rfl | assumption); exact rfl; exact rfl; exact rfl)
    | (apply g_load_pt TY; exact rfl; (first | exact rfl | assumption); exact rfl; exact rfl; exact rfl; (first | exact rfl | assumption))
    | (apply g_load_pts TY; exact rfl; (first | exact rfl | assumption); exact rfl; exact rfl; exact rfl; (first | assumption | exact rfl); exact rfl)
    | (apply g_len TY; exact rfl; (first | exact rfl | assumption); exact rfl; exact rfl; exact rfl)
    | (apply g_not; exact rfl; (first | exact rfl | assumption); exact rfl; exact rfl)
    | (apply g_neq; exact rfl; (first | exact rfl | assumption); exact rfl; exact rfl; exact rfl)
    | (apply g_move_o; exact rfl; (first | exact rfl | assumption); exact rfl; exact rfl)
    | (apply g_move_x; exact rfl; (first | exact rfl | assumption); exact rfl; exact rfl)
    | (apply g_assign_x; exact rfl; (first | exact rfl | assumption); exact rfl; exact rfl)
    | (apply g_assign_o; exact rfl; (first | exact rfl | assumption); exact rfl; exact rfl)
    | (apply g_fld_bx TY; exact rfl; (first | exact rfl | assumption); exact rfl; exact rfl; exact rfl)
    | (apply g_load_bx_f TY; exact rfl; (first | exact rfl | assumption); exact rfl; exact rfl; exact rfl; exact rfl; exact rfl)
    | (apply g_load_bx_x TY; exact rfl; (first | exact rfl | assumption); exact rfl; exact rfl; exact rfl; exact rfl; exact rfl)
    | (apply g_load_bx_o TY; exact rfl; (first | exact rfl | assumption); exact rfl; exact rfl; exact rfl; exact rfl; exact rfl)
    | (apply g_load_bxs TY; exact rfl; (first | exact rfl | assumption); exact rfl; exact rfl; exact rfl; exact rfl; exact rfl; exact rfl)
    | (apply g_load_row TY; exact rfl; (first | exact rfl | assumption); exact rfl; exact rfl; exact rfl; exact rfl; (first | exact rfl | assumption))
    | (apply g_len_nil TY; exact rfl; (first | exact rfl | assumption); exact rfl; exact rfl; exact rfl)
    | (apply g_len_ow TY; exact rfl; (first | exact rfl | assumption); exact rfl; exact rfl; exact rfl; exact rfl)
    | (apply g_len_str TY; exact rfl; (first | exact rfl | assumption); exact rfl; exact rfl; exact rfl)
    | (apply g_call (Within_s _ _ _); exact rfl; (first | exact rfl | assumption); exact rfl; exact rfl; exact rfl; exact rfl)
    | (apply s_idxN TY; exact rfl; exact rfl; exact rfl; exact rfl; assumption; assumption)
    | (apply s_idxN_ow TY; exact rfl; exact rfl; exact rfl; exact rfl; exact rfl; assumption)
    | (apply s_idx TY; exact rfl; exact rfl; exact rfl; exact rfl; omega; omega; assumption)
    | (apply g_idxN TY; exact rfl; (first | exact rfl | assumption); exact rfl; exact rfl; exact rfl; exact rfl; assumption; assumption)
    | (apply w_condT; exact rfl; (first | exact rfl | assumption))
    | (apply w_condF; exact rfl; (first | exact rfl | assumption)))
          have e := scan_stop hkc hall (hole_bad2 hw (by rw [q1]; exact hn)) (by decide)
          exact lv_ret (ret2 rfl (res_tmp (av1 e)) (res_tmp (av2 e)))
        · have g3 : decide (h.widths[k] < h.need) = false := decide_eq_false hn
          repeat (first
    | (apply s_move_f; exact rfl; exact rfl)
    | (apply s_assign_f; exact rfl; exact rfl)
    | (apply s_fld_pt TY; exact rfl; exact rfl; exact rfl)
    | (apply s_load_pt TY; exact rfl; exact rfl; exact rfl; (first | exact rfl | assumption))
    | (apply s_load_pts TY; exact rfl; exact rfl; exact rfl; (first | assumption | exact rfl); exact rfl)
    | (apply s_len TY; exact rfl; exact rfl; exact rfl)
    | (apply s_box; exact rfl; exact rfl; exact rfl)
    | (apply s_not; exact rfl; exact rfl)
    | (apply s_lss; exact rfl; exact rfl; exact rfl)
    | (apply s_gtr; exact rfl; exact rfl; exact rfl)
    | (apply s_eql; exact rfl; exact rfl; exact rfl)
    | (apply s_neq; exact rfl; exact rfl; exact rfl)
    | (apply s_move_o; exact rfl; exact rfl)
    | (apply s_move_x; exact rfl; exact rfl)
    | (apply s_assign_x; exact rfl; exact rfl)
    | (apply s_assign_o; exact rfl; exact rfl)
    | (apply s_fld_bx TY; exact rfl; exact rfl; exact rfl)
    | (apply s_load_bx_f TY; exact rfl; exact rfl; exact rfl; exact rfl; exact rfl)
    | (apply s_load_bx_x TY; exact rfl; exact rfl; exact rfl; exact rfl; exact rfl)
    | (apply s_load_bx_o TY; exact rfl; exact rfl; exact rfl; exact rfl; exact rfl)
    | (apply s_load_bxs TY; exact rfl; exact rfl; exact rfl; exact rfl; exact rfl; exact rfl)
    | (apply s_load_row TY; exact rfl; exact rfl; exact rfl; exact rfl; (first | exact rfl | assumption))
    | (apply s_len_nil TY; exact rfl; exact rfl; exact rfl)
    | (apply s_len_ow TY; exact rfl; exact rfl; exact rfl; exact rfl)
    | (apply s_len_str TY; exact rfl; exact rfl; exact rfl)
    | (apply s_makefn; exact rfl; exact rfl)
    | (apply s_pickT; exact rfl; exact rfl; (first | exact rfl | assumption); exact rfl)
    | (apply s_pickF; exact rfl; exact rfl; (first | exact rfl | assumption); exact rfl)
    | apply w_seq
    | apply w_region
    | apply s_nil
    | apply t_norm
    | apply t_exit
    | apply t_ret
    | apply k_hit
    | (apply k_miss; exact rfl)
    | apply k_norm
    | apply k_ret
    | apply w_block
    | apply w_exit
    | apply w_ret
    | apply w_skip
    | (apply s_call (Within_s _ _ _); exact rfl; exact rfl; exact rfl; exact rfl)
    | (apply s_add; exact rfl; exact rfl; exact rfl; (omega))
    | (apply g_skip; exact rfl; (first | exact rfl | assumption); exact rfl)
    | (apply g_skipu; exact rfl; exact rfl; exact rfl)
    | (apply g_move_f; exact rfl; (first | exact rfl | assumption); exact rfl; exact rfl)
    | (apply g_assign_f; exact rfl; (first | exact rfl | assumption); exact rfl; exact rfl)
    | (apply g_fld_pt TY; exact rfl; (first | exact rfl | assumption); exact rfl; exact rfl; exact rfl)
    | (apply g_load_pt TY; exact rfl; (first | exact rfl | assumption); exact rfl; exact rfl; exact rfl; (first | exact rfl | assumption))
    | (apply g_load_pts TY; exact rfl; (first | exact rfl | assumption); exact rfl; exact rfl; exact rfl; (first | assumption | exact rfl); exact rfl)
    | (apply g_len TY; exact rfl; (first | exact rfl | assumption); exact rfl; exact rfl; exact rfl)
    | (apply g_not; exact rfl; (first | exact rfl | assumption); exact rfl; exact rfl)
    | (apply g_neq; exact rfl; (first | exact rfl | assumption); exact rfl; exact rfl; exact rfl)
    | (apply g_move_o; exact rfl; (first | exact rfl | assumption); exact rfl; exact rfl)
    | (apply g_move_x; exact rfl; (first | exact rfl | assumption); exact rfl; exact rfl)
    | (apply g_assign_x; exact rfl; (first | exact rfl | assumption); exact rfl; exact rfl)
    | (apply g_assign_o; exact rfl; (first | exact rfl | assumption); exact rfl; exact rfl)
    | (apply g_fld_bx TY; exact rfl; (first | exact rfl | assumption); exact rfl; exact rfl; exact rfl)
    | (apply g_load_bx_f TY; exact rfl; (first | exact rfl | assumption); exact rfl; exact rfl; exact rfl; exact rfl; exact rfl)
    | (apply g_load_bx_x TY; exact rfl; (first | exact rfl | assumption); exact rfl; exact rfl; exact rfl; exact rfl; exact rfl)
    | (apply g_load_bx_o TY; exact rfl; (first | exact rfl | assumption); exact rfl; exact rfl; exact rfl; exact rfl; exact rfl)
    | (apply g_load_bxs TY; exact rfl; (first | exact rfl | assumption); exact rfl; exact rfl; exact rfl; exact rfl; exact rfl; exact rfl)
    | (apply g_load_row TY; exact rfl; (first | exact rfl | assumption); exact rfl; exact rfl; exact rfl; exact rfl; (first | exact rfl | assumption))
    | (apply g_len_nil TY; exact rfl; (first | exact rfl | assumption); exact rfl; exact rfl; exact rfl)
    | (apply g_len_ow TY; exact rfl; (first | exact rfl | assumption); exact rfl; exact rfl; exact rfl; exact rfl)
    | (apply g_len_str TY; exact rfl; (first | exact rfl | assumption); exact rfl; exact rfl; exact rfl)
    | (apply g_call (Within_s _ _ _); exact rfl; (first | exact rfl | assumption); exact rfl; exact rfl; exact rfl; exact rfl)
    | (apply s_idxN TY; exact rfl; exact rfl; exact rfl; exact rfl; assumption; assumption)
    | (apply s_idxN_ow TY; exact rfl; exact rfl; exact rfl; exact rfl; exact rfl; assumption)
    | (apply s_idx TY; exact rfl; exact rfl; exact rfl; exact rfl; omega; omega; assumption)
    | (apply g_idxN TY; exact rfl; (first | exact rfl | assumption); exact rfl; exact rfl; exact rfl; exact rfl; assumption; assumption)
    | (apply w_condT; exact rfl; (first | exact rfl | assumption))
    | (apply w_condF; exact rfl; (first | exact rfl | assumption)))
          apply w_draw 7 rfl (by kernel_rfl)
          repeat (first
    | (apply s_move_f; exact rfl; exact rfl)
    | (apply s_assign_f; exact rfl; exact rfl)
    | (apply s_fld_pt TY; exact rfl; exact rfl; exact rfl)
    | (apply s_load_pt TY; exact rfl; exact rfl; exact rfl; (first | exact rfl | assumption))
    | (apply s_load_pts TY; exact rfl; exact rfl; exact rfl; (first | assumption | exact rfl); exact rfl)
    | (apply s_len TY; exact rfl; exact rfl; exact rfl)
    | (apply s_box; exact rfl; exact rfl; exact rfl)
    | (apply s_not; exact rfl; exact rfl)
    | (apply s_lss; exact rfl; exact rfl; exact rfl)
    | (apply s_gtr; exact rfl; exact rfl; exact rfl)
    | (apply s_eql; exact rfl; exact rfl; exact rfl)
    | (apply s_neq; exact rfl; exact rfl; exact rfl)
    | (apply s_move_o; exact rfl; exact rfl)
    | (apply s_move_x; exact rfl; exact rfl)
    | (apply s_assign_x; exact rfl; exact rfl)
    | (apply s_assign_o; exact rfl; exact rfl)
    | (apply s_fld_bx TY; exact rfl; exact rfl; exact rfl)
    | (apply s_load_bx_f TY; exact rfl; exact rfl; exact rfl; exact rfl; exact rfl)
    | (apply s_load_bx_x TY; exact rfl; exact rfl; exact rfl; exact rfl; exact rfl)
    | (apply s_load_bx_o TY; exact rfl; exact rfl; exact rfl; exact rfl; exact rfl)
    | (apply s_load_bxs TY; exact rfl; exact rfl; exact rfl; exact rfl; exact rfl; exact rfl)
    | (apply s_load_row TY; exact rfl; exact rfl; exact rfl; exact rfl; (first | exact rfl | assumption))
    | (apply s_len_nil TY; exact rfl; exact rfl; exact rfl)
    | (apply s_len_ow TY; exact rfl; exact rfl; exact rfl; exact rfl)
    | (apply s_len_str TY; exact rfl; exact rfl; exact rfl)
    | (apply s_makefn; exact rfl; exact rfl)
    | (apply s_pickT; exact rfl; exact rfl; (first | exact rfl | assumption); exact rfl)
    | (apply s_pickF; exact rfl; exact rfl; (first | exact rfl | assumption); exact rfl)
    | apply w_seq
    | apply w_region
    | apply s_nil
    | apply t_norm
    | apply t_exit
    | apply t_ret
    | apply k_hit
    | (apply k_miss; exact rfl)
    | apply k_norm
    | apply k_ret
    | apply w_block
    | apply w_exit
    | apply w_ret
    | apply w_skip
    | (apply s_call (Within_s _ _ _); exact rfl; exact rfl; exact rfl; exact rfl)
    | (apply s_add; exact rfl; exact rfl; exact rfl; (omega))
    | (apply g_skip; exact rfl; (first | exact rfl | assumption); exact rfl)
    | (apply g_skipu; exact rfl; exact rfl; exact rfl)
    | (apply g_move_f; exact rfl; (first | exact rfl | assumption); exact rfl; exact rfl)
    | (apply g_assign_f; exact rfl; (first | exact rfl | assumption); exact rfl; exact rfl)
    | (apply g_fld_pt TY; exact rfl; (first | exact rfl | assumption); exact rfl; exact rfl; exact rfl)
    | (apply g_load_pt TY; exact rfl; (first | exact rfl | assumption); exact rfl; exact rfl; exact rfl; (first | exact rfl | assumption))
    | (apply g_load_pts TY; exact rfl; (first | exact rfl | assumption); exact rfl; exact rfl; exact rfl; (first | assumption | exact rfl); exact rfl)
    | (apply g_len TY; exact rfl; (first | exact rfl | assumption); exact rfl; exact rfl; exact rfl)
    | (apply g_not; exact rfl; (first | exact rfl | assumption); exact rfl; exact rfl)
    | (apply g_neq; exact rfl; (first | exact rfl | assumption); exact rfl; exact rfl; exact rfl)
    | (apply g_move_o; exact rfl; (first | exact rfl | assumption); exact rfl; exact rfl)
    | (apply g_move_x; exact rfl; (first | exact rfl | assumption); exact rfl; exact rfl)
    | (apply g_assign_x; exact rfl; (first | exact rfl | assumption); exact rfl; exact rfl)
    | (apply g_assign_o; exact rfl; (first | exact rfl | assumption); exact rfl; exact rfl)
    | (apply g_fld_bx TY; exact rfl; (first | exact rfl | assumption); exact rfl; exact rfl; exact rfl)
    | (apply g_load_bx_f TY; exact rfl; (first | exact rfl | assumption); exact rfl; exact rfl; exact rfl; exact rfl; exact rfl)
    | (apply g_load_bx_x TY; exact rfl; (first | exact rfl | assumption); exact rfl; exact rfl; exact rfl; exact rfl; exact rfl)
    | (apply g_load_bx_o TY; exact rfl; (first | exact rfl | assumption); exact rfl; exact rfl; exact rfl; exact rfl; exact rfl)
    | (apply g_load_bxs TY; exact rfl; (first | exact rfl | assumption); exact rfl; exact rfl; exact rfl; exact rfl; exact rfl; exact rfl)
    | (apply g_load_row TY; exact rfl; (first | exact rfl | assumption); exact rfl; exact rfl; exact rfl; exact rfl; (first | exact rfl | assumption))
    | (apply g_len_nil TY; exact rfl; (first | exact rfl | assumption); exact rfl; exact rfl; exact rfl)
    | (apply g_len_ow TY; exact rfl; (first | exact rfl | assumption); exact rfl; exact rfl; exact rfl; exact rfl)
    | (apply g_len_str TY; exact rfl; (first | exact rfl | assumption); exact rfl; exact rfl; exact rfl)
    | (apply g_call (Within_s _ _ _); exact rfl; (first | exact rfl | assumption); exact rfl; exact rfl; exact rfl; exact rfl)
    | (apply s_idxN TY; exact rfl; exact rfl; exact rfl; exact rfl; assumption; assumption)
    | (apply s_idxN_ow TY; exact rfl; exact rfl; exact rfl; exact rfl; exact rfl; assumption)
    | (apply s_idx TY; exact rfl; exact rfl; exact rfl; exact rfl; omega; omega; assumption)
    | (apply g_idxN TY; exact rfl; (first | exact rfl | assumption); exact rfl; exact rfl; exact rfl; exact rfl; assumption; assumption)
    | (apply w_condT; exact rfl; (first | exact rfl | assumption))
    | (apply w_condF; exact rfl; (first | exact rfl | assumption)))
          exact ⟨k + 1, ⟨by omega, scan_next hkc hall (hole_good hw (by rw [q1]; exact hn))⟩, by omega, gh_le ⟨le_upd rfl trivial (le_upd rfl trivial (le_upd rfl trivial (le_upd rfl trivial (le_nil _)))), le_h0 _ _⟩⟩
  have hcc : decide ((k : Int) < (h.widths.length : Int)) = false := decide_eq_false (by omega)
  repeat (first
    | (apply s_move_f; exact rfl; exact rfl)
    | (apply s_assign_f; exact rfl; exact rfl)
    | (apply s_fld_pt TY; exact rfl; exact rfl; exact rfl)
    | (apply s_load_pt TY; exact rfl; exact rfl; exact rfl; (first | exact rfl | assumption))
    | (apply s_load_pts TY; exact rfl; exact rfl; exact rfl; (first | assumption | exact rfl); exact rfl)
    | (apply s_len TY; exact rfl; exact rfl; exact rfl)
    | (apply s_box; exact rfl; exact rfl; exact rfl)
    | (apply s_not; exact rfl; exact rfl)
    | (apply s_lss; exact rfl; exact rfl; exact rfl)
    | (apply s_gtr; exact rfl; exact rfl; exact rfl)
    | (apply s_eql; exact rfl; exact rfl; exact rfl)
    | (apply s_neq; exact rfl; exact rfl; exact rfl)
    | (apply s_move_o; exact rfl; exact rfl)
    | (apply s_move_x; exact rfl; exact rfl)
    | (apply s_assign_x; exact rfl; exact rfl)
    | (apply s_assign_o; exact rfl; exact rfl)
    | (apply s_fld_bx TY; exact rfl; exact rfl; exact rfl)
    | (apply s_load_bx_f TY; exact rfl; exact rfl; exact rfl; exact rfl; exact rfl)
    | (apply s_load_bx_x TY; exact rfl; exact rfl; exact rfl; exact rfl; exact rfl)
    | (apply s_load_bx_o TY; exact rfl; exact rfl; exact rfl; exact rfl; exact rfl)
    | (apply s_load_bxs TY; exact rfl; exact rfl; exact rfl; exact rfl; exact rfl; exact rfl)
    | (apply s_load_row TY; exact rfl; exact rfl; exact rfl; exact rfl; (first | exact rfl | assumption))
    | (apply s_len_nil TY; exact rfl; exact rfl; exact rfl)
    | (apply s_len_ow TY; exact rfl; exact rfl; exact rfl; exact rfl)
    | (apply s_len_str TY; exact rfl; exact rfl; exact rfl)
    | (apply s_makefn; exact rfl; exact rfl)
    | (apply s_pickT; exact rfl; exact rfl; (first | exact rfl | assumption); exact rfl)
    | (apply s_pickF; exact rfl; exact rfl; (first | exact rfl | assumption); exact rfl)
    | apply w_seq
    | apply w_region
    | apply s_nil
    | apply t_norm
    | apply t_exit
    | apply t_ret
    | apply k_hit
    | (apply k_miss; exact rfl)
    | apply k_norm
    | apply k_ret
    | apply w_block
    | apply w_exit
    | apply w_ret
    | apply w_skip
    | (apply s_add; exact rfl; exact rfl; exact rfl; (omega))
    | (apply g_skip; exact rfl; (first | exact rfl | assumption); exact rfl)
    | (apply g_skipu; exact rfl; exact rfl; exact rfl)
    | (apply g_move_f; exact rfl; (first | exact rfl | assumption); exact rfl; exact rfl)
    | (apply g_assign_f; exact rfl; (first | exact rfl | assumption); exact rfl; exact rfl)
    | (apply g_fld_pt TY; exact rfl; (first | exact rfl | assumption); exact rfl; exact rfl; exact rfl)
    | (apply g_load_pt TY; exact rfl; (first | exact rfl | assumption); exact rfl; exact rfl; exact rfl; (first | exact rfl | assumption))
    | (apply g_load_pts TY; exact rfl; (first | exact rfl | assumption); exact rfl; exact rfl; exact rfl; (first | assumption | exact rfl); exact rfl)
    | (apply g_len TY; exact rfl; (first | exact rfl | assumption); exact rfl; exact rfl; exact rfl)
    | (apply g_not; exact rfl; (first | exact rfl | assumption); exact rfl; exact rfl)
    | (apply g_neq; exact rfl; (first | exact rfl | assumption); exact rfl; exact rfl; exact rfl)
    | (apply g_move_o; exact rfl; (first | exact rfl | assumption); exact rfl; exact rfl)
    | (apply g_move_x; exact rfl; (first | exact rfl | assumption); exact rfl; exact rfl)
    | (apply g_assign_x; exact rfl; (first | exact rfl | assumption); exact rfl; exact rfl)
    | (apply g_assign_o; exact rfl; (first | exact rfl | assumption); exact rfl; exact rfl)
    | (apply g_fld_bx TY; exact rfl; (first | exact rfl | assumption); exact rfl; exact rfl; exact rfl)
    | (apply g_load_bx_f TY; exact rfl; (first | exact rfl | assumption); exact rfl; exact rfl; exact rfl; exact rfl; exact rfl)
    | (apply g_load_bx_x TY; exact rfl; (first | exact rfl | assumption); exact rfl; exact rfl; exact rfl; exact rfl; exact rfl)
    | (apply g_load_bx_o TY; exact rfl; (first | exact rfl | assumption); exact rfl; exact rfl; exact rfl; exact rfl; exact rfl)
    | (apply g_load_bxs TY; exact rfl; (first | exact rfl | assumption); exact rfl; exact rfl; exact rfl; exact rfl; exact rfl; exact rfl)
    | (apply g_load_row TY; exact rfl; (first | exact rfl | assumption); exact rfl; exact rfl; exact rfl; exact rfl; (first | exact rfl | assumption))
    | (apply g_len_nil TY; exact rfl; (first | exact rfl | assumption); exact rfl; exact rfl; exact rfl)
    | (apply g_len_ow TY; exact rfl; (first | exact rfl | assumption); exact rfl; exact rfl; exact rfl; exact rfl)
    | (apply g_len_str TY; exact rfl; (first | exact rfl | assumption); exact rfl; exact rfl; exact rfl)
    | (apply s_idxN TY; exact rfl; exact rfl; exact rfl; exact rfl; assumption; assumption)
    | (apply s_idxN_ow TY; exact rfl; exact rfl; exact rfl; exact rfl; exact rfl; assumption)
    | (apply s_idx TY; exact rfl; exact rfl; exact rfl; exact rfl; omega; omega; assumption)
    | (apply g_idxN TY; exact rfl; (first | exact rfl | assumption); exact rfl; exact rfl; exact rfl; exact rfl; assumption; assumption)
    | (apply w_condT; exact rfl; (first | exact rfl | assumption))
    | (apply w_condF; exact rfl; (first | exact rfl | assumption)))
  have e : checkHole h = (0, 0) := by rw [hall, show h.widths.length - k = 0 by omega]; rfl
  exact lv_ret (ret2 rfl (res_tmp (av1 e)) (res_tmp (av2 e)))
theorem HoleErr_s (h : Hole) : Summ Tryd.prog GG 56 [holeF h] (iv (holeErrE h)) := by
  refine summW Tryd.func56 rfl rfl 11 rfl (by simp) (fun M0 => ?_)
  repeat (first
    | (apply s_move_f; exact rfl; exact rfl)
    | (apply s_assign_f; exact rfl; exact rfl)
    | (apply s_load_pt TY; exact rfl; exact rfl; exact rfl; (first | exact rfl | assumption))
    | (apply s_load_pts TY; exact rfl; exact rfl; exact rfl; (first | assumption | exact rfl); exact rfl)
    | (apply s_extract; exact rfl; exact rfl; exact rfl)
    | (apply s_box; exact rfl; exact rfl; exact rfl)
    | (apply s_move_o; exact rfl; exact rfl)
    | (apply s_move_x; exact rfl; exact rfl)
    | (apply s_assign_x; exact rfl; exact rfl)
    | (apply s_assign_o; exact rfl; exact rfl)
    | (apply s_load_bx_f TY; exact rfl; exact rfl; exact rfl; exact rfl; exact rfl)
    | (apply s_load_bx_x TY; exact rfl; exact rfl; exact rfl; exact rfl; exact rfl)
    | (apply s_load_bx_o TY; exact rfl; exact rfl; exact rfl; exact rfl; exact rfl)
    | (apply s_load_bxs TY; exact rfl; exact rfl; exact rfl; exact rfl; exact rfl; exact rfl)
    | (apply s_load_row TY; exact rfl; exact rfl; exact rfl; exact rfl; (first | exact rfl | assumption))
    | (apply s_makefn; exact rfl; exact rfl)
    | apply w_seq
    | apply w_region
    | apply s_nil
    | apply t_norm
    | apply t_exit
    | apply t_ret
    | apply k_hit
    | (apply k_miss; exact rfl)
    | apply k_norm
    | apply k_ret
    | apply w_block
    | apply w_exit
    | apply w_ret
    | apply w_skip
    | (apply s_call (refCheckHole_s h); exact rfl; exact rfl; exact rfl; exact rfl)
    | (apply w_condT; exact rfl; (first | exact rfl | assumption))
    | (apply w_condF; exact rfl; (first | exact rfl | assumption)))
  exact lv_ret (ret1 rfl (res_tmp rfl))
def downB (h : Hole) (s p : Int) : Bool := withinB s 0 1000001 && withinB p 0 1000000 && (List.range h.widths.length).all fun k => decide (s + (k : Int) * p ≤ tickAt h k)
theorem downB_true {h : Hole} {s p : Int} : downB h s p = true ↔ (0 ≤ s ∧ s ≤ 1000001) ∧ (0 ≤ p ∧ p ≤ 1000000) ∧ ∀ k : Nat, k < h.widths.length → s + (k : Int) * p ≤ tickAt h k := by
  unfold downB withinB
  simp only [Bool.and_eq_true, decide_eq_true_eq, List.all_eq_true, List.mem_range]
  constructor
  · rintro ⟨⟨a, b⟩, c⟩; exact ⟨a, b, c⟩
  · rintro ⟨a, b, c⟩; exact ⟨⟨a, b⟩, c⟩
theorem closesR_ok {h : Hole} (v : HoleV h) {k : Nat} (hk : k < h.widths.length) : closesR h k = (tickAt h k, 0) := by
  have e : closesE h k = 0 := closesE_zero.2 ⟨v, by omega, by omega⟩
  unfold closesR; rw [e, if_neg (by decide)]; rfl
set_option maxRecDepth 100000 in
set_option maxHeartbeats 1000000 in
theorem down_s (h : Hole) (s p : Int) (v : HoleV h) : Summ Tryd.prog GG 57 [holeF h, iv s, iv p] (bv (downB h s p)) := by
  have n20 := v.n20
  have hsl := v.len
  refine summW Tryd.func57 rfl rfl 43 rfl (by simp) (fun M0 => ?_)
  cases w1 : withinB s 0 1000001 with
  | false =>
    have g1 : (!withinB s 0 1000001) = true := by rw [w1]; rfl
    repeat (first
    | (apply s_move_f; exact rfl; exact rfl)
    | (apply s_assign_f; exact rfl; exact rfl)
    | (apply s_fld_pt TY; exact rfl; exact rfl; exact rfl)
    | (apply s_load_pt TY; exact rfl; exact rfl; exact rfl; (first | exact rfl | assumption))
    | (apply s_load_pts TY; exact rfl; exact rfl; exact rfl; (first | assumption | exact rfl); exact rfl)
    | (apply s_len TY; exact rfl; exact rfl; exact rfl)
    | (apply s_extract; exact rfl; exact rfl; exact rfl)
    | (apply s_box; exact rfl; exact rfl; exact rfl)
    | (apply s_not; exact rfl; exact rfl)
    | (apply s_lss; exact rfl; exact rfl; exact rfl)
    | (apply s_gtr; exact rfl; exact rfl; exact rfl)
    | (apply s_neq; exact rfl; exact rfl; exact rfl)
    | (apply s_move_o; exact rfl; exact rfl)
    | (apply s_move_x; exact rfl; exact rfl)
    | (apply s_assign_x; exact rfl; exact rfl)
    | (apply s_assign_o; exact rfl; exact rfl)
    | (apply s_fld_bx TY; exact rfl; exact rfl; exact rfl)
    | (apply s_load_bx_f TY; exact rfl; exact rfl; exact rfl; exact rfl; exact rfl)
    | (apply s_load_bx_x TY; exact rfl; exact rfl; exact rfl; exact rfl; exact rfl)
    | (apply s_load_bx_o TY; exact rfl; exact rfl; exact rfl; exact rfl; exact rfl)
    | (apply s_load_bxs TY; exact rfl; exact rfl; exact rfl; exact rfl; exact rfl; exact rfl)
    | (apply s_load_row TY; exact rfl; exact rfl; exact rfl; exact rfl; (first | exact rfl | assumption))
    | (apply s_len_nil TY; exact rfl; exact rfl; exact rfl)
    | (apply s_len_ow TY; exact rfl; exact rfl; exact rfl; exact rfl)
    | (apply s_len_str TY; exact rfl; exact rfl; exact rfl)
    | (apply s_makefn; exact rfl; exact rfl)
    | (apply s_pickT; exact rfl; exact rfl; (first | exact rfl | assumption); exact rfl)
    | (apply s_pickF; exact rfl; exact rfl; (first | exact rfl | assumption); exact rfl)
    | apply w_seq
    | apply w_region
    | apply s_nil
    | apply t_norm
    | apply t_exit
    | apply t_ret
    | apply k_hit
    | (apply k_miss; exact rfl)
    | apply k_norm
    | apply k_ret
    | apply w_block
    | apply w_exit
    | apply w_ret
    | apply w_skip
    | (apply s_call (Within_s _ _ _); exact rfl; exact rfl; exact rfl; exact rfl)
    | (apply s_add; exact rfl; exact rfl; exact rfl; (omega))
    | (apply s_mul; exact rfl; exact rfl; exact rfl; (omega))
    | (apply g_skip; exact rfl; (first | exact rfl | assumption); exact rfl)
    | (apply g_skipu; exact rfl; exact rfl; exact rfl)
    | (apply g_move_f; exact rfl; (first | exact rfl | assumption); exact rfl; exact rfl)
    | (apply g_assign_f; exact rfl; (first | exact rfl | assumption); exact rfl; exact rfl)
    | (apply g_not; exact rfl; (first | exact rfl | assumption); exact rfl; exact rfl)
    | (apply g_gtr; exact rfl; (first | exact rfl | assumption); exact rfl; exact rfl; exact rfl)
    | (apply g_move_o; exact rfl; (first | exact rfl | assumption); exact rfl; exact rfl)
    | (apply g_move_x; exact rfl; (first | exact rfl | assumption); exact rfl; exact rfl)
    | (apply g_assign_x; exact rfl; (first | exact rfl | assumption); exact rfl; exact rfl)
    | (apply g_assign_o; exact rfl; (first | exact rfl | assumption); exact rfl; exact rfl)
    | (apply g_call (Within_s _ _ _); exact rfl; (first | exact rfl | assumption); exact rfl; exact rfl; exact rfl; exact rfl)
    | (apply g_add; exact rfl; (first | exact rfl | assumption); exact rfl; exact rfl; exact rfl; (omega))
    | (apply g_mul; exact rfl; (first | exact rfl | assumption); exact rfl; exact rfl; exact rfl; (omega))
    | (apply w_condT; exact rfl; (first | exact rfl | assumption))
    | (apply w_condF; exact rfl; (first | exact rfl | assumption)))
    exact lv_ret (ret1 rfl (res_tmp (avb (by unfold downB; rw [w1]; rfl))))
  | true =>
  have g1 : (!withinB s 0 1000001) = false := by rw [w1]; rfl
  cases w2 : withinB p 0 1000000 with
  | false =>
    have g2 : (!withinB p 0 1000000) = true := by rw [w2]; rfl
    repeat (first
    | (apply s_move_f; exact rfl; exact rfl)
    | (apply s_assign_f; exact rfl; exact rfl)
    | (apply s_fld_pt TY; exact rfl; exact rfl; exact rfl)
    | (apply s_load_pt TY; exact rfl; exact rfl; exact rfl; (first | exact rfl | assumption))
    | (apply s_load_pts TY; exact rfl; exact rfl; exact rfl; (first | assumption | exact rfl); exact rfl)
    | (apply s_len TY; exact rfl; exact rfl; exact rfl)
    | (apply s_extract; exact rfl; exact rfl; exact rfl)
    | (apply s_box; exact rfl; exact rfl; exact rfl)
    | (apply s_not; exact rfl; exact rfl)
    | (apply s_lss; exact rfl; exact rfl; exact rfl)
    | (apply s_gtr; exact rfl; exact rfl; exact rfl)
    | (apply s_neq; exact rfl; exact rfl; exact rfl)
    | (apply s_move_o; exact rfl; exact rfl)
    | (apply s_move_x; exact rfl; exact rfl)
    | (apply s_assign_x; exact rfl; exact rfl)
    | (apply s_assign_o; exact rfl; exact rfl)
    | (apply s_fld_bx TY; exact rfl; exact rfl; exact rfl)
    | (apply s_load_bx_f TY; exact rfl; exact rfl; exact rfl; exact rfl; exact rfl)
    | (apply s_load_bx_x TY; exact rfl; exact rfl; exact rfl; exact rfl; exact rfl)
    | (apply s_load_bx_o TY; exact rfl; exact rfl; exact rfl; exact rfl; exact rfl)
    | (apply s_load_bxs TY; exact rfl; exact rfl; exact rfl; exact rfl; exact rfl; exact rfl)
    | (apply s_load_row TY; exact rfl; exact rfl; exact rfl; exact rfl; (first | exact rfl | assumption))
    | (apply s_len_nil TY; exact rfl; exact rfl; exact rfl)
    | (apply s_len_ow TY; exact rfl; exact rfl; exact rfl; exact rfl)
    | (apply s_len_str TY; exact rfl; exact rfl; exact rfl)
    | (apply s_makefn; exact rfl; exact rfl)
    | (apply s_pickT; exact rfl; exact rfl; (first | exact rfl | assumption); exact rfl)
    | (apply s_pickF; exact rfl; exact rfl; (first | exact rfl | assumption); exact rfl)
    | apply w_seq
    | apply w_region
    | apply s_nil
    | apply t_norm
    | apply t_exit
    | apply t_ret
    | apply k_hit
    | (apply k_miss; exact rfl)
    | apply k_norm
    | apply k_ret
    | apply w_block
    | apply w_exit
    | apply w_ret
    | apply w_skip
    | (apply s_call (Within_s _ _ _); exact rfl; exact rfl; exact rfl; exact rfl)
    | (apply s_add; exact rfl; exact rfl; exact rfl; (omega))
    | (apply s_mul; exact rfl; exact rfl; exact rfl; (omega))
    | (apply g_skip; exact rfl; (first | exact rfl | assumption); exact rfl)
    | (apply g_skipu; exact rfl; exact rfl; exact rfl)
    | (apply g_move_f; exact rfl; (first | exact rfl | assumption); exact rfl; exact rfl)
    | (apply g_assign_f; exact rfl; (first | exact rfl | assumption); exact rfl; exact rfl)
    | (apply g_not; exact rfl; (first | exact rfl | assumption); exact rfl; exact rfl)
    | (apply g_gtr; exact rfl; (first | exact rfl | assumption); exact rfl; exact rfl; exact rfl)
    | (apply g_move_o; exact rfl; (first | exact rfl | assumption); exact rfl; exact rfl)
    | (apply g_move_x; exact rfl; (first | exact rfl | assumption); exact rfl; exact rfl)
    | (apply g_assign_x; exact rfl; (first | exact rfl | assumption); exact rfl; exact rfl)
    | (apply g_assign_o; exact rfl; (first | exact rfl | assumption); exact rfl; exact rfl)
    | (apply g_call (Within_s _ _ _); exact rfl; (first | exact rfl | assumption); exact rfl; exact rfl; exact rfl; exact rfl)
    | (apply g_add; exact rfl; (first | exact rfl | assumption); exact rfl; exact rfl; exact rfl; (omega))
    | (apply g_mul; exact rfl; (first | exact rfl | assumption); exact rfl; exact rfl; exact rfl; (omega))
    | (apply w_condT; exact rfl; (first | exact rfl | assumption))
    | (apply w_condF; exact rfl; (first | exact rfl | assumption)))
    exact lv_ret (ret1 rfl (res_tmp (avb (by unfold downB; rw [w1, w2]; rfl))))
  | true =>
  have g2 : (!withinB p 0 1000000) = false := by rw [w2]; rfl
  have b1 : 0 ≤ s ∧ s ≤ 1000001 := by simpa [withinB] using w1
  have b2 : 0 ≤ p ∧ p ≤ 1000000 := by simpa [withinB] using w2
  repeat (first
    | (apply s_move_f; exact rfl; exact rfl)
    | (apply s_assign_f; exact rfl; exact rfl)
    | (apply s_fld_pt TY; exact rfl; exact rfl; exact rfl)
    | (apply s_load_pt TY; exact rfl; exact rfl; exact rfl; (first | exact rfl | assumption))
    | (apply s_load_pts TY; exact rfl; exact rfl; exact rfl; (first | assumption | exact rfl); exact rfl)
    | (apply s_len TY; exact rfl; exact rfl; exact rfl)
    | (apply s_extract; exact rfl; exact rfl; exact rfl)
    | (apply s_box; exact rfl; exact rfl; exact rfl)
    | (apply s_not; exact rfl; exact rfl)
    | (apply s_lss; exact rfl; exact rfl; exact rfl)
    | (apply s_gtr; exact rfl; exact rfl; exact rfl)
    | (apply s_neq; exact rfl; exact rfl; exact rfl)
    | (apply s_move_o; exact rfl; exact rfl)
    | (apply s_move_x; exact rfl; exact rfl)
    | (apply s_assign_x; exact rfl; exact rfl)
    | (apply s_assign_o; exact rfl; exact rfl)
    | (apply s_fld_bx TY; exact rfl; exact rfl; exact rfl)
    | (apply s_load_bx_f TY; exact rfl; exact rfl; exact rfl; exact rfl; exact rfl)
    | (apply s_load_bx_x TY; exact rfl; exact rfl; exact rfl; exact rfl; exact rfl)
    | (apply s_load_bx_o TY; exact rfl; exact rfl; exact rfl; exact rfl; exact rfl)
    | (apply s_load_bxs TY; exact rfl; exact rfl; exact rfl; exact rfl; exact rfl; exact rfl)
    | (apply s_load_row TY; exact rfl; exact rfl; exact rfl; exact rfl; (first | exact rfl | assumption))
    | (apply s_len_nil TY; exact rfl; exact rfl; exact rfl)
    | (apply s_len_ow TY; exact rfl; exact rfl; exact rfl; exact rfl)
    | (apply s_len_str TY; exact rfl; exact rfl; exact rfl)
    | (apply s_makefn; exact rfl; exact rfl)
    | (apply s_pickT; exact rfl; exact rfl; (first | exact rfl | assumption); exact rfl)
    | (apply s_pickF; exact rfl; exact rfl; (first | exact rfl | assumption); exact rfl)
    | apply w_seq
    | apply w_region
    | apply s_nil
    | apply t_norm
    | apply t_exit
    | apply t_ret
    | apply k_hit
    | (apply k_miss; exact rfl)
    | apply k_norm
    | apply k_ret
    | apply w_block
    | apply w_exit
    | apply w_ret
    | apply w_skip
    | (apply s_call (Within_s _ _ _); exact rfl; exact rfl; exact rfl; exact rfl)
    | (apply s_add; exact rfl; exact rfl; exact rfl; (omega))
    | (apply s_mul; exact rfl; exact rfl; exact rfl; (omega))
    | (apply g_skip; exact rfl; (first | exact rfl | assumption); exact rfl)
    | (apply g_skipu; exact rfl; exact rfl; exact rfl)
    | (apply g_move_f; exact rfl; (first | exact rfl | assumption); exact rfl; exact rfl)
    | (apply g_assign_f; exact rfl; (first | exact rfl | assumption); exact rfl; exact rfl)
    | (apply g_not; exact rfl; (first | exact rfl | assumption); exact rfl; exact rfl)
    | (apply g_gtr; exact rfl; (first | exact rfl | assumption); exact rfl; exact rfl; exact rfl)
    | (apply g_move_o; exact rfl; (first | exact rfl | assumption); exact rfl; exact rfl)
    | (apply g_move_x; exact rfl; (first | exact rfl | assumption); exact rfl; exact rfl)
    | (apply g_assign_x; exact rfl; (first | exact rfl | assumption); exact rfl; exact rfl)
    | (apply g_assign_o; exact rfl; (first | exact rfl | assumption); exact rfl; exact rfl)
    | (apply g_call (Within_s _ _ _); exact rfl; (first | exact rfl | assumption); exact rfl; exact rfl; exact rfl; exact rfl)
    | (apply g_add; exact rfl; (first | exact rfl | assumption); exact rfl; exact rfl; exact rfl; (omega))
    | (apply g_mul; exact rfl; (first | exact rfl | assumption); exact rfl; exact rfl; exact rfl; (omega))
    | (apply w_condT; exact rfl; (first | exact rfl | assumption))
    | (apply w_condF; exact rfl; (first | exact rfl | assumption)))
  apply w_loop (fun k : Nat => ⟨(Ab.upd (Ab.upd (Ab.upd (Ab.upd (Ab.upd (fun _ => .bot) 1 (.f (iv s))) 2 (.f (iv p))) 3 (.f (.pt (holeL h) 0))) 6 (.f (bv false))) 7 (.f (iv (k : Nat)))), (fun _ => none), 0⟩) (fun k => k ≤ h.widths.length ∧ ∀ j : Nat, j < k → s + (j : Int) * p ≤ tickAt h j) (fun k => h.widths.length - k) 0 ⟨Nat.zero_le _, fun j hj => absurd hj (Nat.not_lt_zero j)⟩ (gh_le ⟨le_upd rfl trivial (le_upd rfl trivial (le_upd rfl trivial (le_upd rfl trivial (le_upd rfl trivial (le_nil _))))), le_h0 _ _⟩)
  intro k ⟨hk, hall⟩
  by_cases hkc : k < h.widths.length
  · have hcc : decide ((k : Int) < (h.widths.length : Int)) = true := decide_eq_true (by omega)
    have hcl : Summ Tryd.prog GG 49 [holeF h, iv (k : Nat)] (.tup [iv (tickAt h k), iv 0]) := by
      have := ClosesAt_s h (k : Nat) ⟨by omega, by omega⟩
      rw [closesR_ok v hkc] at this
      exact this
    have m : (k : Int) * p ≤ 20 * 1000000 := Int.mul_le_mul (by omega) b2.2 b2.1 (by omega)
    have m0 : 0 ≤ (k : Int) * p := Int.mul_nonneg (by omega) b2.1
    have t := tick_bd v hkc
    by_cases hn : tickAt h k < s + (k : Int) * p
    · have g3 : decide (tickAt h k < s + (k : Int) * p) = true := decide_eq_true hn
      repeat (first
    | (apply s_move_f; exact rfl; exact rfl)
    | (apply s_assign_f; exact rfl; exact rfl)
    | (apply s_fld_pt TY; exact rfl; exact rfl; exact rfl)
    | (apply s_load_pt TY; exact rfl; exact rfl; exact rfl; (first | exact rfl | assumption))
    | (apply s_load_pts TY; exact rfl; exact rfl; exact rfl; (first | assumption | exact rfl); exact rfl)
    | (apply s_len TY; exact rfl; exact rfl; exact rfl)
    | (apply s_extract; exact rfl; exact rfl; exact rfl)
    | (apply s_box; exact rfl; exact rfl; exact rfl)
    | (apply s_not; exact rfl; exact rfl)
    | (apply s_lss; exact rfl; exact rfl; exact rfl)
    | (apply s_gtr; exact rfl; exact rfl; exact rfl)
    | (apply s_neq; exact rfl; exact rfl; exact rfl)
    | (apply s_move_o; exact rfl; exact rfl)
    | (apply s_move_x; exact rfl; exact rfl)
    | (apply s_assign_x; exact rfl; exact rfl)
    | (apply s_assign_o; exact rfl; exact rfl)
    | (apply s_fld_bx TY; exact rfl; exact rfl; exact rfl)
    | (apply s_load_bx_f TY; exact rfl; exact rfl; exact rfl; exact rfl; exact rfl)
    | (apply s_load_bx_x TY; exact rfl; exact rfl; exact rfl; exact rfl; exact rfl)
    | (apply s_load_bx_o TY; exact rfl; exact rfl; exact rfl; exact rfl; exact rfl)
    | (apply s_load_bxs TY; exact rfl; exact rfl; exact rfl; exact rfl; exact rfl; exact rfl)
    | (apply s_load_row TY; exact rfl; exact rfl; exact rfl; exact rfl; (first | exact rfl | assumption))
    | (apply s_len_nil TY; exact rfl; exact rfl; exact rfl)
    | (apply s_len_ow TY; exact rfl; exact rfl; exact rfl; exact rfl)
    | (apply s_len_str TY; exact rfl; exact rfl; exact rfl)
    | (apply s_makefn; exact rfl; exact rfl)
    | (apply s_pickT; exact rfl; exact rfl; (first | exact rfl | assumption); exact rfl)
    | (apply s_pickF; exact rfl; exact rfl; (first | exact rfl | assumption); exact rfl)
    | apply w_seq
    | apply w_region
    | apply s_nil
    | apply t_norm
    | apply t_exit
    | apply t_ret
    | apply k_hit
    | (apply k_miss; exact rfl)
    | apply k_norm
    | apply k_ret
    | apply w_block
    | apply w_exit
    | apply w_ret
    | apply w_skip
    | (apply s_call (Within_s _ _ _); exact rfl; exact rfl; exact rfl; exact rfl)
    | (apply s_call (CopyHole_s h (by omega) (by omega)); exact rfl; exact rfl; exact rfl; exact rfl)
    | (apply s_call (hcl); exact rfl; exact rfl; exact rfl; exact rfl)
    | (apply s_add; exact rfl; exact rfl; exact rfl; (omega))
    | (apply s_mul; exact rfl; exact rfl; exact rfl; (omega))
    | (apply g_skip; exact rfl; (first | exact rfl | assumption); exact rfl)
    | (apply g_skipu; exact rfl; exact rfl; exact rfl)
    | (apply g_move_f; exact rfl; (first | exact rfl | assumption); exact rfl; exact rfl)
    | (apply g_assign_f; exact rfl; (first | exact rfl | assumption); exact rfl; exact rfl)
    | (apply g_not; exact rfl; (first | exact rfl | assumption); exact rfl; exact rfl)
    | (apply g_gtr; exact rfl; (first | exact rfl | assumption); exact rfl; exact rfl; exact rfl)
    | (apply g_move_o; exact rfl; (first | exact rfl | assumption); exact rfl; exact rfl)
    | (apply g_move_x; exact rfl; (first | exact rfl | assumption); exact rfl; exact rfl)
    | (apply g_assign_x; exact rfl; (first | exact rfl | assumption); exact rfl; exact rfl)
    | (apply g_assign_o; exact rfl; (first | exact rfl | assumption); exact rfl; exact rfl)
    | (apply g_call (Within_s _ _ _); exact rfl; (first | exact rfl | assumption); exact rfl; exact rfl; exact rfl; exact rfl)
    | (apply g_call (CopyHole_s h (by omega) (by omega)); exact rfl; (first | exact rfl | assumption); exact rfl; exact rfl; exact rfl; exact rfl)
    | (apply g_call (hcl); exact rfl; (first | exact rfl | assumption); exact rfl; exact rfl; exact rfl; exact rfl)
    | (apply g_add; exact rfl; (first | exact rfl | assumption); exact rfl; exact rfl; exact rfl; (omega))
    | (apply g_mul; exact rfl; (first | exact rfl | assumption); exact rfl; exact rfl; exact rfl; (omega))
    | (apply w_condT; exact rfl; (first | exact rfl | assumption))
    | (apply w_condF; exact rfl; (first | exact rfl | assumption)))
      exact lv_ret (ret1 rfl (res_tmp (avb (by
        cases hd : downB h s p with
        | false => rfl
        | true => have := (downB_true.1 hd).2.2 k hkc; omega))))
    · have g3 : decide (tickAt h k < s + (k : Int) * p) = false := decide_eq_false hn
      repeat (first
    | (apply s_move_f; exact rfl; exact rfl)
    | (apply s_assign_f; exact rfl; exact rfl)
    | (apply s_fld_pt TY; exact rfl; exact rfl; exact rfl)
    | (apply s_load_pt TY; exact rfl; exact rfl; exact rfl; (first | exact rfl | assumption))
    | (apply s_load_pts TY; exact rfl; exact rfl; exact rfl; (first | assumption | exact rfl); exact rfl)
    | (apply s_len TY; exact rfl; exact rfl; exact rfl)
    | (apply s_extract; exact rfl; exact rfl; exact rfl)
    | (apply s_box; exact rfl; exact rfl; exact rfl)
    | (apply s_not; exact rfl; exact rfl)
    | (apply s_lss; exact rfl; exact rfl; exact rfl)
    | (apply s_gtr; exact rfl; exact rfl; exact rfl)
    | (apply s_neq; exact rfl; exact rfl; exact rfl)
    | (apply s_move_o; exact rfl; exact rfl)
    | (apply s_move_x; exact rfl; exact rfl)
    | (apply s_assign_x; exact rfl; exact rfl)
    | (apply s_assign_o; exact rfl; exact rfl)
    | (apply s_fld_bx TY; exact rfl; exact rfl; exact rfl)
    | (apply s_load_bx_f TY; exact rfl; exact rfl; exact rfl; exact rfl; exact rfl)
    | (apply s_load_bx_x TY; exact rfl; exact rfl; exact rfl; exact rfl; exact rfl)
    | (apply s_load_bx_o TY; exact rfl; exact rfl; exact rfl; exact rfl; exact rfl)
    | (apply s_load_bxs TY; exact rfl; exact rfl; exact rfl; exact rfl; exact rfl; exact rfl)
    | (apply s_load_row TY; exact rfl; exact rfl; exact rfl; exact rfl; (first | exact rfl | assumption))
    | (apply s_len_nil TY; exact rfl; exact rfl; exact rfl)
    | (apply s_len_ow TY; exact rfl; exact rfl; exact rfl; exact rfl)
    | (apply s_len_str TY; exact rfl; exact rfl; exact rfl)
    | (apply s_makefn; exact rfl; exact rfl)
    | (apply s_pickT; exact rfl; exact rfl; (first | exact rfl | assumption); exact rfl)
    | (apply s_pickF; exact rfl; exact rfl; (first | exact rfl | assumption); exact rfl)
    | apply w_seq
    | apply w_region
    | apply s_nil
    | apply t_norm
    | apply t_exit
    | apply t_ret
    | apply k_hit
    | (apply k_miss; exact rfl)
    | apply k_norm
    | apply k_ret
    | apply w_block
    | apply w_exit
    | apply w_ret
    | apply w_skip
    | (apply s_call (Within_s _ _ _); exact rfl; exact rfl; exact rfl; exact rfl)
    | (apply s_call (CopyHole_s h (by omega) (by omega)); exact rfl; exact rfl; exact rfl; exact rfl)
    | (apply s_call (hcl); exact rfl; exact rfl; exact rfl; exact rfl)
    | (apply s_add; exact rfl; exact rfl; exact rfl; (omega))
    | (apply s_mul; exact rfl; exact rfl; exact rfl; (omega))
    | (apply g_skip; exact rfl; (first | exact rfl | assumption); exact rfl)
    | (apply g_skipu; exact rfl; exact rfl; exact rfl)
    | (apply g_move_f; exact rfl; (first | exact rfl | assumption); exact rfl; exact rfl)
    | (apply g_assign_f; exact rfl; (first | exact rfl | assumption); exact rfl; exact rfl)
    | (apply g_not; exact rfl; (first | exact rfl | assumption); exact rfl; exact rfl)
    | (apply g_gtr; exact rfl; (first | exact rfl | assumption); exact rfl; exact rfl; exact rfl)
    | (apply g_move_o; exact rfl; (first | exact rfl | assumption); exact rfl; exact rfl)
    | (apply g_move_x; exact rfl; (first | exact rfl | assumption); exact rfl; exact rfl)
    | (apply g_assign_x; exact rfl; (first | exact rfl | assumption); exact rfl; exact rfl)
    | (apply g_assign_o; exact rfl; (first | exact rfl | assumption); exact rfl; exact rfl)
    | (apply g_call (Within_s _ _ _); exact rfl; (first | exact rfl | assumption); exact rfl; exact rfl; exact rfl; exact rfl)
    | (apply g_call (CopyHole_s h (by omega) (by omega)); exact rfl; (first | exact rfl | assumption); exact rfl; exact rfl; exact rfl; exact rfl)
    | (apply g_call (hcl); exact rfl; (first | exact rfl | assumption); exact rfl; exact rfl; exact rfl; exact rfl)
    | (apply g_add; exact rfl; (first | exact rfl | assumption); exact rfl; exact rfl; exact rfl; (omega))
    | (apply g_mul; exact rfl; (first | exact rfl | assumption); exact rfl; exact rfl; exact rfl; (omega))
    | (apply w_condT; exact rfl; (first | exact rfl | assumption))
    | (apply w_condF; exact rfl; (first | exact rfl | assumption)))
      refine ⟨k + 1, ⟨by omega, fun j hj => ?_⟩, by omega, gh_le ⟨le_upd rfl trivial (le_upd rfl trivial (le_upd rfl trivial (le_upd rfl trivial (le_upd rfl trivial (le_nil _))))), le_h0 _ _⟩⟩
      by_cases hjk : j < k
      · exact hall j hjk
      · have : j = k := by omega
        subst this; omega
  have hcc : decide ((k : Int) < (h.widths.length : Int)) = false := decide_eq_false (by omega)
  repeat (first
    | (apply s_move_f; exact rfl; exact rfl)
    | (apply s_assign_f; exact rfl; exact rfl)
    | (apply s_fld_pt TY; exact rfl; exact rfl; exact rfl)
    | (apply s_load_pt TY; exact rfl; exact rfl; exact rfl; (first | exact rfl | assumption))
    | (apply s_load_pts TY; exact rfl; exact rfl; exact rfl; (first | assumption | exact rfl); exact rfl)
    | (apply s_len TY; exact rfl; exact rfl; exact rfl)
    | (apply s_extract; exact rfl; exact rfl; exact rfl)
    | (apply s_box; exact rfl; exact rfl; exact rfl)
    | (apply s_not; exact rfl; exact rfl)
    | (apply s_lss; exact rfl; exact rfl; exact rfl)
    | (apply s_gtr; exact rfl; exact rfl; exact rfl)
    | (apply s_neq; exact rfl; exact rfl; exact rfl)
    | (apply s_move_o; exact rfl; exact rfl)
    | (apply s_move_x; exact rfl; exact rfl)
    | (apply s_assign_x; exact rfl; exact rfl)
    | (apply s_assign_o; exact rfl; exact rfl)
    | (apply s_fld_bx TY; exact rfl; exact rfl; exact rfl)
    | (apply s_load_bx_f TY; exact rfl; exact rfl; exact rfl; exact rfl; exact rfl)
    | (apply s_load_bx_x TY; exact rfl; exact rfl; exact rfl; exact rfl; exact rfl)
    | (apply s_load_bx_o TY; exact rfl; exact rfl; exact rfl; exact rfl; exact rfl)
    | (apply s_load_bxs TY; exact rfl; exact rfl; exact rfl; exact rfl; exact rfl; exact rfl)
    | (apply s_load_row TY; exact rfl; exact rfl; exact rfl; exact rfl; (first | exact rfl | assumption))
    | (apply s_len_nil TY; exact rfl; exact rfl; exact rfl)
    | (apply s_len_ow TY; exact rfl; exact rfl; exact rfl; exact rfl)
    | (apply s_len_str TY; exact rfl; exact rfl; exact rfl)
    | (apply s_makefn; exact rfl; exact rfl)
    | (apply s_pickT; exact rfl; exact rfl; (first | exact rfl | assumption); exact rfl)
    | (apply s_pickF; exact rfl; exact rfl; (first | exact rfl | assumption); exact rfl)
    | apply w_seq
    | apply w_region
    | apply s_nil
    | apply t_norm
    | apply t_exit
    | apply t_ret
    | apply k_hit
    | (apply k_miss; exact rfl)
    | apply k_norm
    | apply k_ret
    | apply w_block
    | apply w_exit
    | apply w_ret
    | apply w_skip
    | (apply s_add; exact rfl; exact rfl; exact rfl; (omega))
    | (apply s_mul; exact rfl; exact rfl; exact rfl; (omega))
    | (apply g_skip; exact rfl; (first | exact rfl | assumption); exact rfl)
    | (apply g_skipu; exact rfl; exact rfl; exact rfl)
    | (apply g_move_f; exact rfl; (first | exact rfl | assumption); exact rfl; exact rfl)
    | (apply g_assign_f; exact rfl; (first | exact rfl | assumption); exact rfl; exact rfl)
    | (apply g_not; exact rfl; (first | exact rfl | assumption); exact rfl; exact rfl)
    | (apply g_gtr; exact rfl; (first | exact rfl | assumption); exact rfl; exact rfl; exact rfl)
    | (apply g_move_o; exact rfl; (first | exact rfl | assumption); exact rfl; exact rfl)
    | (apply g_move_x; exact rfl; (first | exact rfl | assumption); exact rfl; exact rfl)
    | (apply g_assign_x; exact rfl; (first | exact rfl | assumption); exact rfl; exact rfl)
    | (apply g_assign_o; exact rfl; (first | exact rfl | assumption); exact rfl; exact rfl)
    | (apply g_add; exact rfl; (first | exact rfl | assumption); exact rfl; exact rfl; exact rfl; (omega))
    | (apply g_mul; exact rfl; (first | exact rfl | assumption); exact rfl; exact rfl; exact rfl; (omega))
    | (apply w_condT; exact rfl; (first | exact rfl | assumption))
    | (apply w_condF; exact rfl; (first | exact rfl | assumption)))
  exact lv_ret (ret1 rfl (res_tmp (avb (downB_true.2 ⟨b1, b2, fun j hj => hall j (by omega)⟩).symm)))
end Go.Proofs.YtienhiloecfgnaaDoor
namespace Go.Proofs.YtienhiloecfgnaaDoor
open Go Go.RowKit Go.Proofs Go.Shelf Go.Ab
theorem latestTo_le {h : Hole} {p : Int} : ∀ (K : Nat), latestTo h p K ≤ 1000000 ∧ ∀ j : Nat, j < K → latestTo h p K ≤ tickAt h j - (j : Int) * p
  | 0 => ⟨by simp [latestTo], fun j hj => absurd hj (Nat.not_lt_zero j)⟩
  | k + 1 => by
    obtain ⟨a, b⟩ := latestTo_le (h := h) (p := p) k
    refine ⟨by simp only [latestTo]; omega, fun j hj => ?_⟩
    simp only [latestTo]
    by_cases e : j < k
    · have := b j e; omega
    · have : j = k := by omega
      subst this; omega
theorem latestTo_is {h : Hole} {p : Int} : ∀ (K : Nat), latestTo h p K = 1000000 ∨ ∃ j : Nat, j < K ∧ latestTo h p K = tickAt h j - (j : Int) * p
  | 0 => .inl rfl
  | k + 1 => by
    simp only [latestTo]
    by_cases e : latestTo h p k ≤ tickAt h k - (k : Int) * p
    · rcases latestTo_is (h := h) (p := p) k with a | ⟨j, hj, a⟩
      · exact .inl (by omega)
      · exact .inr ⟨j, by omega, by omega⟩
    · exact .inr ⟨k, by omega, by omega⟩
theorem paceTo_le {h : Hole} {s : Int} : ∀ (K : Nat), paceTo h s K ≤ 1000000 ∧ ∀ j : Nat, j < K → 0 < j → paceTo h s K ≤ (tickAt h j - s) / (j : Int)
  | 0 => ⟨by simp [paceTo], fun j hj => absurd hj (Nat.not_lt_zero j)⟩
  | k + 1 => by
    obtain ⟨a, b⟩ := paceTo_le (h := h) (s := s) k
    simp only [paceTo]
    refine ⟨by split <;> omega, fun j hj h0 => ?_⟩
    by_cases e : j < k
    · have := b j e h0
      split <;> omega
    · have : j = k := by omega
      subst this
      rw [if_neg (by omega)]; omega
theorem paceTo_is {h : Hole} {s : Int} : ∀ (K : Nat), paceTo h s K = 1000000 ∨ ∃ j : Nat, j < K ∧ 0 < j ∧ paceTo h s K = (tickAt h j - s) / (j : Int)
  | 0 => .inl rfl
  | k + 1 => by
    simp only [paceTo]
    have ih := paceTo_is (h := h) (s := s) k
    by_cases k0 : k = 0
    · rw [if_pos k0]
      rcases ih with a | ⟨j, hj, h0, a⟩
      · exact .inl a
      · exact .inr ⟨j, by omega, h0, a⟩
    · rw [if_neg k0]
      by_cases e : paceTo h s k ≤ (tickAt h k - s) / (k : Int)
      · rcases ih with a | ⟨j, hj, h0, a⟩
        · exact .inl (by omega)
        · exact .inr ⟨j, by omega, h0, by omega⟩
      · exact .inr ⟨k, by omega, by omega, by omega⟩
theorem slowBad_false {h : Hole} {s : Int} : slowBad h s = false ↔ ∀ j : Nat, j < h.widths.length → s ≤ tickAt h j := by
  unfold slowBad
  rw [← Bool.not_eq_true]
  simp only [List.any_eq_true, List.mem_range, decide_eq_true_eq, not_exists, not_and, Int.not_lt]
theorem down_latest {h : Hole} (_v : HoleV h) {n : Int} (n0 : 0 ≤ n) (n1 : n ≤ 1000000) (hs : 0 ≤ latestTo h n h.widths.length) : downB h (latestTo h n h.widths.length) n = true := by
  obtain ⟨a, b⟩ := latestTo_le (h := h) (p := n) h.widths.length
  exact downB_true.2 ⟨⟨hs, by omega⟩, ⟨n0, n1⟩, fun k hk => by have := b k hk; omega⟩
theorem down_later {h : Hole} (v : HoleV h) {n : Int} : downB h (latestTo h n h.widths.length + 1) n = false := by
  rw [← Bool.not_eq_true]
  intro hd
  obtain ⟨_, _, c⟩ := downB_true.1 hd
  rcases latestTo_is (h := h) (p := n) h.widths.length with a | ⟨j, hj, a⟩
  · have l := v.n1
    have t := tick_bd v (k := 0) (by omega)
    have := c 0 (by omega)
    simp at this; omega
  · have := c j hj; omega
theorem down_none {h : Hole} {n : Int} (hs : latestTo h n h.widths.length < 0) : downB h 0 n = false := by
  rw [← Bool.not_eq_true]
  intro hd
  obtain ⟨_, _, c⟩ := downB_true.1 hd
  rcases latestTo_is (h := h) (p := n) h.widths.length with a | ⟨j, hj, a⟩
  · omega
  · have := c j hj; omega
theorem latest_ok {h : Hole} {n : Int} (n0 : 0 ≤ n) : slowBad h (latestTo h n h.widths.length) = false := slowBad_false.2 fun j hj => by
  have := (latestTo_le (h := h) (p := n) h.widths.length).2 j hj
  have : 0 ≤ (j : Int) * n := Int.mul_nonneg (by omega) n0
  omega
theorem pace_latest {h : Hole} {n : Int} (n1 : n ≤ 1000000) : n ≤ paceTo h (latestTo h n h.widths.length) h.widths.length := by
  rcases paceTo_is (h := h) (s := latestTo h n h.widths.length) h.widths.length with a | ⟨j, hj, h0, a⟩
  · omega
  · rw [a]
    have := (latestTo_le (h := h) (p := n) h.widths.length).2 j hj
    have e : n * (j : Int) = (j : Int) * n := Int.mul_comm _ _
    exact (Int.le_ediv_iff_mul_le (by omega)).2 (by omega)
theorem down_pace {h : Hole} (v : HoleV h) {n : Int} (n0 : 0 ≤ n) (n1 : n ≤ 1000000) (hb : slowBad h n = false) : downB h n (paceTo h n h.widths.length) = true := by
  have hb := slowBad_false.1 hb
  have b := pace_bd v (s := n) h.widths.length (Nat.le_refl _) (fun j hj => hb j hj)
  refine downB_true.2 ⟨⟨n0, by omega⟩, b, fun k hk => ?_⟩
  by_cases k0 : k = 0
  · subst k0; have := hb 0 hk; simp; omega
  · have := (paceTo_le (h := h) (s := n) h.widths.length).2 k hk (by omega)
    have := (Int.le_ediv_iff_mul_le (by omega)).1 this
    have e : paceTo h n h.widths.length * (k : Int) = (k : Int) * paceTo h n h.widths.length := Int.mul_comm _ _
    omega
theorem down_faster {h : Hole} {n : Int} (hp : paceTo h n h.widths.length ≠ 1000000) : downB h n (paceTo h n h.widths.length + 1) = false := by
  rw [← Bool.not_eq_true]
  intro hd
  obtain ⟨_, _, c⟩ := downB_true.1 hd
  rcases paceTo_is (h := h) (s := n) h.widths.length with a | ⟨j, hj, h0, a⟩
  · exact hp a
  · have := c j hj
    have e : (paceTo h n h.widths.length + 1) * (j : Int) = (j : Int) * (paceTo h n h.widths.length + 1) := Int.mul_comm _ _
    have := (Int.le_ediv_iff_mul_le (a := paceTo h n h.widths.length + 1) (b := tickAt h j - n) (c := (j : Int)) (by omega)).2 (by omega)
    omega
theorem down_bad {h : Hole} {n : Int} (hb : slowBad h n = true) : downB h n 0 = false := by
  rw [← Bool.not_eq_true]
  intro hd
  obtain ⟨_, _, c⟩ := downB_true.1 hd
  have : slowBad h n = false := slowBad_false.2 fun j hj => by have := c j hj; simp at this; omega
  rw [this] at hb; cases hb
set_option maxRecDepth 100000 in
set_option maxHeartbeats 1000000 in
theorem IceDown_s (h : Hole) (n : Int) : Summ Tryd.prog GG 9 [holeF h, iv n] (bv true) := by
  refine summW Tryd.func9 rfl rfl 108 rfl (by simp) (fun M0 => ?_)
  by_cases h20 : 20 < h.widths.length
  · have g : decide ((20 : Int) < h.widths.length) = true := decide_eq_true (by omega)
    repeat (first
    | (apply s_move_f; exact rfl; exact rfl)
    | (apply s_assign_f; exact rfl; exact rfl)
    | (apply s_fld_pt TY; exact rfl; exact rfl; exact rfl)
    | (apply s_load_pt TY; exact rfl; exact rfl; exact rfl; (first | exact rfl | assumption))
    | (apply s_load_pts TY; exact rfl; exact rfl; exact rfl; (first | assumption | exact rfl); exact rfl)
    | (apply s_len TY; exact rfl; exact rfl; exact rfl)
    | (apply s_extract; exact rfl; exact rfl; exact rfl)
    | (apply s_box; exact rfl; exact rfl; exact rfl)
    | (apply s_not; exact rfl; exact rfl)
    | (apply s_lss; exact rfl; exact rfl; exact rfl)
    | (apply s_gtr; exact rfl; exact rfl; exact rfl)
    | (apply s_eql; exact rfl; exact rfl; exact rfl)
    | (apply s_neq; exact rfl; exact rfl; exact rfl)
    | (apply s_move_o; exact rfl; exact rfl)
    | (apply s_move_x; exact rfl; exact rfl)
    | (apply s_assign_x; exact rfl; exact rfl)
    | (apply s_assign_o; exact rfl; exact rfl)
    | (apply s_fld_bx TY; exact rfl; exact rfl; exact rfl)
    | (apply s_load_bx_f TY; exact rfl; exact rfl; exact rfl; exact rfl; exact rfl)
    | (apply s_load_bx_x TY; exact rfl; exact rfl; exact rfl; exact rfl; exact rfl)
    | (apply s_load_bx_o TY; exact rfl; exact rfl; exact rfl; exact rfl; exact rfl)
    | (apply s_load_bxs TY; exact rfl; exact rfl; exact rfl; exact rfl; exact rfl; exact rfl)
    | (apply s_load_row TY; exact rfl; exact rfl; exact rfl; exact rfl; (first | exact rfl | assumption))
    | (apply s_len_nil TY; exact rfl; exact rfl; exact rfl)
    | (apply s_len_ow TY; exact rfl; exact rfl; exact rfl; exact rfl)
    | (apply s_len_str TY; exact rfl; exact rfl; exact rfl)
    | (apply s_makefn; exact rfl; exact rfl)
    | (apply s_pickT; exact rfl; exact rfl; (first | exact rfl | assumption); exact rfl)
    | (apply s_pickF; exact rfl; exact rfl; (first | exact rfl | assumption); exact rfl)
    | apply w_seq
    | apply w_region
    | apply s_nil
    | apply t_norm
    | apply t_exit
    | apply t_ret
    | apply k_hit
    | (apply k_miss; exact rfl)
    | apply k_norm
    | apply k_ret
    | apply w_block
    | apply w_exit
    | apply w_ret
    | apply w_skip
    | (apply s_call (awake_s); exact rfl; exact rfl; exact rfl; exact rfl)
    | (apply s_call (HoleErr_s h); exact rfl; exact rfl; exact rfl; exact rfl)
    | (apply s_call (Within_s _ _ _); exact rfl; exact rfl; exact rfl; exact rfl)
    | (apply s_add; exact rfl; exact rfl; exact rfl; (omega))
    | (apply g_skip; exact rfl; (first | exact rfl | assumption); exact rfl)
    | (apply g_skipu; exact rfl; exact rfl; exact rfl)
    | (apply g_move_f; exact rfl; (first | exact rfl | assumption); exact rfl; exact rfl)
    | (apply g_assign_f; exact rfl; (first | exact rfl | assumption); exact rfl; exact rfl)
    | (apply g_load_pt TY; exact rfl; (first | exact rfl | assumption); exact rfl; exact rfl; exact rfl; (first | exact rfl | assumption))
    | (apply g_load_pts TY; exact rfl; (first | exact rfl | assumption); exact rfl; exact rfl; exact rfl; (first | assumption | exact rfl); exact rfl)
    | (apply g_not; exact rfl; (first | exact rfl | assumption); exact rfl; exact rfl)
    | (apply g_lss; exact rfl; (first | exact rfl | assumption); exact rfl; exact rfl; exact rfl)
    | (apply g_eql; exact rfl; (first | exact rfl | assumption); exact rfl; exact rfl; exact rfl)
    | (apply g_neq; exact rfl; (first | exact rfl | assumption); exact rfl; exact rfl; exact rfl)
    | (apply g_move_o; exact rfl; (first | exact rfl | assumption); exact rfl; exact rfl)
    | (apply g_move_x; exact rfl; (first | exact rfl | assumption); exact rfl; exact rfl)
    | (apply g_assign_x; exact rfl; (first | exact rfl | assumption); exact rfl; exact rfl)
    | (apply g_assign_o; exact rfl; (first | exact rfl | assumption); exact rfl; exact rfl)
    | (apply g_load_bx_f TY; exact rfl; (first | exact rfl | assumption); exact rfl; exact rfl; exact rfl; exact rfl; exact rfl)
    | (apply g_load_bx_x TY; exact rfl; (first | exact rfl | assumption); exact rfl; exact rfl; exact rfl; exact rfl; exact rfl)
    | (apply g_load_bx_o TY; exact rfl; (first | exact rfl | assumption); exact rfl; exact rfl; exact rfl; exact rfl; exact rfl)
    | (apply g_load_bxs TY; exact rfl; (first | exact rfl | assumption); exact rfl; exact rfl; exact rfl; exact rfl; exact rfl; exact rfl)
    | (apply g_load_row TY; exact rfl; (first | exact rfl | assumption); exact rfl; exact rfl; exact rfl; exact rfl; (first | exact rfl | assumption))
    | (apply g_pickT; exact rfl; (first | exact rfl | assumption); exact rfl; exact rfl; (first | exact rfl | assumption); exact rfl)
    | (apply g_pickF; exact rfl; (first | exact rfl | assumption); exact rfl; exact rfl; (first | exact rfl | assumption); exact rfl)
    | (apply g_call (awake_s); exact rfl; (first | exact rfl | assumption); exact rfl; exact rfl; exact rfl; exact rfl)
    | (apply g_call (HoleErr_s h); exact rfl; (first | exact rfl | assumption); exact rfl; exact rfl; exact rfl; exact rfl)
    | (apply g_call (Within_s _ _ _); exact rfl; (first | exact rfl | assumption); exact rfl; exact rfl; exact rfl; exact rfl)
    | (apply g_add; exact rfl; (first | exact rfl | assumption); exact rfl; exact rfl; exact rfl; (omega))
    | (apply w_condT; exact rfl; (first | exact rfl | assumption))
    | (apply w_condF; exact rfl; (first | exact rfl | assumption)))
    exact lv_ret (ret1 rfl (res_tmp rfl))
  have g : decide ((20 : Int) < h.widths.length) = false := decide_eq_false (by omega)
  by_cases he : holeErrE h = 0
  case neg =>
    have g2 : (!decide (holeErrE h = 0)) = true := by simp [he]
    repeat (first
    | (apply s_move_f; exact rfl; exact rfl)
    | (apply s_assign_f; exact rfl; exact rfl)
    | (apply s_fld_pt TY; exact rfl; exact rfl; exact rfl)
    | (apply s_load_pt TY; exact rfl; exact rfl; exact rfl; (first | exact rfl | assumption))
    | (apply s_load_pts TY; exact rfl; exact rfl; exact rfl; (first | assumption | exact rfl); exact rfl)
    | (apply s_len TY; exact rfl; exact rfl; exact rfl)
    | (apply s_extract; exact rfl; exact rfl; exact rfl)
    | (apply s_box; exact rfl; exact rfl; exact rfl)
    | (apply s_not; exact rfl; exact rfl)
    | (apply s_lss; exact rfl; exact rfl; exact rfl)
    | (apply s_gtr; exact rfl; exact rfl; exact rfl)
    | (apply s_eql; exact rfl; exact rfl; exact rfl)
    | (apply s_neq; exact rfl; exact rfl; exact rfl)
    | (apply s_move_o; exact rfl; exact rfl)
    | (apply s_move_x; exact rfl; exact rfl)
    | (apply s_assign_x; exact rfl; exact rfl)
    | (apply s_assign_o; exact rfl; exact rfl)
    | (apply s_fld_bx TY; exact rfl; exact rfl; exact rfl)
    | (apply s_load_bx_f TY; exact rfl; exact rfl; exact rfl; exact rfl; exact rfl)
    | (apply s_load_bx_x TY; exact rfl; exact rfl; exact rfl; exact rfl; exact rfl)
    | (apply s_load_bx_o TY; exact rfl; exact rfl; exact rfl; exact rfl; exact rfl)
    | (apply s_load_bxs TY; exact rfl; exact rfl; exact rfl; exact rfl; exact rfl; exact rfl)
    | (apply s_load_row TY; exact rfl; exact rfl; exact rfl; exact rfl; (first | exact rfl | assumption))
    | (apply s_len_nil TY; exact rfl; exact rfl; exact rfl)
    | (apply s_len_ow TY; exact rfl; exact rfl; exact rfl; exact rfl)
    | (apply s_len_str TY; exact rfl; exact rfl; exact rfl)
    | (apply s_makefn; exact rfl; exact rfl)
    | (apply s_pickT; exact rfl; exact rfl; (first | exact rfl | assumption); exact rfl)
    | (apply s_pickF; exact rfl; exact rfl; (first | exact rfl | assumption); exact rfl)
    | apply w_seq
    | apply w_region
    | apply s_nil
    | apply t_norm
    | apply t_exit
    | apply t_ret
    | apply k_hit
    | (apply k_miss; exact rfl)
    | apply k_norm
    | apply k_ret
    | apply w_block
    | apply w_exit
    | apply w_ret
    | apply w_skip
    | (apply s_call (awake_s); exact rfl; exact rfl; exact rfl; exact rfl)
    | (apply s_call (HoleErr_s h); exact rfl; exact rfl; exact rfl; exact rfl)
    | (apply s_call (Within_s _ _ _); exact rfl; exact rfl; exact rfl; exact rfl)
    | (apply s_add; exact rfl; exact rfl; exact rfl; (omega))
    | (apply g_skip; exact rfl; (first | exact rfl | assumption); exact rfl)
    | (apply g_skipu; exact rfl; exact rfl; exact rfl)
    | (apply g_move_f; exact rfl; (first | exact rfl | assumption); exact rfl; exact rfl)
    | (apply g_assign_f; exact rfl; (first | exact rfl | assumption); exact rfl; exact rfl)
    | (apply g_load_pt TY; exact rfl; (first | exact rfl | assumption); exact rfl; exact rfl; exact rfl; (first | exact rfl | assumption))
    | (apply g_load_pts TY; exact rfl; (first | exact rfl | assumption); exact rfl; exact rfl; exact rfl; (first | assumption | exact rfl); exact rfl)
    | (apply g_not; exact rfl; (first | exact rfl | assumption); exact rfl; exact rfl)
    | (apply g_lss; exact rfl; (first | exact rfl | assumption); exact rfl; exact rfl; exact rfl)
    | (apply g_eql; exact rfl; (first | exact rfl | assumption); exact rfl; exact rfl; exact rfl)
    | (apply g_neq; exact rfl; (first | exact rfl | assumption); exact rfl; exact rfl; exact rfl)
    | (apply g_move_o; exact rfl; (first | exact rfl | assumption); exact rfl; exact rfl)
    | (apply g_move_x; exact rfl; (first | exact rfl | assumption); exact rfl; exact rfl)
    | (apply g_assign_x; exact rfl; (first | exact rfl | assumption); exact rfl; exact rfl)
    | (apply g_assign_o; exact rfl; (first | exact rfl | assumption); exact rfl; exact rfl)
    | (apply g_load_bx_f TY; exact rfl; (first | exact rfl | assumption); exact rfl; exact rfl; exact rfl; exact rfl; exact rfl)
    | (apply g_load_bx_x TY; exact rfl; (first | exact rfl | assumption); exact rfl; exact rfl; exact rfl; exact rfl; exact rfl)
    | (apply g_load_bx_o TY; exact rfl; (first | exact rfl | assumption); exact rfl; exact rfl; exact rfl; exact rfl; exact rfl)
    | (apply g_load_bxs TY; exact rfl; (first | exact rfl | assumption); exact rfl; exact rfl; exact rfl; exact rfl; exact rfl; exact rfl)
    | (apply g_load_row TY; exact rfl; (first | exact rfl | assumption); exact rfl; exact rfl; exact rfl; exact rfl; (first | exact rfl | assumption))
    | (apply g_pickT; exact rfl; (first | exact rfl | assumption); exact rfl; exact rfl; (first | exact rfl | assumption); exact rfl)
    | (apply g_pickF; exact rfl; (first | exact rfl | assumption); exact rfl; exact rfl; (first | exact rfl | assumption); exact rfl)
    | (apply g_call (awake_s); exact rfl; (first | exact rfl | assumption); exact rfl; exact rfl; exact rfl; exact rfl)
    | (apply g_call (HoleErr_s h); exact rfl; (first | exact rfl | assumption); exact rfl; exact rfl; exact rfl; exact rfl)
    | (apply g_call (Within_s _ _ _); exact rfl; (first | exact rfl | assumption); exact rfl; exact rfl; exact rfl; exact rfl)
    | (apply g_add; exact rfl; (first | exact rfl | assumption); exact rfl; exact rfl; exact rfl; (omega))
    | (apply w_condT; exact rfl; (first | exact rfl | assumption))
    | (apply w_condF; exact rfl; (first | exact rfl | assumption)))
    exact lv_ret (ret1 rfl (res_tmp rfl))
  have g2 : (!decide (holeErrE h = 0)) = false := by simp [he]
  have v : HoleV h := checkHole_ok.1 he
  cases w1 : withinB n 0 1000000 with
  | false =>
    have g3 : (!withinB n 0 1000000) = true := by rw [w1]; rfl
    repeat (first
    | (apply s_move_f; exact rfl; exact rfl)
    | (apply s_assign_f; exact rfl; exact rfl)
    | (apply s_fld_pt TY; exact rfl; exact rfl; exact rfl)
    | (apply s_load_pt TY; exact rfl; exact rfl; exact rfl; (first | exact rfl | assumption))
    | (apply s_load_pts TY; exact rfl; exact rfl; exact rfl; (first | assumption | exact rfl); exact rfl)
    | (apply s_len TY; exact rfl; exact rfl; exact rfl)
    | (apply s_extract; exact rfl; exact rfl; exact rfl)
    | (apply s_box; exact rfl; exact rfl; exact rfl)
    | (apply s_not; exact rfl; exact rfl)
    | (apply s_lss; exact rfl; exact rfl; exact rfl)
    | (apply s_gtr; exact rfl; exact rfl; exact rfl)
    | (apply s_eql; exact rfl; exact rfl; exact rfl)
    | (apply s_neq; exact rfl; exact rfl; exact rfl)
    | (apply s_move_o; exact rfl; exact rfl)
    | (apply s_move_x; exact rfl; exact rfl)
    | (apply s_assign_x; exact rfl; exact rfl)
    | (apply s_assign_o; exact rfl; exact rfl)
    | (apply s_fld_bx TY; exact rfl; exact rfl; exact rfl)
    | (apply s_load_bx_f TY; exact rfl; exact rfl; exact rfl; exact rfl; exact rfl)
    | (apply s_load_bx_x TY; exact rfl; exact rfl; exact rfl; exact rfl; exact rfl)
    | (apply s_load_bx_o TY; exact rfl; exact rfl; exact rfl; exact rfl; exact rfl)
    | (apply s_load_bxs TY; exact rfl; exact rfl; exact rfl; exact rfl; exact rfl; exact rfl)
    | (apply s_load_row TY; exact rfl; exact rfl; exact rfl; exact rfl; (first | exact rfl | assumption))
    | (apply s_len_nil TY; exact rfl; exact rfl; exact rfl)
    | (apply s_len_ow TY; exact rfl; exact rfl; exact rfl; exact rfl)
    | (apply s_len_str TY; exact rfl; exact rfl; exact rfl)
    | (apply s_makefn; exact rfl; exact rfl)
    | (apply s_pickT; exact rfl; exact rfl; (first | exact rfl | assumption); exact rfl)
    | (apply s_pickF; exact rfl; exact rfl; (first | exact rfl | assumption); exact rfl)
    | apply w_seq
    | apply w_region
    | apply s_nil
    | apply t_norm
    | apply t_exit
    | apply t_ret
    | apply k_hit
    | (apply k_miss; exact rfl)
    | apply k_norm
    | apply k_ret
    | apply w_block
    | apply w_exit
    | apply w_ret
    | apply w_skip
    | (apply s_call (awake_s); exact rfl; exact rfl; exact rfl; exact rfl)
    | (apply s_call (HoleErr_s h); exact rfl; exact rfl; exact rfl; exact rfl)
    | (apply s_call (Within_s _ _ _); exact rfl; exact rfl; exact rfl; exact rfl)
    | (apply s_add; exact rfl; exact rfl; exact rfl; (omega))
    | (apply g_skip; exact rfl; (first | exact rfl | assumption); exact rfl)
    | (apply g_skipu; exact rfl; exact rfl; exact rfl)
    | (apply g_move_f; exact rfl; (first | exact rfl | assumption); exact rfl; exact rfl)
    | (apply g_assign_f; exact rfl; (first | exact rfl | assumption); exact rfl; exact rfl)
    | (apply g_load_pt TY; exact rfl; (first | exact rfl | assumption); exact rfl; exact rfl; exact rfl; (first | exact rfl | assumption))
    | (apply g_load_pts TY; exact rfl; (first | exact rfl | assumption); exact rfl; exact rfl; exact rfl; (first | assumption | exact rfl); exact rfl)
    | (apply g_not; exact rfl; (first | exact rfl | assumption); exact rfl; exact rfl)
    | (apply g_lss; exact rfl; (first | exact rfl | assumption); exact rfl; exact rfl; exact rfl)
    | (apply g_eql; exact rfl; (first | exact rfl | assumption); exact rfl; exact rfl; exact rfl)
    | (apply g_neq; exact rfl; (first | exact rfl | assumption); exact rfl; exact rfl; exact rfl)
    | (apply g_move_o; exact rfl; (first | exact rfl | assumption); exact rfl; exact rfl)
    | (apply g_move_x; exact rfl; (first | exact rfl | assumption); exact rfl; exact rfl)
    | (apply g_assign_x; exact rfl; (first | exact rfl | assumption); exact rfl; exact rfl)
    | (apply g_assign_o; exact rfl; (first | exact rfl | assumption); exact rfl; exact rfl)
    | (apply g_load_bx_f TY; exact rfl; (first | exact rfl | assumption); exact rfl; exact rfl; exact rfl; exact rfl; exact rfl)
    | (apply g_load_bx_x TY; exact rfl; (first | exact rfl | assumption); exact rfl; exact rfl; exact rfl; exact rfl; exact rfl)
    | (apply g_load_bx_o TY; exact rfl; (first | exact rfl | assumption); exact rfl; exact rfl; exact rfl; exact rfl; exact rfl)
    | (apply g_load_bxs TY; exact rfl; (first | exact rfl | assumption); exact rfl; exact rfl; exact rfl; exact rfl; exact rfl; exact rfl)
    | (apply g_load_row TY; exact rfl; (first | exact rfl | assumption); exact rfl; exact rfl; exact rfl; exact rfl; (first | exact rfl | assumption))
    | (apply g_pickT; exact rfl; (first | exact rfl | assumption); exact rfl; exact rfl; (first | exact rfl | assumption); exact rfl)
    | (apply g_pickF; exact rfl; (first | exact rfl | assumption); exact rfl; exact rfl; (first | exact rfl | assumption); exact rfl)
    | (apply g_call (awake_s); exact rfl; (first | exact rfl | assumption); exact rfl; exact rfl; exact rfl; exact rfl)
    | (apply g_call (HoleErr_s h); exact rfl; (first | exact rfl | assumption); exact rfl; exact rfl; exact rfl; exact rfl)
    | (apply g_call (Within_s _ _ _); exact rfl; (first | exact rfl | assumption); exact rfl; exact rfl; exact rfl; exact rfl)
    | (apply g_add; exact rfl; (first | exact rfl | assumption); exact rfl; exact rfl; exact rfl; (omega))
    | (apply w_condT; exact rfl; (first | exact rfl | assumption))
    | (apply w_condF; exact rfl; (first | exact rfl | assumption)))
    exact lv_ret (ret1 rfl (res_tmp rfl))
  | true =>
  have g3 : (!withinB n 0 1000000) = false := by rw [w1]; rfl
  have b1 : 0 ≤ n ∧ n ≤ 1000000 := by simpa [withinB] using w1
  have hsl := v.len
  have st : startE h n = 0 := startE_zero.2 ⟨v, b1.1, b1.2⟩
  have P3 : slowBad h n = false → Summ Tryd.prog GG 51 [holeF h, iv n] (.tup [iv (paceTo h n h.widths.length), iv 0]) := fun hb => by
    have := SlowestPace_s h n ⟨by omega, by omega⟩
    rw [slowR, st, if_neg (by decide), if_neg (by simp [hb])] at this
    exact this
  have P4 : slowBad h n = true → Summ Tryd.prog GG 51 [holeF h, iv n] (.tup [iv 0, iv 12]) := fun hb => by
    have := SlowestPace_s h n ⟨by omega, by omega⟩
    rw [slowR, st, if_neg (by decide), if_pos hb] at this
    exact this
  by_cases hs : latestTo h n h.widths.length < 0
  · have L : Summ Tryd.prog GG 50 [holeF h, iv n] (.tup [iv 0, iv 12]) := by
      have := LatestStart_s h n ⟨by omega, by omega⟩
      rw [latestR, st, if_neg (by decide), if_pos hs] at this
      exact this
    have g4 := down_none hs
    cases hb : slowBad h n with
    | true =>
      have P := P4 hb
      have e := down_bad hb
      repeat (first
        | (apply s_move_f; exact rfl; exact rfl)
        | (apply s_assign_f; exact rfl; exact rfl)
        | (apply s_fld_pt TY; exact rfl; exact rfl; exact rfl)
        | (apply s_load_pt TY; exact rfl; exact rfl; exact rfl; (first | exact rfl | assumption))
        | (apply s_load_pts TY; exact rfl; exact rfl; exact rfl; (first | assumption | exact rfl); exact rfl)
        | (apply s_len TY; exact rfl; exact rfl; exact rfl)
        | (apply s_extract; exact rfl; exact rfl; exact rfl)
        | (apply s_box; exact rfl; exact rfl; exact rfl)
        | (apply s_not; exact rfl; exact rfl)
        | (apply s_lss; exact rfl; exact rfl; exact rfl)
        | (apply s_gtr; exact rfl; exact rfl; exact rfl)
        | (apply s_eql; exact rfl; exact rfl; exact rfl)
        | (apply s_neq; exact rfl; exact rfl; exact rfl)
        | (apply s_move_o; exact rfl; exact rfl)
        | (apply s_move_x; exact rfl; exact rfl)
        | (apply s_assign_x; exact rfl; exact rfl)
        | (apply s_assign_o; exact rfl; exact rfl)
        | (apply s_fld_bx TY; exact rfl; exact rfl; exact rfl)
        | (apply s_load_bx_f TY; exact rfl; exact rfl; exact rfl; exact rfl; exact rfl)
        | (apply s_load_bx_x TY; exact rfl; exact rfl; exact rfl; exact rfl; exact rfl)
        | (apply s_load_bx_o TY; exact rfl; exact rfl; exact rfl; exact rfl; exact rfl)
        | (apply s_load_bxs TY; exact rfl; exact rfl; exact rfl; exact rfl; exact rfl; exact rfl)
        | (apply s_load_row TY; exact rfl; exact rfl; exact rfl; exact rfl; (first | exact rfl | assumption))
        | (apply s_len_nil TY; exact rfl; exact rfl; exact rfl)
        | (apply s_len_ow TY; exact rfl; exact rfl; exact rfl; exact rfl)
        | (apply s_len_str TY; exact rfl; exact rfl; exact rfl)
        | (apply s_makefn; exact rfl; exact rfl)
        | (apply s_pickT; exact rfl; exact rfl; (first | exact rfl | assumption); exact rfl)
        | (apply s_pickF; exact rfl; exact rfl; (first | exact rfl | assumption); exact rfl)
        | apply w_seq
        | apply w_region
        | apply s_nil
        | apply t_norm
        | apply t_exit
        | apply t_ret
        | apply k_hit
        | (apply k_miss; exact rfl)
        | apply k_norm
        | apply k_ret
        | apply w_block
        | apply w_exit
        | apply w_ret
        | apply w_skip
        | (apply s_call (awake_s); exact rfl; exact rfl; exact rfl; exact rfl)
        | (apply s_call (HoleErr_s h); exact rfl; exact rfl; exact rfl; exact rfl)
        | (apply s_call (Within_s _ _ _); exact rfl; exact rfl; exact rfl; exact rfl)
        | (apply s_call (CopyHole_s h (by omega) (by omega)); exact rfl; exact rfl; exact rfl; exact rfl)
        | (apply s_call (down_s h _ _ v); exact rfl; exact rfl; exact rfl; exact rfl)
        | (apply s_call (L); exact rfl; exact rfl; exact rfl; exact rfl)
        | (apply s_call (P); exact rfl; exact rfl; exact rfl; exact rfl)
        | (apply s_add; exact rfl; exact rfl; exact rfl; (omega))
        | (apply g_skip; exact rfl; (first | exact rfl | assumption); exact rfl)
        | (apply g_skipu; exact rfl; exact rfl; exact rfl)
        | (apply g_move_f; exact rfl; (first | exact rfl | assumption); exact rfl; exact rfl)
        | (apply g_assign_f; exact rfl; (first | exact rfl | assumption); exact rfl; exact rfl)
        | (apply g_load_pt TY; exact rfl; (first | exact rfl | assumption); exact rfl; exact rfl; exact rfl; (first | exact rfl | assumption))
        | (apply g_load_pts TY; exact rfl; (first | exact rfl | assumption); exact rfl; exact rfl; exact rfl; (first | assumption | exact rfl); exact rfl)
        | (apply g_not; exact rfl; (first | exact rfl | assumption); exact rfl; exact rfl)
        | (apply g_lss; exact rfl; (first | exact rfl | assumption); exact rfl; exact rfl; exact rfl)
        | (apply g_eql; exact rfl; (first | exact rfl | assumption); exact rfl; exact rfl; exact rfl)
        | (apply g_neq; exact rfl; (first | exact rfl | assumption); exact rfl; exact rfl; exact rfl)
        | (apply g_move_o; exact rfl; (first | exact rfl | assumption); exact rfl; exact rfl)
        | (apply g_move_x; exact rfl; (first | exact rfl | assumption); exact rfl; exact rfl)
        | (apply g_assign_x; exact rfl; (first | exact rfl | assumption); exact rfl; exact rfl)
        | (apply g_assign_o; exact rfl; (first | exact rfl | assumption); exact rfl; exact rfl)
        | (apply g_load_bx_f TY; exact rfl; (first | exact rfl | assumption); exact rfl; exact rfl; exact rfl; exact rfl; exact rfl)
        | (apply g_load_bx_x TY; exact rfl; (first | exact rfl | assumption); exact rfl; exact rfl; exact rfl; exact rfl; exact rfl)
        | (apply g_load_bx_o TY; exact rfl; (first | exact rfl | assumption); exact rfl; exact rfl; exact rfl; exact rfl; exact rfl)
        | (apply g_load_bxs TY; exact rfl; (first | exact rfl | assumption); exact rfl; exact rfl; exact rfl; exact rfl; exact rfl; exact rfl)
        | (apply g_load_row TY; exact rfl; (first | exact rfl | assumption); exact rfl; exact rfl; exact rfl; exact rfl; (first | exact rfl | assumption))
        | (apply g_pickT; exact rfl; (first | exact rfl | assumption); exact rfl; exact rfl; (first | exact rfl | assumption); exact rfl)
        | (apply g_pickF; exact rfl; (first | exact rfl | assumption); exact rfl; exact rfl; (first | exact rfl | assumption); exact rfl)
        | (apply g_call (awake_s); exact rfl; (first | exact rfl | assumption); exact rfl; exact rfl; exact rfl; exact rfl)
        | (apply g_call (HoleErr_s h); exact rfl; (first | exact rfl | assumption); exact rfl; exact rfl; exact rfl; exact rfl)
        | (apply g_call (Within_s _ _ _); exact rfl; (first | exact rfl | assumption); exact rfl; exact rfl; exact rfl; exact rfl)
        | (apply g_call (CopyHole_s h (by omega) (by omega)); exact rfl; (first | exact rfl | assumption); exact rfl; exact rfl; exact rfl; exact rfl)
        | (apply g_call (down_s h _ _ v); exact rfl; (first | exact rfl | assumption); exact rfl; exact rfl; exact rfl; exact rfl)
        | (apply g_call (L); exact rfl; (first | exact rfl | assumption); exact rfl; exact rfl; exact rfl; exact rfl)
        | (apply g_call (P); exact rfl; (first | exact rfl | assumption); exact rfl; exact rfl; exact rfl; exact rfl)
        | (apply g_add; exact rfl; (first | exact rfl | assumption); exact rfl; exact rfl; exact rfl; (omega))
        | (apply w_condT; exact rfl; (first | exact rfl | assumption))
        | (apply w_condF; exact rfl; (first | exact rfl | assumption)))
      exact lv_ret (ret1 rfl (res_tmp (avb (by rw [e]; rfl))))
    | false =>
      have P := P3 hb
      have e := down_pace v b1.1 b1.2 hb
      have pb := pace_bd v (s := n) h.widths.length (Nat.le_refl _) (fun j hj => slowBad_false.1 hb j hj)
      have w4 : withinB (paceTo h n h.widths.length) 0 1000000 = true := by unfold withinB; simp; omega
      by_cases hp : paceTo h n h.widths.length = 1000000
      · have g7 : decide (paceTo h n h.widths.length = 1000000) = true := decide_eq_true hp
        repeat (first
        | (apply s_move_f; exact rfl; exact rfl)
        | (apply s_assign_f; exact rfl; exact rfl)
        | (apply s_fld_pt TY; exact rfl; exact rfl; exact rfl)
        | (apply s_load_pt TY; exact rfl; exact rfl; exact rfl; (first | exact rfl | assumption))
        | (apply s_load_pts TY; exact rfl; exact rfl; exact rfl; (first | assumption | exact rfl); exact rfl)
        | (apply s_len TY; exact rfl; exact rfl; exact rfl)
        | (apply s_extract; exact rfl; exact rfl; exact rfl)
        | (apply s_box; exact rfl; exact rfl; exact rfl)
        | (apply s_not; exact rfl; exact rfl)
        | (apply s_lss; exact rfl; exact rfl; exact rfl)
        | (apply s_gtr; exact rfl; exact rfl; exact rfl)
        | (apply s_eql; exact rfl; exact rfl; exact rfl)
        | (apply s_neq; exact rfl; exact rfl; exact rfl)
        | (apply s_move_o; exact rfl; exact rfl)
        | (apply s_move_x; exact rfl; exact rfl)
        | (apply s_assign_x; exact rfl; exact rfl)
        | (apply s_assign_o; exact rfl; exact rfl)
        | (apply s_fld_bx TY; exact rfl; exact rfl; exact rfl)
        | (apply s_load_bx_f TY; exact rfl; exact rfl; exact rfl; exact rfl; exact rfl)
        | (apply s_load_bx_x TY; exact rfl; exact rfl; exact rfl; exact rfl; exact rfl)
        | (apply s_load_bx_o TY; exact rfl; exact rfl; exact rfl; exact rfl; exact rfl)
        | (apply s_load_bxs TY; exact rfl; exact rfl; exact rfl; exact rfl; exact rfl; exact rfl)
        | (apply s_load_row TY; exact rfl; exact rfl; exact rfl; exact rfl; (first | exact rfl | assumption))
        | (apply s_len_nil TY; exact rfl; exact rfl; exact rfl)
        | (apply s_len_ow TY; exact rfl; exact rfl; exact rfl; exact rfl)
        | (apply s_len_str TY; exact rfl; exact rfl; exact rfl)
        | (apply s_makefn; exact rfl; exact rfl)
        | (apply s_pickT; exact rfl; exact rfl; (first | exact rfl | assumption); exact rfl)
        | (apply s_pickF; exact rfl; exact rfl; (first | exact rfl | assumption); exact rfl)
        | apply w_seq
        | apply w_region
        | apply s_nil
        | apply t_norm
        | apply t_exit
        | apply t_ret
        | apply k_hit
        | (apply k_miss; exact rfl)
        | apply k_norm
        | apply k_ret
        | apply w_block
        | apply w_exit
        | apply w_ret
        | apply w_skip
        | (apply s_call (awake_s); exact rfl; exact rfl; exact rfl; exact rfl)
        | (apply s_call (HoleErr_s h); exact rfl; exact rfl; exact rfl; exact rfl)
        | (apply s_call (Within_s _ _ _); exact rfl; exact rfl; exact rfl; exact rfl)
        | (apply s_call (CopyHole_s h (by omega) (by omega)); exact rfl; exact rfl; exact rfl; exact rfl)
        | (apply s_call (down_s h _ _ v); exact rfl; exact rfl; exact rfl; exact rfl)
        | (apply s_call (L); exact rfl; exact rfl; exact rfl; exact rfl)
        | (apply s_call (P); exact rfl; exact rfl; exact rfl; exact rfl)
        | (apply s_add; exact rfl; exact rfl; exact rfl; (omega))
        | (apply g_skip; exact rfl; (first | exact rfl | assumption); exact rfl)
        | (apply g_skipu; exact rfl; exact rfl; exact rfl)
        | (apply g_move_f; exact rfl; (first | exact rfl | assumption); exact rfl; exact rfl)
        | (apply g_assign_f; exact rfl; (first | exact rfl | assumption); exact rfl; exact rfl)
        | (apply g_load_pt TY; exact rfl; (first | exact rfl | assumption); exact rfl; exact rfl; exact rfl; (first | exact rfl | assumption))
        | (apply g_load_pts TY; exact rfl; (first | exact rfl | assumption); exact rfl; exact rfl; exact rfl; (first | assumption | exact rfl); exact rfl)
        | (apply g_not; exact rfl; (first | exact rfl | assumption); exact rfl; exact rfl)
        | (apply g_lss; exact rfl; (first | exact rfl | assumption); exact rfl; exact rfl; exact rfl)
        | (apply g_eql; exact rfl; (first | exact rfl | assumption); exact rfl; exact rfl; exact rfl)
        | (apply g_neq; exact rfl; (first | exact rfl | assumption); exact rfl; exact rfl; exact rfl)
        | (apply g_move_o; exact rfl; (first | exact rfl | assumption); exact rfl; exact rfl)
        | (apply g_move_x; exact rfl; (first | exact rfl | assumption); exact rfl; exact rfl)
        | (apply g_assign_x; exact rfl; (first | exact rfl | assumption); exact rfl; exact rfl)
        | (apply g_assign_o; exact rfl; (first | exact rfl | assumption); exact rfl; exact rfl)
        | (apply g_load_bx_f TY; exact rfl; (first | exact rfl | assumption); exact rfl; exact rfl; exact rfl; exact rfl; exact rfl)
        | (apply g_load_bx_x TY; exact rfl; (first | exact rfl | assumption); exact rfl; exact rfl; exact rfl; exact rfl; exact rfl)
        | (apply g_load_bx_o TY; exact rfl; (first | exact rfl | assumption); exact rfl; exact rfl; exact rfl; exact rfl; exact rfl)
        | (apply g_load_bxs TY; exact rfl; (first | exact rfl | assumption); exact rfl; exact rfl; exact rfl; exact rfl; exact rfl; exact rfl)
        | (apply g_load_row TY; exact rfl; (first | exact rfl | assumption); exact rfl; exact rfl; exact rfl; exact rfl; (first | exact rfl | assumption))
        | (apply g_pickT; exact rfl; (first | exact rfl | assumption); exact rfl; exact rfl; (first | exact rfl | assumption); exact rfl)
        | (apply g_pickF; exact rfl; (first | exact rfl | assumption); exact rfl; exact rfl; (first | exact rfl | assumption); exact rfl)
        | (apply g_call (awake_s); exact rfl; (first | exact rfl | assumption); exact rfl; exact rfl; exact rfl; exact rfl)
        | (apply g_call (HoleErr_s h); exact rfl; (first | exact rfl | assumption); exact rfl; exact rfl; exact rfl; exact rfl)
        | (apply g_call (Within_s _ _ _); exact rfl; (first | exact rfl | assumption); exact rfl; exact rfl; exact rfl; exact rfl)
        | (apply g_call (CopyHole_s h (by omega) (by omega)); exact rfl; (first | exact rfl | assumption); exact rfl; exact rfl; exact rfl; exact rfl)
        | (apply g_call (down_s h _ _ v); exact rfl; (first | exact rfl | assumption); exact rfl; exact rfl; exact rfl; exact rfl)
        | (apply g_call (L); exact rfl; (first | exact rfl | assumption); exact rfl; exact rfl; exact rfl; exact rfl)
        | (apply g_call (P); exact rfl; (first | exact rfl | assumption); exact rfl; exact rfl; exact rfl; exact rfl)
        | (apply g_add; exact rfl; (first | exact rfl | assumption); exact rfl; exact rfl; exact rfl; (omega))
        | (apply w_condT; exact rfl; (first | exact rfl | assumption))
        | (apply w_condF; exact rfl; (first | exact rfl | assumption)))
        exact lv_ret (ret1 rfl (res_tmp rfl))
      · have g7 : decide (paceTo h n h.widths.length = 1000000) = false := decide_eq_false hp
        have e2 := down_faster hp
        repeat (first
        | (apply s_move_f; exact rfl; exact rfl)
        | (apply s_assign_f; exact rfl; exact rfl)
        | (apply s_fld_pt TY; exact rfl; exact rfl; exact rfl)
        | (apply s_load_pt TY; exact rfl; exact rfl; exact rfl; (first | exact rfl | assumption))
        | (apply s_load_pts TY; exact rfl; exact rfl; exact rfl; (first | assumption | exact rfl); exact rfl)
        | (apply s_len TY; exact rfl; exact rfl; exact rfl)
        | (apply s_extract; exact rfl; exact rfl; exact rfl)
        | (apply s_box; exact rfl; exact rfl; exact rfl)
        | (apply s_not; exact rfl; exact rfl)
        | (apply s_lss; exact rfl; exact rfl; exact rfl)
        | (apply s_gtr; exact rfl; exact rfl; exact rfl)
        | (apply s_eql; exact rfl; exact rfl; exact rfl)
        | (apply s_neq; exact rfl; exact rfl; exact rfl)
        | (apply s_move_o; exact rfl; exact rfl)
        | (apply s_move_x; exact rfl; exact rfl)
        | (apply s_assign_x; exact rfl; exact rfl)
        | (apply s_assign_o; exact rfl; exact rfl)
        | (apply s_fld_bx TY; exact rfl; exact rfl; exact rfl)
        | (apply s_load_bx_f TY; exact rfl; exact rfl; exact rfl; exact rfl; exact rfl)
        | (apply s_load_bx_x TY; exact rfl; exact rfl; exact rfl; exact rfl; exact rfl)
        | (apply s_load_bx_o TY; exact rfl; exact rfl; exact rfl; exact rfl; exact rfl)
        | (apply s_load_bxs TY; exact rfl; exact rfl; exact rfl; exact rfl; exact rfl; exact rfl)
        | (apply s_load_row TY; exact rfl; exact rfl; exact rfl; exact rfl; (first | exact rfl | assumption))
        | (apply s_len_nil TY; exact rfl; exact rfl; exact rfl)
        | (apply s_len_ow TY; exact rfl; exact rfl; exact rfl; exact rfl)
        | (apply s_len_str TY; exact rfl; exact rfl; exact rfl)
        | (apply s_makefn; exact rfl; exact rfl)
        | (apply s_pickT; exact rfl; exact rfl; (first | exact rfl | assumption); exact rfl)
        | (apply s_pickF; exact rfl; exact rfl; (first | exact rfl | assumption); exact rfl)
        | apply w_seq
        | apply w_region
        | apply s_nil
        | apply t_norm
        | apply t_exit
        | apply t_ret
        | apply k_hit
        | (apply k_miss; exact rfl)
        | apply k_norm
        | apply k_ret
        | apply w_block
        | apply w_exit
        | apply w_ret
        | apply w_skip
        | (apply s_call (awake_s); exact rfl; exact rfl; exact rfl; exact rfl)
        | (apply s_call (HoleErr_s h); exact rfl; exact rfl; exact rfl; exact rfl)
        | (apply s_call (Within_s _ _ _); exact rfl; exact rfl; exact rfl; exact rfl)
        | (apply s_call (CopyHole_s h (by omega) (by omega)); exact rfl; exact rfl; exact rfl; exact rfl)
        | (apply s_call (down_s h _ _ v); exact rfl; exact rfl; exact rfl; exact rfl)
        | (apply s_call (L); exact rfl; exact rfl; exact rfl; exact rfl)
        | (apply s_call (P); exact rfl; exact rfl; exact rfl; exact rfl)
        | (apply s_add; exact rfl; exact rfl; exact rfl; (omega))
        | (apply g_skip; exact rfl; (first | exact rfl | assumption); exact rfl)
        | (apply g_skipu; exact rfl; exact rfl; exact rfl)
        | (apply g_move_f; exact rfl; (first | exact rfl | assumption); exact rfl; exact rfl)
        | (apply g_assign_f; exact rfl; (first | exact rfl | assumption); exact rfl; exact rfl)
        | (apply g_load_pt TY; exact rfl; (first | exact rfl | assumption); exact rfl; exact rfl; exact rfl; (first | exact rfl | assumption))
        | (apply g_load_pts TY; exact rfl; (first | exact rfl | assumption); exact rfl; exact rfl; exact rfl; (first | assumption | exact rfl); exact rfl)
        | (apply g_not; exact rfl; (first | exact rfl | assumption); exact rfl; exact rfl)
        | (apply g_lss; exact rfl; (first | exact rfl | assumption); exact rfl; exact rfl; exact rfl)
        | (apply g_eql; exact rfl; (first | exact rfl | assumption); exact rfl; exact rfl; exact rfl)
        | (apply g_neq; exact rfl; (first | exact rfl | assumption); exact rfl; exact rfl; exact rfl)
        | (apply g_move_o; exact rfl; (first | exact rfl | assumption); exact rfl; exact rfl)
        | (apply g_move_x; exact rfl; (first | exact rfl | assumption); exact rfl; exact rfl)
        | (apply g_assign_x; exact rfl; (first | exact rfl | assumption); exact rfl; exact rfl)
        | (apply g_assign_o; exact rfl; (first | exact rfl | assumption); exact rfl; exact rfl)
        | (apply g_load_bx_f TY; exact rfl; (first | exact rfl | assumption); exact rfl; exact rfl; exact rfl; exact rfl; exact rfl)
        | (apply g_load_bx_x TY; exact rfl; (first | exact rfl | assumption); exact rfl; exact rfl; exact rfl; exact rfl; exact rfl)
        | (apply g_load_bx_o TY; exact rfl; (first | exact rfl | assumption); exact rfl; exact rfl; exact rfl; exact rfl; exact rfl)
        | (apply g_load_bxs TY; exact rfl; (first | exact rfl | assumption); exact rfl; exact rfl; exact rfl; exact rfl; exact rfl; exact rfl)
        | (apply g_load_row TY; exact rfl; (first | exact rfl | assumption); exact rfl; exact rfl; exact rfl; exact rfl; (first | exact rfl | assumption))
        | (apply g_pickT; exact rfl; (first | exact rfl | assumption); exact rfl; exact rfl; (first | exact rfl | assumption); exact rfl)
        | (apply g_pickF; exact rfl; (first | exact rfl | assumption); exact rfl; exact rfl; (first | exact rfl | assumption); exact rfl)
        | (apply g_call (awake_s); exact rfl; (first | exact rfl | assumption); exact rfl; exact rfl; exact rfl; exact rfl)
        | (apply g_call (HoleErr_s h); exact rfl; (first | exact rfl | assumption); exact rfl; exact rfl; exact rfl; exact rfl)
        | (apply g_call (Within_s _ _ _); exact rfl; (first | exact rfl | assumption); exact rfl; exact rfl; exact rfl; exact rfl)
        | (apply g_call (CopyHole_s h (by omega) (by omega)); exact rfl; (first | exact rfl | assumption); exact rfl; exact rfl; exact rfl; exact rfl)
        | (apply g_call (down_s h _ _ v); exact rfl; (first | exact rfl | assumption); exact rfl; exact rfl; exact rfl; exact rfl)
        | (apply g_call (L); exact rfl; (first | exact rfl | assumption); exact rfl; exact rfl; exact rfl; exact rfl)
        | (apply g_call (P); exact rfl; (first | exact rfl | assumption); exact rfl; exact rfl; exact rfl; exact rfl)
        | (apply g_add; exact rfl; (first | exact rfl | assumption); exact rfl; exact rfl; exact rfl; (omega))
        | (apply w_condT; exact rfl; (first | exact rfl | assumption))
        | (apply w_condF; exact rfl; (first | exact rfl | assumption)))
        exact lv_ret (ret1 rfl (res_tmp (avb (by rw [e2]; rfl))))
  · have L : Summ Tryd.prog GG 50 [holeF h, iv n] (.tup [iv (latestTo h n h.widths.length), iv 0]) := by
      have := LatestStart_s h n ⟨by omega, by omega⟩
      rw [latestR, st, if_neg (by decide), if_neg hs] at this
      exact this
    have l1 := (latestTo_le (h := h) (p := n) h.widths.length).1
    have st2 : startE h (latestTo h n h.widths.length) = 0 := startE_zero.2 ⟨v, by omega, l1⟩
    have hb2 := latest_ok (h := h) b1.1
    have Q : Summ Tryd.prog GG 51 [holeF h, iv (latestTo h n h.widths.length)] (.tup [iv (paceTo h (latestTo h n h.widths.length) h.widths.length), iv 0]) := by
      have := SlowestPace_s h (latestTo h n h.widths.length) ⟨by omega, by omega⟩
      rw [slowR, st2, if_neg (by decide), if_neg (by simp [hb2])] at this
      exact this
    have g4 : (!downB h (latestTo h n h.widths.length) n) = false := by rw [down_latest v b1.1 b1.2 (by omega)]; rfl
    have g5 := down_later v (n := n)
    have g6 : decide (paceTo h (latestTo h n h.widths.length) h.widths.length < n) = false := decide_eq_false (by have := pace_latest (h := h) b1.2; omega)
    cases hb : slowBad h n with
    | true =>
      have P := P4 hb
      have e := down_bad hb
      repeat (first
        | (apply s_move_f; exact rfl; exact rfl)
        | (apply s_assign_f; exact rfl; exact rfl)
        | (apply s_fld_pt TY; exact rfl; exact rfl; exact rfl)
        | (apply s_load_pt TY; exact rfl; exact rfl; exact rfl; (first | exact rfl | assumption))
        | (apply s_load_pts TY; exact rfl; exact rfl; exact rfl; (first | assumption | exact rfl); exact rfl)
        | (apply s_len TY; exact rfl; exact rfl; exact rfl)
        | (apply s_extract; exact rfl; exact rfl; exact rfl)
        | (apply s_box; exact rfl; exact rfl; exact rfl)
        | (apply s_not; exact rfl; exact rfl)
        | (apply s_lss; exact rfl; exact rfl; exact rfl)
        | (apply s_gtr; exact rfl; exact rfl; exact rfl)
        | (apply s_eql; exact rfl; exact rfl; exact rfl)
        | (apply s_neq; exact rfl; exact rfl; exact rfl)
        | (apply s_move_o; exact rfl; exact rfl)
        | (apply s_move_x; exact rfl; exact rfl)
        | (apply s_assign_x; exact rfl; exact rfl)
        | (apply s_assign_o; exact rfl; exact rfl)
        | (apply s_fld_bx TY; exact rfl; exact rfl; exact rfl)
        | (apply s_load_bx_f TY; exact rfl; exact rfl; exact rfl; exact rfl; exact rfl)
        | (apply s_load_bx_x TY; exact rfl; exact rfl; exact rfl; exact rfl; exact rfl)
        | (apply s_load_bx_o TY; exact rfl; exact rfl; exact rfl; exact rfl; exact rfl)
        | (apply s_load_bxs TY; exact rfl; exact rfl; exact rfl; exact rfl; exact rfl; exact rfl)
        | (apply s_load_row TY; exact rfl; exact rfl; exact rfl; exact rfl; (first | exact rfl | assumption))
        | (apply s_len_nil TY; exact rfl; exact rfl; exact rfl)
        | (apply s_len_ow TY; exact rfl; exact rfl; exact rfl; exact rfl)
        | (apply s_len_str TY; exact rfl; exact rfl; exact rfl)
        | (apply s_makefn; exact rfl; exact rfl)
        | (apply s_pickT; exact rfl; exact rfl; (first | exact rfl | assumption); exact rfl)
        | (apply s_pickF; exact rfl; exact rfl; (first | exact rfl | assumption); exact rfl)
        | apply w_seq
        | apply w_region
        | apply s_nil
        | apply t_norm
        | apply t_exit
        | apply t_ret
        | apply k_hit
        | (apply k_miss; exact rfl)
        | apply k_norm
        | apply k_ret
        | apply w_block
        | apply w_exit
        | apply w_ret
        | apply w_skip
        | (apply s_call (awake_s); exact rfl; exact rfl; exact rfl; exact rfl)
        | (apply s_call (HoleErr_s h); exact rfl; exact rfl; exact rfl; exact rfl)
        | (apply s_call (Within_s _ _ _); exact rfl; exact rfl; exact rfl; exact rfl)
        | (apply s_call (CopyHole_s h (by omega) (by omega)); exact rfl; exact rfl; exact rfl; exact rfl)
        | (apply s_call (down_s h _ _ v); exact rfl; exact rfl; exact rfl; exact rfl)
        | (apply s_call (L); exact rfl; exact rfl; exact rfl; exact rfl)
        | (apply s_call (Q); exact rfl; exact rfl; exact rfl; exact rfl)
        | (apply s_call (P); exact rfl; exact rfl; exact rfl; exact rfl)
        | (apply s_add; exact rfl; exact rfl; exact rfl; (omega))
        | (apply g_skip; exact rfl; (first | exact rfl | assumption); exact rfl)
        | (apply g_skipu; exact rfl; exact rfl; exact rfl)
        | (apply g_move_f; exact rfl; (first | exact rfl | assumption); exact rfl; exact rfl)
        | (apply g_assign_f; exact rfl; (first | exact rfl | assumption); exact rfl; exact rfl)
        | (apply g_load_pt TY; exact rfl; (first | exact rfl | assumption); exact rfl; exact rfl; exact rfl; (first | exact rfl | assumption))
        | (apply g_load_pts TY; exact rfl; (first | exact rfl | assumption); exact rfl; exact rfl; exact rfl; (first | assumption | exact rfl); exact rfl)
        | (apply g_not; exact rfl; (first | exact rfl | assumption); exact rfl; exact rfl)
        | (apply g_lss; exact rfl; (first | exact rfl | assumption); exact rfl; exact rfl; exact rfl)
        | (apply g_eql; exact rfl; (first | exact rfl | assumption); exact rfl; exact rfl; exact rfl)
        | (apply g_neq; exact rfl; (first | exact rfl | assumption); exact rfl; exact rfl; exact rfl)
        | (apply g_move_o; exact rfl; (first | exact rfl | assumption); exact rfl; exact rfl)
        | (apply g_move_x; exact rfl; (first | exact rfl | assumption); exact rfl; exact rfl)
        | (apply g_assign_x; exact rfl; (first | exact rfl | assumption); exact rfl; exact rfl)
        | (apply g_assign_o; exact rfl; (first | exact rfl | assumption); exact rfl; exact rfl)
        | (apply g_load_bx_f TY; exact rfl; (first | exact rfl | assumption); exact rfl; exact rfl; exact rfl; exact rfl; exact rfl)
        | (apply g_load_bx_x TY; exact rfl; (first | exact rfl | assumption); exact rfl; exact rfl; exact rfl; exact rfl; exact rfl)
        | (apply g_load_bx_o TY; exact rfl; (first | exact rfl | assumption); exact rfl; exact rfl; exact rfl; exact rfl; exact rfl)
        | (apply g_load_bxs TY; exact rfl; (first | exact rfl | assumption); exact rfl; exact rfl; exact rfl; exact rfl; exact rfl; exact rfl)
        | (apply g_load_row TY; exact rfl; (first | exact rfl | assumption); exact rfl; exact rfl; exact rfl; exact rfl; (first | exact rfl | assumption))
        | (apply g_pickT; exact rfl; (first | exact rfl | assumption); exact rfl; exact rfl; (first | exact rfl | assumption); exact rfl)
        | (apply g_pickF; exact rfl; (first | exact rfl | assumption); exact rfl; exact rfl; (first | exact rfl | assumption); exact rfl)
        | (apply g_call (awake_s); exact rfl; (first | exact rfl | assumption); exact rfl; exact rfl; exact rfl; exact rfl)
        | (apply g_call (HoleErr_s h); exact rfl; (first | exact rfl | assumption); exact rfl; exact rfl; exact rfl; exact rfl)
        | (apply g_call (Within_s _ _ _); exact rfl; (first | exact rfl | assumption); exact rfl; exact rfl; exact rfl; exact rfl)
        | (apply g_call (CopyHole_s h (by omega) (by omega)); exact rfl; (first | exact rfl | assumption); exact rfl; exact rfl; exact rfl; exact rfl)
        | (apply g_call (down_s h _ _ v); exact rfl; (first | exact rfl | assumption); exact rfl; exact rfl; exact rfl; exact rfl)
        | (apply g_call (L); exact rfl; (first | exact rfl | assumption); exact rfl; exact rfl; exact rfl; exact rfl)
        | (apply g_call (Q); exact rfl; (first | exact rfl | assumption); exact rfl; exact rfl; exact rfl; exact rfl)
        | (apply g_call (P); exact rfl; (first | exact rfl | assumption); exact rfl; exact rfl; exact rfl; exact rfl)
        | (apply g_add; exact rfl; (first | exact rfl | assumption); exact rfl; exact rfl; exact rfl; (omega))
        | (apply w_condT; exact rfl; (first | exact rfl | assumption))
        | (apply w_condF; exact rfl; (first | exact rfl | assumption)))
      exact lv_ret (ret1 rfl (res_tmp (avb (by rw [e]; rfl))))
    | false =>
      have P := P3 hb
      have e := down_pace v b1.1 b1.2 hb
      have pb := pace_bd v (s := n) h.widths.length (Nat.le_refl _) (fun j hj => slowBad_false.1 hb j hj)
      have w4 : withinB (paceTo h n h.widths.length) 0 1000000 = true := by unfold withinB; simp; omega
      by_cases hp : paceTo h n h.widths.length = 1000000
      · have g7 : decide (paceTo h n h.widths.length = 1000000) = true := decide_eq_true hp
        repeat (first
        | (apply s_move_f; exact rfl; exact rfl)
        | (apply s_assign_f; exact rfl; exact rfl)
        | (apply s_fld_pt TY; exact rfl; exact rfl; exact rfl)
        | (apply s_load_pt TY; exact rfl; exact rfl; exact rfl; (first | exact rfl | assumption))
        | (apply s_load_pts TY; exact rfl; exact rfl; exact rfl; (first | assumption | exact rfl); exact rfl)
        | (apply s_len TY; exact rfl; exact rfl; exact rfl)
        | (apply s_extract; exact rfl; exact rfl; exact rfl)
        | (apply s_box; exact rfl; exact rfl; exact rfl)
        | (apply s_not; exact rfl; exact rfl)
        | (apply s_lss; exact rfl; exact rfl; exact rfl)
        | (apply s_gtr; exact rfl; exact rfl; exact rfl)
        | (apply s_eql; exact rfl; exact rfl; exact rfl)
        | (apply s_neq; exact rfl; exact rfl; exact rfl)
        | (apply s_move_o; exact rfl; exact rfl)
        | (apply s_move_x; exact rfl; exact rfl)
        | (apply s_assign_x; exact rfl; exact rfl)
        | (apply s_assign_o; exact rfl; exact rfl)
        | (apply s_fld_bx TY; exact rfl; exact rfl; exact rfl)
        | (apply s_load_bx_f TY; exact rfl; exact rfl; exact rfl; exact rfl; exact rfl)
        | (apply s_load_bx_x TY; exact rfl; exact rfl; exact rfl; exact rfl; exact rfl)
        | (apply s_load_bx_o TY; exact rfl; exact rfl; exact rfl; exact rfl; exact rfl)
        | (apply s_load_bxs TY; exact rfl; exact rfl; exact rfl; exact rfl; exact rfl; exact rfl)
        | (apply s_load_row TY; exact rfl; exact rfl; exact rfl; exact rfl; (first | exact rfl | assumption))
        | (apply s_len_nil TY; exact rfl; exact rfl; exact rfl)
        | (apply s_len_ow TY; exact rfl; exact rfl; exact rfl; exact rfl)
        | (apply s_len_str TY; exact rfl; exact rfl; exact rfl)
        | (apply s_makefn; exact rfl; exact rfl)
        | (apply s_pickT; exact rfl; exact rfl; (first | exact rfl | assumption); exact rfl)
        | (apply s_pickF; exact rfl; exact rfl; (first | exact rfl | assumption); exact rfl)
        | apply w_seq
        | apply w_region
        | apply s_nil
        | apply t_norm
        | apply t_exit
        | apply t_ret
        | apply k_hit
        | (apply k_miss; exact rfl)
        | apply k_norm
        | apply k_ret
        | apply w_block
        | apply w_exit
        | apply w_ret
        | apply w_skip
        | (apply s_call (awake_s); exact rfl; exact rfl; exact rfl; exact rfl)
        | (apply s_call (HoleErr_s h); exact rfl; exact rfl; exact rfl; exact rfl)
        | (apply s_call (Within_s _ _ _); exact rfl; exact rfl; exact rfl; exact rfl)
        | (apply s_call (CopyHole_s h (by omega) (by omega)); exact rfl; exact rfl; exact rfl; exact rfl)
        | (apply s_call (down_s h _ _ v); exact rfl; exact rfl; exact rfl; exact rfl)
        | (apply s_call (L); exact rfl; exact rfl; exact rfl; exact rfl)
        | (apply s_call (Q); exact rfl; exact rfl; exact rfl; exact rfl)
        | (apply s_call (P); exact rfl; exact rfl; exact rfl; exact rfl)
        | (apply s_add; exact rfl; exact rfl; exact rfl; (omega))
        | (apply g_skip; exact rfl; (first | exact rfl | assumption); exact rfl)
        | (apply g_skipu; exact rfl; exact rfl; exact rfl)
        | (apply g_move_f; exact rfl; (first | exact rfl | assumption); exact rfl; exact rfl)
        | (apply g_assign_f; exact rfl; (first | exact rfl | assumption); exact rfl; exact rfl)
        | (apply g_load_pt TY; exact rfl; (first | exact rfl | assumption); exact rfl; exact rfl; exact rfl; (first | exact rfl | assumption))
        | (apply g_load_pts TY; exact rfl; (first | exact rfl | assumption); exact rfl; exact rfl; exact rfl; (first | assumption | exact rfl); exact rfl)
        | (apply g_not; exact rfl; (first | exact rfl | assumption); exact rfl; exact rfl)
        | (apply g_lss; exact rfl; (first | exact rfl | assumption); exact rfl; exact rfl; exact rfl)
        | (apply g_eql; exact rfl; (first | exact rfl | assumption); exact rfl; exact rfl; exact rfl)
        | (apply g_neq; exact rfl; (first | exact rfl | assumption); exact rfl; exact rfl; exact rfl)
        | (apply g_move_o; exact rfl; (first | exact rfl | assumption); exact rfl; exact rfl)
        | (apply g_move_x; exact rfl; (first | exact rfl | assumption); exact rfl; exact rfl)
        | (apply g_assign_x; exact rfl; (first | exact rfl | assumption); exact rfl; exact rfl)
        | (apply g_assign_o; exact rfl; (first | exact rfl | assumption); exact rfl; exact rfl)
        | (apply g_load_bx_f TY; exact rfl; (first | exact rfl | assumption); exact rfl; exact rfl; exact rfl; exact rfl; exact rfl)
        | (apply g_load_bx_x TY; exact rfl; (first | exact rfl | assumption); exact rfl; exact rfl; exact rfl; exact rfl; exact rfl)
        | (apply g_load_bx_o TY; exact rfl; (first | exact rfl | assumption); exact rfl; exact rfl; exact rfl; exact rfl; exact rfl)
        | (apply g_load_bxs TY; exact rfl; (first | exact rfl | assumption); exact rfl; exact rfl; exact rfl; exact rfl; exact rfl; exact rfl)
        | (apply g_load_row TY; exact rfl; (first | exact rfl | assumption); exact rfl; exact rfl; exact rfl; exact rfl; (first | exact rfl | assumption))
        | (apply g_pickT; exact rfl; (first | exact rfl | assumption); exact rfl; exact rfl; (first | exact rfl | assumption); exact rfl)
        | (apply g_pickF; exact rfl; (first | exact rfl | assumption); exact rfl; exact rfl; (first | exact rfl | assumption); exact rfl)
        | (apply g_call (awake_s); exact rfl; (first | exact rfl | assumption); exact rfl; exact rfl; exact rfl; exact rfl)
        | (apply g_call (HoleErr_s h); exact rfl; (first | exact rfl | assumption); exact rfl; exact rfl; exact rfl; exact rfl)
        | (apply g_call (Within_s _ _ _); exact rfl; (first | exact rfl | assumption); exact rfl; exact rfl; exact rfl; exact rfl)
        | (apply g_call (CopyHole_s h (by omega) (by omega)); exact rfl; (first | exact rfl | assumption); exact rfl; exact rfl; exact rfl; exact rfl)
        | (apply g_call (down_s h _ _ v); exact rfl; (first | exact rfl | assumption); exact rfl; exact rfl; exact rfl; exact rfl)
        | (apply g_call (L); exact rfl; (first | exact rfl | assumption); exact rfl; exact rfl; exact rfl; exact rfl)
        | (apply g_call (Q); exact rfl; (first | exact rfl | assumption); exact rfl; exact rfl; exact rfl; exact rfl)
        | (apply g_call (P); exact rfl; (first | exact rfl | assumption); exact rfl; exact rfl; exact rfl; exact rfl)
        | (apply g_add; exact rfl; (first | exact rfl | assumption); exact rfl; exact rfl; exact rfl; (omega))
        | (apply w_condT; exact rfl; (first | exact rfl | assumption))
        | (apply w_condF; exact rfl; (first | exact rfl | assumption)))
        exact lv_ret (ret1 rfl (res_tmp rfl))
      · have g7 : decide (paceTo h n h.widths.length = 1000000) = false := decide_eq_false hp
        have e2 := down_faster hp
        repeat (first
        | (apply s_move_f; exact rfl; exact rfl)
        | (apply s_assign_f; exact rfl; exact rfl)
        | (apply s_fld_pt TY; exact rfl; exact rfl; exact rfl)
        | (apply s_load_pt TY; exact rfl; exact rfl; exact rfl; (first | exact rfl | assumption))
        | (apply s_load_pts TY; exact rfl; exact rfl; exact rfl; (first | assumption | exact rfl); exact rfl)
        | (apply s_len TY; exact rfl; exact rfl; exact rfl)
        | (apply s_extract; exact rfl; exact rfl; exact rfl)
        | (apply s_box; exact rfl; exact rfl; exact rfl)
        | (apply s_not; exact rfl; exact rfl)
        | (apply s_lss; exact rfl; exact rfl; exact rfl)
        | (apply s_gtr; exact rfl; exact rfl; exact rfl)
        | (apply s_eql; exact rfl; exact rfl; exact rfl)
        | (apply s_neq; exact rfl; exact rfl; exact rfl)
        | (apply s_move_o; exact rfl; exact rfl)
        | (apply s_move_x; exact rfl; exact rfl)
        | (apply s_assign_x; exact rfl; exact rfl)
        | (apply s_assign_o; exact rfl; exact rfl)
        | (apply s_fld_bx TY; exact rfl; exact rfl; exact rfl)
        | (apply s_load_bx_f TY; exact rfl; exact rfl; exact rfl; exact rfl; exact rfl)
        | (apply s_load_bx_x TY; exact rfl; exact rfl; exact rfl; exact rfl; exact rfl)
        | (apply s_load_bx_o TY; exact rfl; exact rfl; exact rfl; exact rfl; exact rfl)
        | (apply s_load_bxs TY; exact rfl; exact rfl; exact rfl; exact rfl; exact rfl; exact rfl)
        | (apply s_load_row TY; exact rfl; exact rfl; exact rfl; exact rfl; (first | exact rfl | assumption))
        | (apply s_len_nil TY; exact rfl; exact rfl; exact rfl)
        | (apply s_len_ow TY; exact rfl; exact rfl; exact rfl; exact rfl)
        | (apply s_len_str TY; exact rfl; exact rfl; exact rfl)
        | (apply s_makefn; exact rfl; exact rfl)
        | (apply s_pickT; exact rfl; exact rfl; (first | exact rfl | assumption); exact rfl)
        | (apply s_pickF; exact rfl; exact rfl; (first | exact rfl | assumption); exact rfl)
        | apply w_seq
        | apply w_region
        | apply s_nil
        | apply t_norm
        | apply t_exit
        | apply t_ret
        | apply k_hit
        | (apply k_miss; exact rfl)
        | apply k_norm
        | apply k_ret
        | apply w_block
        | apply w_exit
        | apply w_ret
        | apply w_skip
        | (apply s_call (awake_s); exact rfl; exact rfl; exact rfl; exact rfl)
        | (apply s_call (HoleErr_s h); exact rfl; exact rfl; exact rfl; exact rfl)
        | (apply s_call (Within_s _ _ _); exact rfl; exact rfl; exact rfl; exact rfl)
        | (apply s_call (CopyHole_s h (by omega) (by omega)); exact rfl; exact rfl; exact rfl; exact rfl)
        | (apply s_call (down_s h _ _ v); exact rfl; exact rfl; exact rfl; exact rfl)
        | (apply s_call (L); exact rfl; exact rfl; exact rfl; exact rfl)
        | (apply s_call (Q); exact rfl; exact rfl; exact rfl; exact rfl)
        | (apply s_call (P); exact rfl; exact rfl; exact rfl; exact rfl)
        | (apply s_add; exact rfl; exact rfl; exact rfl; (omega))
        | (apply g_skip; exact rfl; (first | exact rfl | assumption); exact rfl)
        | (apply g_skipu; exact rfl; exact rfl; exact rfl)
        | (apply g_move_f; exact rfl; (first | exact rfl | assumption); exact rfl; exact rfl)
        | (apply g_assign_f; exact rfl; (first | exact rfl | assumption); exact rfl; exact rfl)
        | (apply g_load_pt TY; exact rfl; (first | exact rfl | assumption); exact rfl; exact rfl; exact rfl; (first | exact rfl | assumption))
        | (apply g_load_pts TY; exact rfl; (first | exact rfl | assumption); exact rfl; exact rfl; exact rfl; (first | assumption | exact rfl); exact rfl)
        | (apply g_not; exact rfl; (first | exact rfl | assumption); exact rfl; exact rfl)
        | (apply g_lss; exact rfl; (first | exact rfl | assumption); exact rfl; exact rfl; exact rfl)
        | (apply g_eql; exact rfl; (first | exact rfl | assumption); exact rfl; exact rfl; exact rfl)
        | (apply g_neq; exact rfl; (first | exact rfl | assumption); exact rfl; exact rfl; exact rfl)
        | (apply g_move_o; exact rfl; (first | exact rfl | assumption); exact rfl; exact rfl)
        | (apply g_move_x; exact rfl; (first | exact rfl | assumption); exact rfl; exact rfl)
        | (apply g_assign_x; exact rfl; (first | exact rfl | assumption); exact rfl; exact rfl)
        | (apply g_assign_o; exact rfl; (first | exact rfl | assumption); exact rfl; exact rfl)
        | (apply g_load_bx_f TY; exact rfl; (first | exact rfl | assumption); exact rfl; exact rfl; exact rfl; exact rfl; exact rfl)
        | (apply g_load_bx_x TY; exact rfl; (first | exact rfl | assumption); exact rfl; exact rfl; exact rfl; exact rfl; exact rfl)
        | (apply g_load_bx_o TY; exact rfl; (first | exact rfl | assumption); exact rfl; exact rfl; exact rfl; exact rfl; exact rfl)
        | (apply g_load_bxs TY; exact rfl; (first | exact rfl | assumption); exact rfl; exact rfl; exact rfl; exact rfl; exact rfl; exact rfl)
        | (apply g_load_row TY; exact rfl; (first | exact rfl | assumption); exact rfl; exact rfl; exact rfl; exact rfl; (first | exact rfl | assumption))
        | (apply g_pickT; exact rfl; (first | exact rfl | assumption); exact rfl; exact rfl; (first | exact rfl | assumption); exact rfl)
        | (apply g_pickF; exact rfl; (first | exact rfl | assumption); exact rfl; exact rfl; (first | exact rfl | assumption); exact rfl)
        | (apply g_call (awake_s); exact rfl; (first | exact rfl | assumption); exact rfl; exact rfl; exact rfl; exact rfl)
        | (apply g_call (HoleErr_s h); exact rfl; (first | exact rfl | assumption); exact rfl; exact rfl; exact rfl; exact rfl)
        | (apply g_call (Within_s _ _ _); exact rfl; (first | exact rfl | assumption); exact rfl; exact rfl; exact rfl; exact rfl)
        | (apply g_call (CopyHole_s h (by omega) (by omega)); exact rfl; (first | exact rfl | assumption); exact rfl; exact rfl; exact rfl; exact rfl)
        | (apply g_call (down_s h _ _ v); exact rfl; (first | exact rfl | assumption); exact rfl; exact rfl; exact rfl; exact rfl)
        | (apply g_call (L); exact rfl; (first | exact rfl | assumption); exact rfl; exact rfl; exact rfl; exact rfl)
        | (apply g_call (Q); exact rfl; (first | exact rfl | assumption); exact rfl; exact rfl; exact rfl; exact rfl)
        | (apply g_call (P); exact rfl; (first | exact rfl | assumption); exact rfl; exact rfl; exact rfl; exact rfl)
        | (apply g_add; exact rfl; (first | exact rfl | assumption); exact rfl; exact rfl; exact rfl; (omega))
        | (apply w_condT; exact rfl; (first | exact rfl | assumption))
        | (apply w_condF; exact rfl; (first | exact rfl | assumption)))
        exact lv_ret (ret1 rfl (res_tmp (avb (by rw [e2]; rfl))))
end Go.Proofs.YtienhiloecfgnaaDoor
namespace Go.Ab
open Go Go.RowKit Go.Shelf Go.Proofs
section
variable {C : Ctx} {N : Nat}
theorem run_idxA {P : Program} {T E b off n s : Nat} {k : IntKind} {z : Int} {i : TypeInfo} {w : World} (hu : P.underlying T = some (.array n E)) (hi : P.info? E = some i) (hs : i.size = s) (h0 : 0 ≤ z) (hn : z < n) :
    (Instr.indexAt T (.pointer (some ⟨b, off, none⟩)) (.int k z)).run P w = .ok (.pointer (some ⟨b, off + z.toNat * s, none⟩)) w := by
  subst hs
  simp [Instr.indexAt, asIntOf, run_underlying hu, h0, hn, sizeOf, typeInfo, hi, addr_add, Instr.sureAddr]
theorem v_idxA {o : Oper} {st : St} {T E n s q : Nat} {x y : Operand} {cs : List FV} {k : IntKind} {z : Int} {i : TypeInfo} (ho : o.op = .indexAddr T x y) (hd : dstB N o.dst = true) (hu : C.P.underlying T = some (.array n E)) (hi : C.P.info? E = some i) (hs : i.size = s)
    (hx : st.ev C x = .f (.pt cs q)) (hy : st.ev C y = .f (.v (.int k z))) (h0 : 0 ≤ z) (hn : z < n) : ValOp C N o st (.f (.pt cs (q + z.toNat * s))) :=
  valop_run hd fun w0 a w J st' hA S => by
    have e1 := evF S ((hA.ev x (by simp [ho, Op.operands])).trans hx)
    have e2 := evV S ((hA.ev y (by simp [ho, Op.operands])).trans hy)
    generalize hv : a.eval x = v at e1
    cases e1 with
    | pt b off _ _ us h1 h2 h3 h4 =>
      refine ⟨.pointer (some ⟨b, off + q + z.toNat * s, none⟩), w, by simp [execOp, ho, hv, e2, run_idxA hu hi hs h0 hn], Ext.refl _, ?_⟩
      rw [Nat.add_assoc]
      exact RepF.pt b off _ _ us h1 h2 h3 h4
variable {Q : Exit → St → Prop} {st : St} {ops : Array Oper} {pr : Bool} {K : St → Prop} {rest : List Oper}
theorem s_idxA {d : Option Tmp} {T0 : TypeId} {pos : String} {af : Array Edge} {T E n s q : Nat} {x y : Operand} {cs : List FV} {k : IntKind} {z : Int} {i : TypeInfo} (hu : C.P.underlying T = some (.array n E)) (hi : C.P.info? E = some i) (hs : i.size = s) (hd : dstB N d = true) (hx : st.ev C x = .f (.pt cs q)) (hy : st.ev C y = .f (.v (.int k z))) (h0 : 0 ≤ z) (hn : z < n) (h : R C N ops pr K rest (st.put d (.f (.pt cs (q + z.toNat * s))))) : R C N ops pr K (⟨d, .indexAddr T x y, T0, pos, af, none⟩ :: rest) st := ⟨r_val rfl (v_idxA rfl hd hu hi hs hx hy h0 hn) h.out⟩
end
end Go.Ab
