/- Laws on which the proofs of this seat stand. No condition. -/
import Derived.Test.YtienhiloecfgnaaDoorK5
namespace Go.Proofs.YtienhiloecfgnaaDoor
open Go Go.RowKit Go.Proofs Go.Shelf Go.Ab
theorem firstE_two (a b : Int) : firstE [a, b] = if a = 0 then b else a := by
  unfold firstE firstE
  by_cases h : a = 0
  · rw [if_pos h, if_pos h]; by_cases h2 : b = 0
    · rw [if_pos h2, h2]; rfl
    · rw [if_neg h2]
  · rw [if_neg h, if_neg h]
theorem layerAtE_bad {x : Grid} {c : Cel} (h : (checkIce x).2 ≠ 0) : layerAtE x c = (0, (checkIce x).2) := by
  have e : firstE [iceErrE x, cellErrE x c] = (checkIce x).2 := by rw [firstE_two, iceErrE, if_neg h]
  unfold layerAtE; rw [e, if_pos (by simpa using h)]
theorem layerAtE_cell {x : Grid} {c : Cel} (h : (checkIce x).2 = 0) (hc : cellErrE x c ≠ 0) : layerAtE x c = (0, cellErrE x c) := by
  have e : firstE [iceErrE x, cellErrE x c] = cellErrE x c := by rw [firstE_two, iceErrE, if_pos h]
  unfold layerAtE; rw [e, if_pos (by simpa using hc)]
theorem layerAtE_ok {x : Grid} {c : Cel} (h : (checkIce x).2 = 0) (hc : cellErrE x c = 0) : layerAtE x c = (layerI x c, 0) := by
  have e : firstE [iceErrE x, cellErrE x c] = 0 := by rw [firstE_two, iceErrE, if_pos h, hc]
  unfold layerAtE; rw [e, if_neg (by decide)]
theorem neq_self (a : Int) : (!decide (a = a)) = false := by simp
set_option maxRecDepth 100000 in
theorem IceGrids_s (x : Grid) (c : Cel) : Summ Tryd.prog GG 5 [gridF x, .agg (celF c)] (bv true) := by
  refine summW Tryd.func5 rfl rfl 65 rfl (by simp) (fun M0 => ?_)
  cases hf : fewB x with
  | false =>
    have g : (!fewB x) = true := by rw [hf]; rfl
    repeat (first
    | (apply s_move_f; exact rfl; exact rfl)
    | (apply s_assign_f; exact rfl; exact rfl)
    | (apply s_load_pt TY; exact rfl; exact rfl; exact rfl; (first | exact rfl | assumption))
    | (apply s_load_pts TY; exact rfl; exact rfl; exact rfl; (first | assumption | exact rfl); exact rfl)
    | (apply s_extract; exact rfl; exact rfl; exact rfl)
    | (apply s_box; exact rfl; exact rfl; exact rfl)
    | (apply s_not; exact rfl; exact rfl)
    | (apply s_eql; exact rfl; exact rfl; exact rfl)
    | (apply s_neq; exact rfl; exact rfl; exact rfl)
    | (apply s_move_o; exact rfl; exact rfl)
    | (apply s_move_x; exact rfl; exact rfl)
    | (apply s_assign_x; exact rfl; exact rfl)
    | (apply s_assign_o; exact rfl; exact rfl)
    | (apply s_load_bx_f TY; exact rfl; exact rfl; exact rfl; exact rfl; exact rfl)
    | (apply s_load_bx_x TY; exact rfl; exact rfl; exact rfl; exact rfl; exact rfl)
    | (apply s_load_bx_o TY; exact rfl; exact rfl; exact rfl; exact rfl; exact rfl)
    | (apply s_load_bxs TY; exact rfl; exact rfl; exact rfl; exact rfl; exact rfl; exact rfl)
    | (apply s_load_row TY; exact rfl; exact rfl; exact rfl; exact rfl; (first | exact rfl | assumption))
    | (apply s_makefn; exact rfl; exact rfl)
    | (apply s_pickT; exact rfl; exact rfl; (first | exact rfl | assumption); exact rfl)
    | (apply s_pickF; exact rfl; exact rfl; (first | exact rfl | assumption); exact rfl)
    | apply w_seq
    | apply w_region
    | apply s_nil
    | apply t_norm
    | apply t_exit
    | apply t_ret
    | apply k_hit
    | (apply k_miss; exact rfl)
    | apply k_norm
    | apply k_ret
    | apply w_block
    | apply w_exit
    | apply w_ret
    | apply w_skip
    | (apply s_call (awake_s); exact rfl; exact rfl; exact rfl; exact rfl)
    | (apply s_call (Few_s x); exact rfl; exact rfl; exact rfl; exact rfl)
    | (apply g_skip; exact rfl; (first | exact rfl | assumption); exact rfl)
    | (apply g_move_f; exact rfl; (first | exact rfl | assumption); exact rfl; exact rfl)
    | (apply g_assign_f; exact rfl; (first | exact rfl | assumption); exact rfl; exact rfl)
    | (apply g_load_pt TY; exact rfl; (first | exact rfl | assumption); exact rfl; exact rfl; exact rfl; (first | exact rfl | assumption))
    | (apply g_load_pts TY; exact rfl; (first | exact rfl | assumption); exact rfl; exact rfl; exact rfl; (first | assumption | exact rfl); exact rfl)
    | (apply g_eql; exact rfl; (first | exact rfl | assumption); exact rfl; exact rfl; exact rfl)
    | (apply g_neq; exact rfl; (first | exact rfl | assumption); exact rfl; exact rfl; exact rfl)
    | (apply g_move_o; exact rfl; (first | exact rfl | assumption); exact rfl; exact rfl)
    | (apply g_move_x; exact rfl; (first | exact rfl | assumption); exact rfl; exact rfl)
    | (apply g_assign_x; exact rfl; (first | exact rfl | assumption); exact rfl; exact rfl)
    | (apply g_assign_o; exact rfl; (first | exact rfl | assumption); exact rfl; exact rfl)
    | (apply g_load_bx_f TY; exact rfl; (first | exact rfl | assumption); exact rfl; exact rfl; exact rfl; exact rfl; exact rfl)
    | (apply g_load_bx_x TY; exact rfl; (first | exact rfl | assumption); exact rfl; exact rfl; exact rfl; exact rfl; exact rfl)
    | (apply g_load_bx_o TY; exact rfl; (first | exact rfl | assumption); exact rfl; exact rfl; exact rfl; exact rfl; exact rfl)
    | (apply g_load_bxs TY; exact rfl; (first | exact rfl | assumption); exact rfl; exact rfl; exact rfl; exact rfl; exact rfl; exact rfl)
    | (apply g_load_row TY; exact rfl; (first | exact rfl | assumption); exact rfl; exact rfl; exact rfl; exact rfl; (first | exact rfl | assumption))
    | (apply g_call (awake_s); exact rfl; (first | exact rfl | assumption); exact rfl; exact rfl; exact rfl; exact rfl)
    | (apply g_call (Few_s x); exact rfl; (first | exact rfl | assumption); exact rfl; exact rfl; exact rfl; exact rfl)
    | (apply w_condT; exact rfl; (first | exact rfl | assumption))
    | (apply w_condF; exact rfl; (first | exact rfl | assumption)))
    exact lv_ret (ret1 rfl (res_tmp rfl))
  | true =>
  have g : (!fewB x) = false := by rw [hf]; rfl
  obtain ⟨f1, f2⟩ := fewB_true hf
  have n1 := neq_self (checkIce x).1
  have n2 := neq_self (checkIce x).2
  by_cases h : (checkIce x).2 = 0
  · have v : Valid x := (checkIce_zero x).1 h
    have d1 : decide ((checkIce x).2 = 0) = true := by simpa using h
    by_cases hc : cellErrE x c = 0
    · have hi : InG x c := (cellB_in v).1 ((unlessE_zero (by decide)).1 hc)
      have e := layerAtE_ok h hc
      have d2 : (!decide (cellErrE x c = 0)) = false := by simp [hc]
      have d3 : decide ((layerAtE x c).2 = 0) = true := by rw [e]; rfl
      repeat (first
    | (apply s_move_f; exact rfl; exact rfl)
    | (apply s_assign_f; exact rfl; exact rfl)
    | (apply s_load_pt TY; exact rfl; exact rfl; exact rfl; (first | exact rfl | assumption))
    | (apply s_load_pts TY; exact rfl; exact rfl; exact rfl; (first | assumption | exact rfl); exact rfl)
    | (apply s_extract; exact rfl; exact rfl; exact rfl)
    | (apply s_box; exact rfl; exact rfl; exact rfl)
    | (apply s_not; exact rfl; exact rfl)
    | (apply s_eql; exact rfl; exact rfl; exact rfl)
    | (apply s_neq; exact rfl; exact rfl; exact rfl)
    | (apply s_move_o; exact rfl; exact rfl)
    | (apply s_move_x; exact rfl; exact rfl)
    | (apply s_assign_x; exact rfl; exact rfl)
    | (apply s_assign_o; exact rfl; exact rfl)
    | (apply s_load_bx_f TY; exact rfl; exact rfl; exact rfl; exact rfl; exact rfl)
    | (apply s_load_bx_x TY; exact rfl; exact rfl; exact rfl; exact rfl; exact rfl)
    | (apply s_load_bx_o TY; exact rfl; exact rfl; exact rfl; exact rfl; exact rfl)
    | (apply s_load_bxs TY; exact rfl; exact rfl; exact rfl; exact rfl; exact rfl; exact rfl)
    | (apply s_load_row TY; exact rfl; exact rfl; exact rfl; exact rfl; (first | exact rfl | assumption))
    | (apply s_makefn; exact rfl; exact rfl)
    | (apply s_pickT; exact rfl; exact rfl; (first | exact rfl | assumption); exact rfl)
    | (apply s_pickF; exact rfl; exact rfl; (first | exact rfl | assumption); exact rfl)
    | apply w_seq
    | apply w_region
    | apply s_nil
    | apply t_norm
    | apply t_exit
    | apply t_ret
    | apply k_hit
    | (apply k_miss; exact rfl)
    | apply k_norm
    | apply k_ret
    | apply w_block
    | apply w_exit
    | apply w_ret
    | apply w_skip
    | (apply s_call (awake_s); exact rfl; exact rfl; exact rfl; exact rfl)
    | (apply s_call (Few_s x); exact rfl; exact rfl; exact rfl; exact rfl)
    | (apply s_call (CopyIce_s x (by omega) (by omega)); exact rfl; exact rfl; exact rfl; exact rfl)
    | (apply s_call (CheckIce_s x ⟨by omega, by omega⟩); exact rfl; exact rfl; exact rfl; exact rfl)
    | (apply s_call (LayerAt_s x c ⟨by omega, by omega⟩); exact rfl; exact rfl; exact rfl; exact rfl)
    | (apply s_call (refCheckIce_s x); exact rfl; exact rfl; exact rfl; exact rfl)
    | (apply g_skip; exact rfl; (first | exact rfl | assumption); exact rfl)
    | (apply g_move_f; exact rfl; (first | exact rfl | assumption); exact rfl; exact rfl)
    | (apply g_assign_f; exact rfl; (first | exact rfl | assumption); exact rfl; exact rfl)
    | (apply g_load_pt TY; exact rfl; (first | exact rfl | assumption); exact rfl; exact rfl; exact rfl; (first | exact rfl | assumption))
    | (apply g_load_pts TY; exact rfl; (first | exact rfl | assumption); exact rfl; exact rfl; exact rfl; (first | assumption | exact rfl); exact rfl)
    | (apply g_eql; exact rfl; (first | exact rfl | assumption); exact rfl; exact rfl; exact rfl)
    | (apply g_neq; exact rfl; (first | exact rfl | assumption); exact rfl; exact rfl; exact rfl)
    | (apply g_move_o; exact rfl; (first | exact rfl | assumption); exact rfl; exact rfl)
    | (apply g_move_x; exact rfl; (first | exact rfl | assumption); exact rfl; exact rfl)
    | (apply g_assign_x; exact rfl; (first | exact rfl | assumption); exact rfl; exact rfl)
    | (apply g_assign_o; exact rfl; (first | exact rfl | assumption); exact rfl; exact rfl)
    | (apply g_load_bx_f TY; exact rfl; (first | exact rfl | assumption); exact rfl; exact rfl; exact rfl; exact rfl; exact rfl)
    | (apply g_load_bx_x TY; exact rfl; (first | exact rfl | assumption); exact rfl; exact rfl; exact rfl; exact rfl; exact rfl)
    | (apply g_load_bx_o TY; exact rfl; (first | exact rfl | assumption); exact rfl; exact rfl; exact rfl; exact rfl; exact rfl)
    | (apply g_load_bxs TY; exact rfl; (first | exact rfl | assumption); exact rfl; exact rfl; exact rfl; exact rfl; exact rfl; exact rfl)
    | (apply g_load_row TY; exact rfl; (first | exact rfl | assumption); exact rfl; exact rfl; exact rfl; exact rfl; (first | exact rfl | assumption))
    | (apply g_call (awake_s); exact rfl; (first | exact rfl | assumption); exact rfl; exact rfl; exact rfl; exact rfl)
    | (apply g_call (Few_s x); exact rfl; (first | exact rfl | assumption); exact rfl; exact rfl; exact rfl; exact rfl)
    | (apply g_call (CopyIce_s x (by omega) (by omega)); exact rfl; (first | exact rfl | assumption); exact rfl; exact rfl; exact rfl; exact rfl)
    | (apply g_call (CheckIce_s x ⟨by omega, by omega⟩); exact rfl; (first | exact rfl | assumption); exact rfl; exact rfl; exact rfl; exact rfl)
    | (apply g_call (LayerAt_s x c ⟨by omega, by omega⟩); exact rfl; (first | exact rfl | assumption); exact rfl; exact rfl; exact rfl; exact rfl)
    | (apply g_call (refCheckIce_s x); exact rfl; (first | exact rfl | assumption); exact rfl; exact rfl; exact rfl; exact rfl)
    | (apply w_condT; exact rfl; (first | exact rfl | assumption))
    | (apply w_condF; exact rfl; (first | exact rfl | assumption)))
      apply w_draw 8 rfl (by kernel_rfl)
      repeat (first
    | (apply s_move_f; exact rfl; exact rfl)
    | (apply s_assign_f; exact rfl; exact rfl)
    | (apply s_load_pt TY; exact rfl; exact rfl; exact rfl; (first | exact rfl | assumption))
    | (apply s_load_pts TY; exact rfl; exact rfl; exact rfl; (first | assumption | exact rfl); exact rfl)
    | (apply s_extract; exact rfl; exact rfl; exact rfl)
    | (apply s_box; exact rfl; exact rfl; exact rfl)
    | (apply s_not; exact rfl; exact rfl)
    | (apply s_eql; exact rfl; exact rfl; exact rfl)
    | (apply s_neq; exact rfl; exact rfl; exact rfl)
    | (apply s_move_o; exact rfl; exact rfl)
    | (apply s_move_x; exact rfl; exact rfl)
    | (apply s_assign_x; exact rfl; exact rfl)
    | (apply s_assign_o; exact rfl; exact rfl)
    | (apply s_load_bx_f TY; exact rfl; exact rfl; exact rfl; exact rfl; exact rfl)
    | (apply s_load_bx_x TY; exact rfl; exact rfl; exact rfl; exact rfl; exact rfl)
    | (apply s_load_bx_o TY; exact rfl; exact rfl; exact rfl; exact rfl; exact rfl)
    | (apply s_load_bxs TY; exact rfl; exact rfl; exact rfl; exact rfl; exact rfl; exact rfl)
    | (apply s_load_row TY; exact rfl; exact rfl; exact rfl; exact rfl; (first | exact rfl | assumption))
    | (apply s_makefn; exact rfl; exact rfl)
    | (apply s_pickT; exact rfl; exact rfl; (first | exact rfl | assumption); exact rfl)
    | (apply s_pickF; exact rfl; exact rfl; (first | exact rfl | assumption); exact rfl)
    | apply w_seq
    | apply w_region
    | apply s_nil
    | apply t_norm
    | apply t_exit
    | apply t_ret
    | apply k_hit
    | (apply k_miss; exact rfl)
    | apply k_norm
    | apply k_ret
    | apply w_block
    | apply w_exit
    | apply w_ret
    | apply w_skip
    | (apply s_call (awake_s); exact rfl; exact rfl; exact rfl; exact rfl)
    | (apply s_call (Few_s x); exact rfl; exact rfl; exact rfl; exact rfl)
    | (apply s_call (CopyIce_s x (by omega) (by omega)); exact rfl; exact rfl; exact rfl; exact rfl)
    | (apply s_call (CheckIce_s x ⟨by omega, by omega⟩); exact rfl; exact rfl; exact rfl; exact rfl)
    | (apply s_call (LayerAt_s x c ⟨by omega, by omega⟩); exact rfl; exact rfl; exact rfl; exact rfl)
    | (apply s_call (refCheckIce_s x); exact rfl; exact rfl; exact rfl; exact rfl)
    | (apply s_call (CellErr_s x c v); exact rfl; exact rfl; exact rfl; exact rfl)
    | (apply s_call (Layer_s x c v hi); exact rfl; exact rfl; exact rfl; exact rfl)
    | (apply g_skip; exact rfl; (first | exact rfl | assumption); exact rfl)
    | (apply g_move_f; exact rfl; (first | exact rfl | assumption); exact rfl; exact rfl)
    | (apply g_assign_f; exact rfl; (first | exact rfl | assumption); exact rfl; exact rfl)
    | (apply g_load_pt TY; exact rfl; (first | exact rfl | assumption); exact rfl; exact rfl; exact rfl; (first | exact rfl | assumption))
    | (apply g_load_pts TY; exact rfl; (first | exact rfl | assumption); exact rfl; exact rfl; exact rfl; (first | assumption | exact rfl); exact rfl)
    | (apply g_eql; exact rfl; (first | exact rfl | assumption); exact rfl; exact rfl; exact rfl)
    | (apply g_neq; exact rfl; (first | exact rfl | assumption); exact rfl; exact rfl; exact rfl)
    | (apply g_move_o; exact rfl; (first | exact rfl | assumption); exact rfl; exact rfl)
    | (apply g_move_x; exact rfl; (first | exact rfl | assumption); exact rfl; exact rfl)
    | (apply g_assign_x; exact rfl; (first | exact rfl | assumption); exact rfl; exact rfl)
    | (apply g_assign_o; exact rfl; (first | exact rfl | assumption); exact rfl; exact rfl)
    | (apply g_load_bx_f TY; exact rfl; (first | exact rfl | assumption); exact rfl; exact rfl; exact rfl; exact rfl; exact rfl)
    | (apply g_load_bx_x TY; exact rfl; (first | exact rfl | assumption); exact rfl; exact rfl; exact rfl; exact rfl; exact rfl)
    | (apply g_load_bx_o TY; exact rfl; (first | exact rfl | assumption); exact rfl; exact rfl; exact rfl; exact rfl; exact rfl)
    | (apply g_load_bxs TY; exact rfl; (first | exact rfl | assumption); exact rfl; exact rfl; exact rfl; exact rfl; exact rfl; exact rfl)
    | (apply g_load_row TY; exact rfl; (first | exact rfl | assumption); exact rfl; exact rfl; exact rfl; exact rfl; (first | exact rfl | assumption))
    | (apply g_call (awake_s); exact rfl; (first | exact rfl | assumption); exact rfl; exact rfl; exact rfl; exact rfl)
    | (apply g_call (Few_s x); exact rfl; (first | exact rfl | assumption); exact rfl; exact rfl; exact rfl; exact rfl)
    | (apply g_call (CopyIce_s x (by omega) (by omega)); exact rfl; (first | exact rfl | assumption); exact rfl; exact rfl; exact rfl; exact rfl)
    | (apply g_call (CheckIce_s x ⟨by omega, by omega⟩); exact rfl; (first | exact rfl | assumption); exact rfl; exact rfl; exact rfl; exact rfl)
    | (apply g_call (LayerAt_s x c ⟨by omega, by omega⟩); exact rfl; (first | exact rfl | assumption); exact rfl; exact rfl; exact rfl; exact rfl)
    | (apply g_call (refCheckIce_s x); exact rfl; (first | exact rfl | assumption); exact rfl; exact rfl; exact rfl; exact rfl)
    | (apply g_call (CellErr_s x c v); exact rfl; (first | exact rfl | assumption); exact rfl; exact rfl; exact rfl; exact rfl)
    | (apply g_call (Layer_s x c v hi); exact rfl; (first | exact rfl | assumption); exact rfl; exact rfl; exact rfl; exact rfl)
    | (apply w_condT; exact rfl; (first | exact rfl | assumption))
    | (apply w_condF; exact rfl; (first | exact rfl | assumption)))
      exact lv_ret (ret1 rfl (res_tmp (avb (by rw [e]; simp))))
    · have e := layerAtE_cell h hc
      have d2 : (!decide (cellErrE x c = 0)) = true := by simp [hc]
      have d3 : decide ((layerAtE x c).2 = cellErrE x c) = true := by rw [e]; simp
      repeat (first
    | (apply s_move_f; exact rfl; exact rfl)
    | (apply s_assign_f; exact rfl; exact rfl)
    | (apply s_load_pt TY; exact rfl; exact rfl; exact rfl; (first | exact rfl | assumption))
    | (apply s_load_pts TY; exact rfl; exact rfl; exact rfl; (first | assumption | exact rfl); exact rfl)
    | (apply s_extract; exact rfl; exact rfl; exact rfl)
    | (apply s_box; exact rfl; exact rfl; exact rfl)
    | (apply s_not; exact rfl; exact rfl)
    | (apply s_eql; exact rfl; exact rfl; exact rfl)
    | (apply s_neq; exact rfl; exact rfl; exact rfl)
    | (apply s_move_o; exact rfl; exact rfl)
    | (apply s_move_x; exact rfl; exact rfl)
    | (apply s_assign_x; exact rfl; exact rfl)
    | (apply s_assign_o; exact rfl; exact rfl)
    | (apply s_load_bx_f TY; exact rfl; exact rfl; exact rfl; exact rfl; exact rfl)
    | (apply s_load_bx_x TY; exact rfl; exact rfl; exact rfl; exact rfl; exact rfl)
    | (apply s_load_bx_o TY; exact rfl; exact rfl; exact rfl; exact rfl; exact rfl)
    | (apply s_load_bxs TY; exact rfl; exact rfl; exact rfl; exact rfl; exact rfl; exact rfl)
    | (apply s_load_row TY; exact rfl; exact rfl; exact rfl; exact rfl; (first | exact rfl | assumption))
    | (apply s_makefn; exact rfl; exact rfl)
    | (apply s_pickT; exact rfl; exact rfl; (first | exact rfl | assumption); exact rfl)
    | (apply s_pickF; exact rfl; exact rfl; (first | exact rfl | assumption); exact rfl)
    | apply w_seq
    | apply w_region
    | apply s_nil
    | apply t_norm
    | apply t_exit
    | apply t_ret
    | apply k_hit
    | (apply k_miss; exact rfl)
    | apply k_norm
    | apply k_ret
    | apply w_block
    | apply w_exit
    | apply w_ret
    | apply w_skip
    | (apply s_call (awake_s); exact rfl; exact rfl; exact rfl; exact rfl)
    | (apply s_call (Few_s x); exact rfl; exact rfl; exact rfl; exact rfl)
    | (apply s_call (CopyIce_s x (by omega) (by omega)); exact rfl; exact rfl; exact rfl; exact rfl)
    | (apply s_call (CheckIce_s x ⟨by omega, by omega⟩); exact rfl; exact rfl; exact rfl; exact rfl)
    | (apply s_call (LayerAt_s x c ⟨by omega, by omega⟩); exact rfl; exact rfl; exact rfl; exact rfl)
    | (apply s_call (refCheckIce_s x); exact rfl; exact rfl; exact rfl; exact rfl)
    | (apply g_skip; exact rfl; (first | exact rfl | assumption); exact rfl)
    | (apply g_move_f; exact rfl; (first | exact rfl | assumption); exact rfl; exact rfl)
    | (apply g_assign_f; exact rfl; (first | exact rfl | assumption); exact rfl; exact rfl)
    | (apply g_load_pt TY; exact rfl; (first | exact rfl | assumption); exact rfl; exact rfl; exact rfl; (first | exact rfl | assumption))
    | (apply g_load_pts TY; exact rfl; (first | exact rfl | assumption); exact rfl; exact rfl; exact rfl; (first | assumption | exact rfl); exact rfl)
    | (apply g_eql; exact rfl; (first | exact rfl | assumption); exact rfl; exact rfl; exact rfl)
    | (apply g_neq; exact rfl; (first | exact rfl | assumption); exact rfl; exact rfl; exact rfl)
    | (apply g_move_o; exact rfl; (first | exact rfl | assumption); exact rfl; exact rfl)
    | (apply g_move_x; exact rfl; (first | exact rfl | assumption); exact rfl; exact rfl)
    | (apply g_assign_x; exact rfl; (first | exact rfl | assumption); exact rfl; exact rfl)
    | (apply g_assign_o; exact rfl; (first | exact rfl | assumption); exact rfl; exact rfl)
    | (apply g_load_bx_f TY; exact rfl; (first | exact rfl | assumption); exact rfl; exact rfl; exact rfl; exact rfl; exact rfl)
    | (apply g_load_bx_x TY; exact rfl; (first | exact rfl | assumption); exact rfl; exact rfl; exact rfl; exact rfl; exact rfl)
    | (apply g_load_bx_o TY; exact rfl; (first | exact rfl | assumption); exact rfl; exact rfl; exact rfl; exact rfl; exact rfl)
    | (apply g_load_bxs TY; exact rfl; (first | exact rfl | assumption); exact rfl; exact rfl; exact rfl; exact rfl; exact rfl; exact rfl)
    | (apply g_load_row TY; exact rfl; (first | exact rfl | assumption); exact rfl; exact rfl; exact rfl; exact rfl; (first | exact rfl | assumption))
    | (apply g_call (awake_s); exact rfl; (first | exact rfl | assumption); exact rfl; exact rfl; exact rfl; exact rfl)
    | (apply g_call (Few_s x); exact rfl; (first | exact rfl | assumption); exact rfl; exact rfl; exact rfl; exact rfl)
    | (apply g_call (CopyIce_s x (by omega) (by omega)); exact rfl; (first | exact rfl | assumption); exact rfl; exact rfl; exact rfl; exact rfl)
    | (apply g_call (CheckIce_s x ⟨by omega, by omega⟩); exact rfl; (first | exact rfl | assumption); exact rfl; exact rfl; exact rfl; exact rfl)
    | (apply g_call (LayerAt_s x c ⟨by omega, by omega⟩); exact rfl; (first | exact rfl | assumption); exact rfl; exact rfl; exact rfl; exact rfl)
    | (apply g_call (refCheckIce_s x); exact rfl; (first | exact rfl | assumption); exact rfl; exact rfl; exact rfl; exact rfl)
    | (apply w_condT; exact rfl; (first | exact rfl | assumption))
    | (apply w_condF; exact rfl; (first | exact rfl | assumption)))
      apply w_draw 8 rfl (by kernel_rfl)
      repeat (first
    | (apply s_move_f; exact rfl; exact rfl)
    | (apply s_assign_f; exact rfl; exact rfl)
    | (apply s_load_pt TY; exact rfl; exact rfl; exact rfl; (first | exact rfl | assumption))
    | (apply s_load_pts TY; exact rfl; exact rfl; exact rfl; (first | assumption | exact rfl); exact rfl)
    | (apply s_extract; exact rfl; exact rfl; exact rfl)
    | (apply s_box; exact rfl; exact rfl; exact rfl)
    | (apply s_not; exact rfl; exact rfl)
    | (apply s_eql; exact rfl; exact rfl; exact rfl)
    | (apply s_neq; exact rfl; exact rfl; exact rfl)
    | (apply s_move_o; exact rfl; exact rfl)
    | (apply s_move_x; exact rfl; exact rfl)
    | (apply s_assign_x; exact rfl; exact rfl)
    | (apply s_assign_o; exact rfl; exact rfl)
    | (apply s_load_bx_f TY; exact rfl; exact rfl; exact rfl; exact rfl; exact rfl)
    | (apply s_load_bx_x TY; exact rfl; exact rfl; exact rfl; exact rfl; exact rfl)
    | (apply s_load_bx_o TY; exact rfl; exact rfl; exact rfl; exact rfl; exact rfl)
    | (apply s_load_bxs TY; exact rfl; exact rfl; exact rfl; exact rfl; exact rfl; exact rfl)
    | (apply s_load_row TY; exact rfl; exact rfl; exact rfl; exact rfl; (first | exact rfl | assumption))
    | (apply s_makefn; exact rfl; exact rfl)
    | (apply s_pickT; exact rfl; exact rfl; (first | exact rfl | assumption); exact rfl)
    | (apply s_pickF; exact rfl; exact rfl; (first | exact rfl | assumption); exact rfl)
    | apply w_seq
    | apply w_region
    | apply s_nil
    | apply t_norm
    | apply t_exit
    | apply t_ret
    | apply k_hit
    | (apply k_miss; exact rfl)
    | apply k_norm
    | apply k_ret
    | apply w_block
    | apply w_exit
    | apply w_ret
    | apply w_skip
    | (apply s_call (awake_s); exact rfl; exact rfl; exact rfl; exact rfl)
    | (apply s_call (Few_s x); exact rfl; exact rfl; exact rfl; exact rfl)
    | (apply s_call (CopyIce_s x (by omega) (by omega)); exact rfl; exact rfl; exact rfl; exact rfl)
    | (apply s_call (CheckIce_s x ⟨by omega, by omega⟩); exact rfl; exact rfl; exact rfl; exact rfl)
    | (apply s_call (LayerAt_s x c ⟨by omega, by omega⟩); exact rfl; exact rfl; exact rfl; exact rfl)
    | (apply s_call (refCheckIce_s x); exact rfl; exact rfl; exact rfl; exact rfl)
    | (apply s_call (CellErr_s x c v); exact rfl; exact rfl; exact rfl; exact rfl)
    | (apply g_skip; exact rfl; (first | exact rfl | assumption); exact rfl)
    | (apply g_move_f; exact rfl; (first | exact rfl | assumption); exact rfl; exact rfl)
    | (apply g_assign_f; exact rfl; (first | exact rfl | assumption); exact rfl; exact rfl)
    | (apply g_load_pt TY; exact rfl; (first | exact rfl | assumption); exact rfl; exact rfl; exact rfl; (first | exact rfl | assumption))
    | (apply g_load_pts TY; exact rfl; (first | exact rfl | assumption); exact rfl; exact rfl; exact rfl; (first | assumption | exact rfl); exact rfl)
    | (apply g_eql; exact rfl; (first | exact rfl | assumption); exact rfl; exact rfl; exact rfl)
    | (apply g_neq; exact rfl; (first | exact rfl | assumption); exact rfl; exact rfl; exact rfl)
    | (apply g_move_o; exact rfl; (first | exact rfl | assumption); exact rfl; exact rfl)
    | (apply g_move_x; exact rfl; (first | exact rfl | assumption); exact rfl; exact rfl)
    | (apply g_assign_x; exact rfl; (first | exact rfl | assumption); exact rfl; exact rfl)
    | (apply g_assign_o; exact rfl; (first | exact rfl | assumption); exact rfl; exact rfl)
    | (apply g_load_bx_f TY; exact rfl; (first | exact rfl | assumption); exact rfl; exact rfl; exact rfl; exact rfl; exact rfl)
    | (apply g_load_bx_x TY; exact rfl; (first | exact rfl | assumption); exact rfl; exact rfl; exact rfl; exact rfl; exact rfl)
    | (apply g_load_bx_o TY; exact rfl; (first | exact rfl | assumption); exact rfl; exact rfl; exact rfl; exact rfl; exact rfl)
    | (apply g_load_bxs TY; exact rfl; (first | exact rfl | assumption); exact rfl; exact rfl; exact rfl; exact rfl; exact rfl; exact rfl)
    | (apply g_load_row TY; exact rfl; (first | exact rfl | assumption); exact rfl; exact rfl; exact rfl; exact rfl; (first | exact rfl | assumption))
    | (apply g_call (awake_s); exact rfl; (first | exact rfl | assumption); exact rfl; exact rfl; exact rfl; exact rfl)
    | (apply g_call (Few_s x); exact rfl; (first | exact rfl | assumption); exact rfl; exact rfl; exact rfl; exact rfl)
    | (apply g_call (CopyIce_s x (by omega) (by omega)); exact rfl; (first | exact rfl | assumption); exact rfl; exact rfl; exact rfl; exact rfl)
    | (apply g_call (CheckIce_s x ⟨by omega, by omega⟩); exact rfl; (first | exact rfl | assumption); exact rfl; exact rfl; exact rfl; exact rfl)
    | (apply g_call (LayerAt_s x c ⟨by omega, by omega⟩); exact rfl; (first | exact rfl | assumption); exact rfl; exact rfl; exact rfl; exact rfl)
    | (apply g_call (refCheckIce_s x); exact rfl; (first | exact rfl | assumption); exact rfl; exact rfl; exact rfl; exact rfl)
    | (apply g_call (CellErr_s x c v); exact rfl; (first | exact rfl | assumption); exact rfl; exact rfl; exact rfl; exact rfl)
    | (apply w_condT; exact rfl; (first | exact rfl | assumption))
    | (apply w_condF; exact rfl; (first | exact rfl | assumption)))
      exact lv_ret (ret1 rfl (res_tmp (avb (by rw [e]; simp))))
  · have e := layerAtE_bad (c := c) h
    have d1 : decide ((checkIce x).2 = 0) = false := by simpa using h
    have d2 : (!decide ((checkIce x).2 = 0)) = true := by simp [h]
    have d3 : decide ((layerAtE x c).2 = (checkIce x).2) = true := by rw [e]; simp
    repeat (first
    | (apply s_move_f; exact rfl; exact rfl)
    | (apply s_assign_f; exact rfl; exact rfl)
    | (apply s_load_pt TY; exact rfl; exact rfl; exact rfl; (first | exact rfl | assumption))
    | (apply s_load_pts TY; exact rfl; exact rfl; exact rfl; (first | assumption | exact rfl); exact rfl)
    | (apply s_extract; exact rfl; exact rfl; exact rfl)
    | (apply s_box; exact rfl; exact rfl; exact rfl)
    | (apply s_not; exact rfl; exact rfl)
    | (apply s_eql; exact rfl; exact rfl; exact rfl)
    | (apply s_neq; exact rfl; exact rfl; exact rfl)
    | (apply s_move_o; exact rfl; exact rfl)
    | (apply s_move_x; exact rfl; exact rfl)
    | (apply s_assign_x; exact rfl; exact rfl)
    | (apply s_assign_o; exact rfl; exact rfl)
    | (apply s_load_bx_f TY; exact rfl; exact rfl; exact rfl; exact rfl; exact rfl)
    | (apply s_load_bx_x TY; exact rfl; exact rfl; exact rfl; exact rfl; exact rfl)
    | (apply s_load_bx_o TY; exact rfl; exact rfl; exact rfl; exact rfl; exact rfl)
    | (apply s_load_bxs TY; exact rfl; exact rfl; exact rfl; exact rfl; exact rfl; exact rfl)
    | (apply s_load_row TY; exact rfl; exact rfl; exact rfl; exact rfl; (first | exact rfl | assumption))
    | (apply s_makefn; exact rfl; exact rfl)
    | (apply s_pickT; exact rfl; exact rfl; (first | exact rfl | assumption); exact rfl)
    | (apply s_pickF; exact rfl; exact rfl; (first | exact rfl | assumption); exact rfl)
    | apply w_seq
    | apply w_region
    | apply s_nil
    | apply t_norm
    | apply t_exit
    | apply t_ret
    | apply k_hit
    | (apply k_miss; exact rfl)
    | apply k_norm
    | apply k_ret
    | apply w_block
    | apply w_exit
    | apply w_ret
    | apply w_skip
    | (apply s_call (awake_s); exact rfl; exact rfl; exact rfl; exact rfl)
    | (apply s_call (Few_s x); exact rfl; exact rfl; exact rfl; exact rfl)
    | (apply s_call (CopyIce_s x (by omega) (by omega)); exact rfl; exact rfl; exact rfl; exact rfl)
    | (apply s_call (CheckIce_s x ⟨by omega, by omega⟩); exact rfl; exact rfl; exact rfl; exact rfl)
    | (apply s_call (LayerAt_s x c ⟨by omega, by omega⟩); exact rfl; exact rfl; exact rfl; exact rfl)
    | (apply s_call (refCheckIce_s x); exact rfl; exact rfl; exact rfl; exact rfl)
    | (apply g_skip; exact rfl; (first | exact rfl | assumption); exact rfl)
    | (apply g_move_f; exact rfl; (first | exact rfl | assumption); exact rfl; exact rfl)
    | (apply g_assign_f; exact rfl; (first | exact rfl | assumption); exact rfl; exact rfl)
    | (apply g_load_pt TY; exact rfl; (first | exact rfl | assumption); exact rfl; exact rfl; exact rfl; (first | exact rfl | assumption))
    | (apply g_load_pts TY; exact rfl; (first | exact rfl | assumption); exact rfl; exact rfl; exact rfl; (first | assumption | exact rfl); exact rfl)
    | (apply g_eql; exact rfl; (first | exact rfl | assumption); exact rfl; exact rfl; exact rfl)
    | (apply g_neq; exact rfl; (first | exact rfl | assumption); exact rfl; exact rfl; exact rfl)
    | (apply g_move_o; exact rfl; (first | exact rfl | assumption); exact rfl; exact rfl)
    | (apply g_move_x; exact rfl; (first | exact rfl | assumption); exact rfl; exact rfl)
    | (apply g_assign_x; exact rfl; (first | exact rfl | assumption); exact rfl; exact rfl)
    | (apply g_assign_o; exact rfl; (first | exact rfl | assumption); exact rfl; exact rfl)
    | (apply g_load_bx_f TY; exact rfl; (first | exact rfl | assumption); exact rfl; exact rfl; exact rfl; exact rfl; exact rfl)
    | (apply g_load_bx_x TY; exact rfl; (first | exact rfl | assumption); exact rfl; exact rfl; exact rfl; exact rfl; exact rfl)
    | (apply g_load_bx_o TY; exact rfl; (first | exact rfl | assumption); exact rfl; exact rfl; exact rfl; exact rfl; exact rfl)
    | (apply g_load_bxs TY; exact rfl; (first | exact rfl | assumption); exact rfl; exact rfl; exact rfl; exact rfl; exact rfl; exact rfl)
    | (apply g_load_row TY; exact rfl; (first | exact rfl | assumption); exact rfl; exact rfl; exact rfl; exact rfl; (first | exact rfl | assumption))
    | (apply g_call (awake_s); exact rfl; (first | exact rfl | assumption); exact rfl; exact rfl; exact rfl; exact rfl)
    | (apply g_call (Few_s x); exact rfl; (first | exact rfl | assumption); exact rfl; exact rfl; exact rfl; exact rfl)
    | (apply g_call (CopyIce_s x (by omega) (by omega)); exact rfl; (first | exact rfl | assumption); exact rfl; exact rfl; exact rfl; exact rfl)
    | (apply g_call (CheckIce_s x ⟨by omega, by omega⟩); exact rfl; (first | exact rfl | assumption); exact rfl; exact rfl; exact rfl; exact rfl)
    | (apply g_call (LayerAt_s x c ⟨by omega, by omega⟩); exact rfl; (first | exact rfl | assumption); exact rfl; exact rfl; exact rfl; exact rfl)
    | (apply g_call (refCheckIce_s x); exact rfl; (first | exact rfl | assumption); exact rfl; exact rfl; exact rfl; exact rfl)
    | (apply w_condT; exact rfl; (first | exact rfl | assumption))
    | (apply w_condF; exact rfl; (first | exact rfl | assumption)))
    apply w_draw 8 rfl (by kernel_rfl)
    repeat (first
    | (apply s_move_f; exact rfl; exact rfl)
    | (apply s_assign_f; exact rfl; exact rfl)
    | (apply s_load_pt TY; exact rfl; exact rfl; exact rfl; (first | exact rfl | assumption))
    | (apply s_load_pts TY; exact rfl; exact rfl; exact rfl; (first | assumption | exact rfl); exact rfl)
    | (apply s_extract; exact rfl; exact rfl; exact rfl)
    | (apply s_box; exact rfl; exact rfl; exact rfl)
    | (apply s_not; exact rfl; exact rfl)
    | (apply s_eql; exact rfl; exact rfl; exact rfl)
    | (apply s_neq; exact rfl; exact rfl; exact rfl)
    | (apply s_move_o; exact rfl; exact rfl)
    | (apply s_move_x; exact rfl; exact rfl)
    | (apply s_assign_x; exact rfl; exact rfl)
    | (apply s_assign_o; exact rfl; exact rfl)
    | (apply s_load_bx_f TY; exact rfl; exact rfl; exact rfl; exact rfl; exact rfl)
    | (apply s_load_bx_x TY; exact rfl; exact rfl; exact rfl; exact rfl; exact rfl)
    | (apply s_load_bx_o TY; exact rfl; exact rfl; exact rfl; exact rfl; exact rfl)
    | (apply s_load_bxs TY; exact rfl; exact rfl; exact rfl; exact rfl; exact rfl; exact rfl)
    | (apply s_load_row TY; exact rfl; exact rfl; exact rfl; exact rfl; (first | exact rfl | assumption))
    | (apply s_makefn; exact rfl; exact rfl)
    | (apply s_pickT; exact rfl; exact rfl; (first | exact rfl | assumption); exact rfl)
    | (apply s_pickF; exact rfl; exact rfl; (first | exact rfl | assumption); exact rfl)
    | apply w_seq
    | apply w_region
    | apply s_nil
    | apply t_norm
    | apply t_exit
    | apply t_ret
    | apply k_hit
    | (apply k_miss; exact rfl)
    | apply k_norm
    | apply k_ret
    | apply w_block
    | apply w_exit
    | apply w_ret
    | apply w_skip
    | (apply s_call (awake_s); exact rfl; exact rfl; exact rfl; exact rfl)
    | (apply s_call (Few_s x); exact rfl; exact rfl; exact rfl; exact rfl)
    | (apply s_call (CopyIce_s x (by omega) (by omega)); exact rfl; exact rfl; exact rfl; exact rfl)
    | (apply s_call (CheckIce_s x ⟨by omega, by omega⟩); exact rfl; exact rfl; exact rfl; exact rfl)
    | (apply s_call (LayerAt_s x c ⟨by omega, by omega⟩); exact rfl; exact rfl; exact rfl; exact rfl)
    | (apply s_call (refCheckIce_s x); exact rfl; exact rfl; exact rfl; exact rfl)
    | (apply g_skip; exact rfl; (first | exact rfl | assumption); exact rfl)
    | (apply g_move_f; exact rfl; (first | exact rfl | assumption); exact rfl; exact rfl)
    | (apply g_assign_f; exact rfl; (first | exact rfl | assumption); exact rfl; exact rfl)
    | (apply g_load_pt TY; exact rfl; (first | exact rfl | assumption); exact rfl; exact rfl; exact rfl; (first | exact rfl | assumption))
    | (apply g_load_pts TY; exact rfl; (first | exact rfl | assumption); exact rfl; exact rfl; exact rfl; (first | assumption | exact rfl); exact rfl)
    | (apply g_eql; exact rfl; (first | exact rfl | assumption); exact rfl; exact rfl; exact rfl)
    | (apply g_neq; exact rfl; (first | exact rfl | assumption); exact rfl; exact rfl; exact rfl)
    | (apply g_move_o; exact rfl; (first | exact rfl | assumption); exact rfl; exact rfl)
    | (apply g_move_x; exact rfl; (first | exact rfl | assumption); exact rfl; exact rfl)
    | (apply g_assign_x; exact rfl; (first | exact rfl | assumption); exact rfl; exact rfl)
    | (apply g_assign_o; exact rfl; (first | exact rfl | assumption); exact rfl; exact rfl)
    | (apply g_load_bx_f TY; exact rfl; (first | exact rfl | assumption); exact rfl; exact rfl; exact rfl; exact rfl; exact rfl)
    | (apply g_load_bx_x TY; exact rfl; (first | exact rfl | assumption); exact rfl; exact rfl; exact rfl; exact rfl; exact rfl)
    | (apply g_load_bx_o TY; exact rfl; (first | exact rfl | assumption); exact rfl; exact rfl; exact rfl; exact rfl; exact rfl)
    | (apply g_load_bxs TY; exact rfl; (first | exact rfl | assumption); exact rfl; exact rfl; exact rfl; exact rfl; exact rfl; exact rfl)
    | (apply g_load_row TY; exact rfl; (first | exact rfl | assumption); exact rfl; exact rfl; exact rfl; exact rfl; (first | exact rfl | assumption))
    | (apply g_call (awake_s); exact rfl; (first | exact rfl | assumption); exact rfl; exact rfl; exact rfl; exact rfl)
    | (apply g_call (Few_s x); exact rfl; (first | exact rfl | assumption); exact rfl; exact rfl; exact rfl; exact rfl)
    | (apply g_call (CopyIce_s x (by omega) (by omega)); exact rfl; (first | exact rfl | assumption); exact rfl; exact rfl; exact rfl; exact rfl)
    | (apply g_call (CheckIce_s x ⟨by omega, by omega⟩); exact rfl; (first | exact rfl | assumption); exact rfl; exact rfl; exact rfl; exact rfl)
    | (apply g_call (LayerAt_s x c ⟨by omega, by omega⟩); exact rfl; (first | exact rfl | assumption); exact rfl; exact rfl; exact rfl; exact rfl)
    | (apply g_call (refCheckIce_s x); exact rfl; (first | exact rfl | assumption); exact rfl; exact rfl; exact rfl; exact rfl)
    | (apply w_condT; exact rfl; (first | exact rfl | assumption))
    | (apply w_condF; exact rfl; (first | exact rfl | assumption)))
    exact lv_ret (ret1 rfl (res_tmp (avb (by rw [e]; simp))))
end Go.Proofs.YtienhiloecfgnaaDoor
namespace Go.Ab
open Go Go.RowKit Go.Shelf Go.Proofs
section
variable {C : Ctx} {N : Nat}
theorem run_idxA {P : Program} {T E b off n s : Nat} {k : IntKind} {z : Int} {i : TypeInfo} {w : World} (hu : P.underlying T = some (.array n E)) (hi : P.info? E = some i) (hs : i.size = s) (h0 : 0 ≤ z) (hn : z < n) :
    (Instr.indexAt T (.pointer (some ⟨b, off, none⟩)) (.int k z)).run P w = .ok (.pointer (some ⟨b, off + z.toNat * s, none⟩)) w := by
  subst hs
  simp [Instr.indexAt, asIntOf, run_underlying hu, h0, hn, sizeOf, typeInfo, hi, addr_add, Instr.sureAddr]
theorem v_idxA {o : Oper} {st : St} {T E n s q : Nat} {x y : Operand} {cs : List FV} {k : IntKind} {z : Int} {i : TypeInfo} (ho : o.op = .indexAddr T x y) (hd : dstB N o.dst = true) (hu : C.P.underlying T = some (.array n E)) (hi : C.P.info? E = some i) (hs : i.size = s)
    (hx : st.ev C x = .f (.pt cs q)) (hy : st.ev C y = .f (.v (.int k z))) (h0 : 0 ≤ z) (hn : z < n) : ValOp C N o st (.f (.pt cs (q + z.toNat * s))) :=
  valop_run hd fun w0 a w J st' hA S => by
    have e1 := evF S ((hA.ev x (by simp [ho, Op.operands])).trans hx)
    have e2 := evV S ((hA.ev y (by simp [ho, Op.operands])).trans hy)
    generalize hv : a.eval x = v at e1
    cases e1 with
    | pt b off _ _ us h1 h2 h3 h4 =>
      refine ⟨.pointer (some ⟨b, off + q + z.toNat * s, none⟩), w, by simp [execOp, ho, hv, e2, run_idxA hu hi hs h0 hn], Ext.refl _, ?_⟩
      rw [Nat.add_assoc]
      exact RepF.pt b off _ _ us h1 h2 h3 h4
variable {Q : Exit → St → Prop} {st : St} {ops : Array Oper} {pr : Bool} {K : St → Prop} {rest : List Oper}
theorem s_idxA {d : Option Tmp} {T0 : TypeId} {pos : String} {af : Array Edge} {T E n s q : Nat} {x y : Operand} {cs : List FV} {k : IntKind} {z : Int} {i : TypeInfo} (hu : C.P.underlying T = some (.array n E)) (hi : C.P.info? E = some i) (hs : i.size = s) (hd : dstB N d = true) (hx : st.ev C x = .f (.pt cs q)) (hy : st.ev C y = .f (.v (.int k z))) (h0 : 0 ≤ z) (hn : z < n) (h : R C N ops pr K rest (st.put d (.f (.pt cs (q + z.toNat * s))))) : R C N ops pr K (⟨d, .indexAddr T x y, T0, pos, af, none⟩ :: rest) st := ⟨r_val rfl (v_idxA rfl hd hu hi hs hx hy h0 hn) h.out⟩
end
end Go.Ab
namespace Go.Ab
open Go Go.RowKit Go.Shelf Go.Proofs
section
variable {C : Ctx} {N : Nat} {Q : Exit → St → Prop} {st : St} {ops : Array Oper} {pr : Bool} {K : St → Prop} {rest : List Oper}
theorem ndT {p : Prop} [Decidable p] (h : ¬ p) : (!decide p) = true := by simp [h]
theorem ndF {p : Prop} [Decidable p] (h : p) : (!decide p) = false := by simp [h]
theorem s_lss_t {d : Option Tmp} {T0 : TypeId} {pos : String} {af : Array Edge} {T T' : TypeId} {x y : Operand} {k : IntKind} {p q : Int} (hd : dstB N d = true) (hx : st.ev C x = .f (.v (.int k p))) (hy' : st.ev C y = .f (.v (.int k q))) (hp : p < q) (h : R C N ops pr K rest (st.put d (.f (.v (.bool true))))) : R C N ops pr K (⟨d, .binOp .lss T x y T', T0, pos, af, none⟩ :: rest) st := s_lss hd hx hy' (by rw [decide_eq_true hp]; exact h)
theorem g_lss_t {d : Option Tmp} {T0 : TypeId} {pos : String} {af : Array Edge} {T T' : TypeId} {x y : Operand} {k : IntKind} {p q : Int} {j : Nat} {want bb : Bool} (hy : yl st ops j = some bb) (hb : bb = want) (hd : dstB N d = true) (hx : st.ev C x = .f (.v (.int k p))) (hy' : st.ev C y = .f (.v (.int k q))) (hp : p < q) (h : R C N ops pr K rest (st.put d (.f (.v (.bool true))))) : R C N ops pr K (⟨d, .binOp .lss T x y T', T0, pos, af, some (j, want)⟩ :: rest) st := g_lss hy hb hd hx hy' (by rw [decide_eq_true hp]; exact h)
theorem s_lss_f {d : Option Tmp} {T0 : TypeId} {pos : String} {af : Array Edge} {T T' : TypeId} {x y : Operand} {k : IntKind} {p q : Int} (hd : dstB N d = true) (hx : st.ev C x = .f (.v (.int k p))) (hy' : st.ev C y = .f (.v (.int k q))) (hp : ¬ (p < q)) (h : R C N ops pr K rest (st.put d (.f (.v (.bool false))))) : R C N ops pr K (⟨d, .binOp .lss T x y T', T0, pos, af, none⟩ :: rest) st := s_lss hd hx hy' (by rw [decide_eq_false hp]; exact h)
theorem g_lss_f {d : Option Tmp} {T0 : TypeId} {pos : String} {af : Array Edge} {T T' : TypeId} {x y : Operand} {k : IntKind} {p q : Int} {j : Nat} {want bb : Bool} (hy : yl st ops j = some bb) (hb : bb = want) (hd : dstB N d = true) (hx : st.ev C x = .f (.v (.int k p))) (hy' : st.ev C y = .f (.v (.int k q))) (hp : ¬ (p < q)) (h : R C N ops pr K rest (st.put d (.f (.v (.bool false))))) : R C N ops pr K (⟨d, .binOp .lss T x y T', T0, pos, af, some (j, want)⟩ :: rest) st := g_lss hy hb hd hx hy' (by rw [decide_eq_false hp]; exact h)
theorem s_leq_t {d : Option Tmp} {T0 : TypeId} {pos : String} {af : Array Edge} {T T' : TypeId} {x y : Operand} {k : IntKind} {p q : Int} (hd : dstB N d = true) (hx : st.ev C x = .f (.v (.int k p))) (hy' : st.ev C y = .f (.v (.int k q))) (hp : p ≤ q) (h : R C N ops pr K rest (st.put d (.f (.v (.bool true))))) : R C N ops pr K (⟨d, .binOp .leq T x y T', T0, pos, af, none⟩ :: rest) st := s_leq hd hx hy' (by rw [decide_eq_true hp]; exact h)
theorem g_leq_t {d : Option Tmp} {T0 : TypeId} {pos : String} {af : Array Edge} {T T' : TypeId} {x y : Operand} {k : IntKind} {p q : Int} {j : Nat} {want bb : Bool} (hy : yl st ops j = some bb) (hb : bb = want) (hd : dstB N d = true) (hx : st.ev C x = .f (.v (.int k p))) (hy' : st.ev C y = .f (.v (.int k q))) (hp : p ≤ q) (h : R C N ops pr K rest (st.put d (.f (.v (.bool true))))) : R C N ops pr K (⟨d, .binOp .leq T x y T', T0, pos, af, some (j, want)⟩ :: rest) st := g_leq hy hb hd hx hy' (by rw [decide_eq_true hp]; exact h)
theorem s_leq_f {d : Option Tmp} {T0 : TypeId} {pos : String} {af : Array Edge} {T T' : TypeId} {x y : Operand} {k : IntKind} {p q : Int} (hd : dstB N d = true) (hx : st.ev C x = .f (.v (.int k p))) (hy' : st.ev C y = .f (.v (.int k q))) (hp : ¬ (p ≤ q)) (h : R C N ops pr K rest (st.put d (.f (.v (.bool false))))) : R C N ops pr K (⟨d, .binOp .leq T x y T', T0, pos, af, none⟩ :: rest) st := s_leq hd hx hy' (by rw [decide_eq_false hp]; exact h)
theorem g_leq_f {d : Option Tmp} {T0 : TypeId} {pos : String} {af : Array Edge} {T T' : TypeId} {x y : Operand} {k : IntKind} {p q : Int} {j : Nat} {want bb : Bool} (hy : yl st ops j = some bb) (hb : bb = want) (hd : dstB N d = true) (hx : st.ev C x = .f (.v (.int k p))) (hy' : st.ev C y = .f (.v (.int k q))) (hp : ¬ (p ≤ q)) (h : R C N ops pr K rest (st.put d (.f (.v (.bool false))))) : R C N ops pr K (⟨d, .binOp .leq T x y T', T0, pos, af, some (j, want)⟩ :: rest) st := g_leq hy hb hd hx hy' (by rw [decide_eq_false hp]; exact h)
theorem s_gtr_t {d : Option Tmp} {T0 : TypeId} {pos : String} {af : Array Edge} {T T' : TypeId} {x y : Operand} {k : IntKind} {p q : Int} (hd : dstB N d = true) (hx : st.ev C x = .f (.v (.int k p))) (hy' : st.ev C y = .f (.v (.int k q))) (hp : q < p) (h : R C N ops pr K rest (st.put d (.f (.v (.bool true))))) : R C N ops pr K (⟨d, .binOp .gtr T x y T', T0, pos, af, none⟩ :: rest) st := s_gtr hd hx hy' (by rw [decide_eq_true hp]; exact h)
theorem g_gtr_t {d : Option Tmp} {T0 : TypeId} {pos : String} {af : Array Edge} {T T' : TypeId} {x y : Operand} {k : IntKind} {p q : Int} {j : Nat} {want bb : Bool} (hy : yl st ops j = some bb) (hb : bb = want) (hd : dstB N d = true) (hx : st.ev C x = .f (.v (.int k p))) (hy' : st.ev C y = .f (.v (.int k q))) (hp : q < p) (h : R C N ops pr K rest (st.put d (.f (.v (.bool true))))) : R C N ops pr K (⟨d, .binOp .gtr T x y T', T0, pos, af, some (j, want)⟩ :: rest) st := g_gtr hy hb hd hx hy' (by rw [decide_eq_true hp]; exact h)
theorem s_gtr_f {d : Option Tmp} {T0 : TypeId} {pos : String} {af : Array Edge} {T T' : TypeId} {x y : Operand} {k : IntKind} {p q : Int} (hd : dstB N d = true) (hx : st.ev C x = .f (.v (.int k p))) (hy' : st.ev C y = .f (.v (.int k q))) (hp : ¬ (q < p)) (h : R C N ops pr K rest (st.put d (.f (.v (.bool false))))) : R C N ops pr K (⟨d, .binOp .gtr T x y T', T0, pos, af, none⟩ :: rest) st := s_gtr hd hx hy' (by rw [decide_eq_false hp]; exact h)
theorem g_gtr_f {d : Option Tmp} {T0 : TypeId} {pos : String} {af : Array Edge} {T T' : TypeId} {x y : Operand} {k : IntKind} {p q : Int} {j : Nat} {want bb : Bool} (hy : yl st ops j = some bb) (hb : bb = want) (hd : dstB N d = true) (hx : st.ev C x = .f (.v (.int k p))) (hy' : st.ev C y = .f (.v (.int k q))) (hp : ¬ (q < p)) (h : R C N ops pr K rest (st.put d (.f (.v (.bool false))))) : R C N ops pr K (⟨d, .binOp .gtr T x y T', T0, pos, af, some (j, want)⟩ :: rest) st := g_gtr hy hb hd hx hy' (by rw [decide_eq_false hp]; exact h)
theorem s_geq_t {d : Option Tmp} {T0 : TypeId} {pos : String} {af : Array Edge} {T T' : TypeId} {x y : Operand} {k : IntKind} {p q : Int} (hd : dstB N d = true) (hx : st.ev C x = .f (.v (.int k p))) (hy' : st.ev C y = .f (.v (.int k q))) (hp : q ≤ p) (h : R C N ops pr K rest (st.put d (.f (.v (.bool true))))) : R C N ops pr K (⟨d, .binOp .geq T x y T', T0, pos, af, none⟩ :: rest) st := s_geq hd hx hy' (by rw [decide_eq_true hp]; exact h)
theorem g_geq_t {d : Option Tmp} {T0 : TypeId} {pos : String} {af : Array Edge} {T T' : TypeId} {x y : Operand} {k : IntKind} {p q : Int} {j : Nat} {want bb : Bool} (hy : yl st ops j = some bb) (hb : bb = want) (hd : dstB N d = true) (hx : st.ev C x = .f (.v (.int k p))) (hy' : st.ev C y = .f (.v (.int k q))) (hp : q ≤ p) (h : R C N ops pr K rest (st.put d (.f (.v (.bool true))))) : R C N ops pr K (⟨d, .binOp .geq T x y T', T0, pos, af, some (j, want)⟩ :: rest) st := g_geq hy hb hd hx hy' (by rw [decide_eq_true hp]; exact h)
theorem s_geq_f {d : Option Tmp} {T0 : TypeId} {pos : String} {af : Array Edge} {T T' : TypeId} {x y : Operand} {k : IntKind} {p q : Int} (hd : dstB N d = true) (hx : st.ev C x = .f (.v (.int k p))) (hy' : st.ev C y = .f (.v (.int k q))) (hp : ¬ (q ≤ p)) (h : R C N ops pr K rest (st.put d (.f (.v (.bool false))))) : R C N ops pr K (⟨d, .binOp .geq T x y T', T0, pos, af, none⟩ :: rest) st := s_geq hd hx hy' (by rw [decide_eq_false hp]; exact h)
theorem g_geq_f {d : Option Tmp} {T0 : TypeId} {pos : String} {af : Array Edge} {T T' : TypeId} {x y : Operand} {k : IntKind} {p q : Int} {j : Nat} {want bb : Bool} (hy : yl st ops j = some bb) (hb : bb = want) (hd : dstB N d = true) (hx : st.ev C x = .f (.v (.int k p))) (hy' : st.ev C y = .f (.v (.int k q))) (hp : ¬ (q ≤ p)) (h : R C N ops pr K rest (st.put d (.f (.v (.bool false))))) : R C N ops pr K (⟨d, .binOp .geq T x y T', T0, pos, af, some (j, want)⟩ :: rest) st := g_geq hy hb hd hx hy' (by rw [decide_eq_false hp]; exact h)
theorem s_eql_t {d : Option Tmp} {T0 : TypeId} {pos : String} {af : Array Edge} {T T' : TypeId} {x y : Operand} {k : IntKind} {p q : Int} (hd : dstB N d = true) (hx : st.ev C x = .f (.v (.int k p))) (hy' : st.ev C y = .f (.v (.int k q))) (hp : p = q) (h : R C N ops pr K rest (st.put d (.f (.v (.bool true))))) : R C N ops pr K (⟨d, .binOp .eql T x y T', T0, pos, af, none⟩ :: rest) st := s_eql hd hx hy' (by rw [decide_eq_true hp]; exact h)
theorem g_eql_t {d : Option Tmp} {T0 : TypeId} {pos : String} {af : Array Edge} {T T' : TypeId} {x y : Operand} {k : IntKind} {p q : Int} {j : Nat} {want bb : Bool} (hy : yl st ops j = some bb) (hb : bb = want) (hd : dstB N d = true) (hx : st.ev C x = .f (.v (.int k p))) (hy' : st.ev C y = .f (.v (.int k q))) (hp : p = q) (h : R C N ops pr K rest (st.put d (.f (.v (.bool true))))) : R C N ops pr K (⟨d, .binOp .eql T x y T', T0, pos, af, some (j, want)⟩ :: rest) st := g_eql hy hb hd hx hy' (by rw [decide_eq_true hp]; exact h)
theorem s_eql_f {d : Option Tmp} {T0 : TypeId} {pos : String} {af : Array Edge} {T T' : TypeId} {x y : Operand} {k : IntKind} {p q : Int} (hd : dstB N d = true) (hx : st.ev C x = .f (.v (.int k p))) (hy' : st.ev C y = .f (.v (.int k q))) (hp : ¬ (p = q)) (h : R C N ops pr K rest (st.put d (.f (.v (.bool false))))) : R C N ops pr K (⟨d, .binOp .eql T x y T', T0, pos, af, none⟩ :: rest) st := s_eql hd hx hy' (by rw [decide_eq_false hp]; exact h)
theorem g_eql_f {d : Option Tmp} {T0 : TypeId} {pos : String} {af : Array Edge} {T T' : TypeId} {x y : Operand} {k : IntKind} {p q : Int} {j : Nat} {want bb : Bool} (hy : yl st ops j = some bb) (hb : bb = want) (hd : dstB N d = true) (hx : st.ev C x = .f (.v (.int k p))) (hy' : st.ev C y = .f (.v (.int k q))) (hp : ¬ (p = q)) (h : R C N ops pr K rest (st.put d (.f (.v (.bool false))))) : R C N ops pr K (⟨d, .binOp .eql T x y T', T0, pos, af, some (j, want)⟩ :: rest) st := g_eql hy hb hd hx hy' (by rw [decide_eq_false hp]; exact h)
theorem s_neq_t {d : Option Tmp} {T0 : TypeId} {pos : String} {af : Array Edge} {T T' : TypeId} {x y : Operand} {k : IntKind} {p q : Int} (hd : dstB N d = true) (hx : st.ev C x = .f (.v (.int k p))) (hy' : st.ev C y = .f (.v (.int k q))) (hp : ¬ (p = q)) (h : R C N ops pr K rest (st.put d (.f (.v (.bool true))))) : R C N ops pr K (⟨d, .binOp .neq T x y T', T0, pos, af, none⟩ :: rest) st := s_neq hd hx hy' (by rw [ndT hp]; exact h)
theorem g_neq_t {d : Option Tmp} {T0 : TypeId} {pos : String} {af : Array Edge} {T T' : TypeId} {x y : Operand} {k : IntKind} {p q : Int} {j : Nat} {want bb : Bool} (hy : yl st ops j = some bb) (hb : bb = want) (hd : dstB N d = true) (hx : st.ev C x = .f (.v (.int k p))) (hy' : st.ev C y = .f (.v (.int k q))) (hp : ¬ (p = q)) (h : R C N ops pr K rest (st.put d (.f (.v (.bool true))))) : R C N ops pr K (⟨d, .binOp .neq T x y T', T0, pos, af, some (j, want)⟩ :: rest) st := g_neq hy hb hd hx hy' (by rw [ndT hp]; exact h)
theorem s_neq_f {d : Option Tmp} {T0 : TypeId} {pos : String} {af : Array Edge} {T T' : TypeId} {x y : Operand} {k : IntKind} {p q : Int} (hd : dstB N d = true) (hx : st.ev C x = .f (.v (.int k p))) (hy' : st.ev C y = .f (.v (.int k q))) (hp : p = q) (h : R C N ops pr K rest (st.put d (.f (.v (.bool false))))) : R C N ops pr K (⟨d, .binOp .neq T x y T', T0, pos, af, none⟩ :: rest) st := s_neq hd hx hy' (by rw [ndF hp]; exact h)
theorem g_neq_f {d : Option Tmp} {T0 : TypeId} {pos : String} {af : Array Edge} {T T' : TypeId} {x y : Operand} {k : IntKind} {p q : Int} {j : Nat} {want bb : Bool} (hy : yl st ops j = some bb) (hb : bb = want) (hd : dstB N d = true) (hx : st.ev C x = .f (.v (.int k p))) (hy' : st.ev C y = .f (.v (.int k q))) (hp : p = q) (h : R C N ops pr K rest (st.put d (.f (.v (.bool false))))) : R C N ops pr K (⟨d, .binOp .neq T x y T', T0, pos, af, some (j, want)⟩ :: rest) st := g_neq hy hb hd hx hy' (by rw [ndF hp]; exact h)
end
end Go.Ab
namespace Go.Ab
open Go Go.RowKit Go.Shelf Go.Proofs
section
variable {C : Ctx} {N : Nat} {st : St}
def aLoad (C : Ctx) (ty : TyD) (st : St) (x : Operand) : Option AV := match st.ev C x with
  | .f (.pt cs off) => match ty.scal with
    | true => match cs[off]? with
      | some c => some (.f c)
      | none => none
    | false => match ty.agg with
      | some n => match Nat.beq ((cs.drop off).take n).length n with
        | true => some (.f (.agg ((cs.drop off).take n)))
        | false => none
      | none => none
  | .bx i off => match st.h i with
    | some (.box cs) => match ty.scal with
      | true => cs[off]?
      | false => match ty.agg with
        | some n => match unL ((cs.drop off).take n) with
          | some sub => match Nat.beq sub.length n with
            | true => some (.f (.agg sub))
            | false => none
          | none => none
        | none => none
    | some (.row _ _ _ cs) => match ty.scal with
      | true => match cs[off]? with
        | some c => some (.f c)
        | none => none
      | false => none
    | none => none
  | _ => none
theorem aLoad_ok {o : Oper} {T : TypeId} {x : Operand} {r : AV} (ty : Ty C.P) (ho : o.op = .load T x) (hd : dstB N o.dst = true) (h : aLoad C (ty.ty T) st x = some r) : ValOp C N o st r := by
  unfold aLoad at h
  split at h
  · rename_i cs off hx
    split at h
    · rename_i hT
      split at h
      · rename_i c hc
        cases h; exact v_load_pt ty ho hd hT hx hc
      · cases h
    · split at h
      · rename_i n hn
        split at h
        · rename_i hb
          cases h; exact v_load_pts ty ho hd hn hx rfl (Nat.eq_of_beq_eq_true hb)
        · cases h
      · cases h
  · rename_i i off hx
    split at h
    · rename_i cs hi
      split at h
      · rename_i hT
        exact v_load_bx ty ho hd hT hx hi h
      · split at h
        · rename_i n hn
          split at h
          · rename_i sub hs
            split at h
            · rename_i hb
              cases h; exact v_load_bxs ty ho hd hn hx hi (unL_spec hs) (Nat.eq_of_beq_eq_true hb)
            · cases h
          · cases h
        · cases h
    · rename_i cs hi
      split at h
      · rename_i hT
        split at h
        · rename_i c hc
          cases h; exact v_load_row ty ho hd hT hx hi hc
        · cases h
      · cases h
    · cases h
  · cases h
def aFld (C : Ctx) (ty : TyD) (st : St) (x : Operand) (f : Nat) : Option AV := match ty.fld[f]? with
  | some fo => match st.ev C x with
    | .f (.pt cs off) => some (.f (.pt cs (off + fo)))
    | .bx i off => some (.bx i (off + fo))
    | _ => none
  | none => none
theorem aFld_ok {o : Oper} {T f : Nat} {x : Operand} {r : AV} (ty : Ty C.P) (ho : o.op = .fieldAddr T x f) (hd : dstB N o.dst = true) (h : aFld C (ty.ty T) st x f = some r) : ValOp C N o st r := by
  unfold aFld at h
  split at h
  · rename_i fo hf
    split at h
    · rename_i cs off hx
      cases h; exact v_fld_pt ty ho hd hf hx
    · rename_i i off hx
      cases h; exact v_fld_bx ty ho hd hf hx
    · cases h
  · cases h
def aMv : AV → Option AV
  | .f (.v x) => some (.f (.v x))
  | .f (.sl n cs) => some (.f (.sl n cs))
  | .f (.pt cs o) => some (.f (.pt cs o))
  | .f (.agg cs) => some (.f (.agg cs))
  | .f y => some (.f y)
  | .bx i o => some (.bx i o)
  | .ow i => some (.ow i)
  | .bot => some .bot
theorem aMv_eq : ∀ a : AV, aMv a = some a := fun a => by
  unfold aMv; split <;> rfl
def aPick (C : Ctx) (st : St) (c x y : Operand) : Option AV := match st.ev C c with
  | .f (.v (.bool true)) => aMv (st.ev C x)
  | .f (.v (.bool false)) => aMv (st.ev C y)
  | _ => none
theorem aPick_ok {o : Oper} {c x y : Operand} {r : AV} (ho : o.op = .pick c x y) (hd : dstB N o.dst = true) (h : aPick C st c x y = some r) : ValOp C N o st r := by
  unfold aPick at h
  split at h
  · rename_i hc; rw [aMv_eq] at h; cases h; exact v_pickT ho hd hc rfl
  · rename_i hc; rw [aMv_eq] at h; cases h; exact v_pickF ho hd hc rfl
  · cases h
def aExt (C : Ctx) (st : St) (x : Operand) (i : Nat) : Option AV := match st.ev C x with
  | .f (.tup l) => match l[i]? with
    | some y => some (.f y)
    | none => none
  | _ => none
theorem aExt_ok {o : Oper} {x : Operand} {i : Nat} {r : AV} (ho : o.op = .extract x i) (hd : dstB N o.dst = true) (h : aExt C st x i = some r) : ValOp C N o st r := by
  unfold aExt at h
  split at h
  · rename_i l hx
    split at h
    · rename_i y hy; cases h; exact v_extract ho hd hx hy
    · cases h
  · cases h
def aNot (C : Ctx) (st : St) (x : Operand) : Option AV := match st.ev C x with
  | .f (.v (.bool b)) => some (.f (.v (.bool (!b))))
  | _ => none
theorem aNot_ok {o : Oper} {T : TypeId} {x : Operand} {r : AV} (ho : o.op = .unOp .not T x) (hd : dstB N o.dst = true) (h : aNot C st x = some r) : ValOp C N o st r := by
  unfold aNot at h
  split at h
  · rename_i b hx; cases h; exact v_un ho hd hx u_not
  · cases h
def aLen (C : Ctx) (ty : TyD) (st : St) (x : Operand) : Option AV := match ty.sl with
  | some _ => match st.ev C x with
    | .f (.sl n _) => some (.f (.v (.int .i64 n)))
    | .f (.v (.slice _ n _)) => some (.f (.v (.int .i64 n)))
    | .ow i => match st.h i with
      | some (.row _ _ n _) => some (.f (.v (.int .i64 n)))
      | _ => none
    | _ => none
  | none => match ty.str with
    | true => match st.ev C x with
      | .f (.v (.string s)) => some (.f (.v (.int .i64 s.size)))
      | _ => none
    | false => none
theorem aLen_ok {o : Oper} {T : TypeId} {x : Operand} {r : AV} (ty : Ty C.P) (ho : o.op = .call { callee := .builtin .len, args := #[x], argTypes := #[T] }) (hd : dstB N o.dst = true) (h : aLen C (ty.ty T) st x = some r) : ValOp C N o st r := by
  unfold aLen at h
  split at h
  · rename_i p hT
    obtain ⟨E, s, bs⟩ := p
    split at h
    · rename_i n cs hx; cases h; exact v_len ty ho hd hT hx
    · rename_i a n c hx; cases h; exact v_len_nil ty ho hd hT hx
    · rename_i i hx
      split at h
      · rename_i e sz n cs hi; cases h; exact v_len_ow ty ho hd hT hx hi
      · cases h
    · cases h
  · split at h
    · rename_i hs
      split at h
      · rename_i s hx; cases h; exact v_len_str ty hs ho hd hx
      · cases h
    · cases h
def aMM (C : Ctx) (st : St) (mn : Bool) (x y : Operand) : Option AV := match st.ev C x with
  | .f (.v (.int k p)) => match st.ev C y with
    | .f (.v (.int _ q)) => match mn with
      | true => some (.f (.v (.int k (min p q))))
      | false => some (.f (.v (.int k (max p q))))
    | _ => none
  | _ => none
def aCall (C : Ctx) (ty : Nat → TyD) (st : St) (b : Builtin) (l : List Operand) (ts : List TypeId) : Option AV := match b with
  | .len => match l with
    | [x] => match ts with
      | [T] => aLen C (ty T) st x
      | _ => none
    | _ => none
  | .min => match l with
    | [x, y] => match ts with
      | [_, _] => aMM C st true x y
      | _ => none
    | _ => none
  | .max => match l with
    | [x, y] => match ts with
      | [_, _] => aMM C st false x y
      | _ => none
    | _ => none
  | _ => none
theorem arr_of {α : Type} {a : Array α} {l : List α} (h : a.toList = l) : a = l.toArray := by
  subst h; simp
theorem aCall_ok {o : Oper} {b : Builtin} {args : Array Operand} {ts : Array TypeId} {r : AV} (ty : Ty C.P) (ho : o.op = .call { callee := .builtin b, args := args, argTypes := ts }) (hd : dstB N o.dst = true) (h : aCall C ty.ty st b args.toList ts.toList = some r) : ValOp C N o st r := by
  unfold aCall at h
  split at h
  · split at h
    · rename_i x hx
      split at h
      · rename_i T hT
        have e1 := arr_of hx
        have e2 := arr_of hT
        subst e1; subst e2
        exact aLen_ok ty ho hd h
      · cases h
    · cases h
  · split at h
    · rename_i x y hx
      split at h
      · rename_i T T' hT
        have e1 := arr_of hx
        have e2 := arr_of hT
        subst e1; subst e2
        unfold aMM at h
        split at h
        · rename_i k p hx
          split at h
          · rename_i k' q hy
            cases h; exact v_min2 ho hd hx hy
          · cases h
        · cases h
      · cases h
    · cases h
  · split at h
    · rename_i x y hx
      split at h
      · rename_i T T' hT
        have e1 := arr_of hx
        have e2 := arr_of hT
        subst e1; subst e2
        unfold aMM at h
        split at h
        · rename_i k p hx
          split at h
          · rename_i k' q hy
            cases h; exact v_max2 ho hd hx hy
          · cases h
        · cases h
      · cases h
    · cases h
  · cases h
def aBuild (C : Ctx) (ty : TyD) (st : St) (parts : List (Nat × Operand)) : Option AV := match ty.pl with
  | some pl => match ty.zero with
    | some zs => match st.evP C parts with
      | some xs => match fillF (fun i => pl[i]?) (zs.map .v) xs with
        | some cs => some (.f (.agg cs))
        | none => none
      | none => none
    | none => none
  | none => none
theorem aBuild_ok {o : Oper} {T : TypeId} {parts : Array (Nat × Operand)} {r : AV} (ty : Ty C.P) (ho : o.op = .build T parts) (hd : dstB N o.dst = true) (h : aBuild C (ty.ty T) st parts.toList = some r) : ValOp C N o st r := by
  unfold aBuild at h
  split at h
  · rename_i pl hpl
    split at h
    · rename_i zs hz
      split at h
      · rename_i xs hp
        split at h
        · rename_i cs hf; cases h; exact v_build ty ho hd hpl hz hp hf
        · cases h
      · cases h
    · cases h
  · cases h
def aBSl (C : Ctx) (ty : Nat → TyD) (st : St) (T len : Nat) (parts : List (Nat × Operand)) : Option AV := match (ty T).sl with
  | some (E, s, _) => match (ty E).zero with
    | some zs => match Nat.ble (len * s) 16777216 with
      | true => match st.evP C parts with
        | some xs => match fillF (fun i => some (i * s, s)) (initF zs (len * s)) xs with
          | some cs => some (.f (.sl len cs))
          | none => none
        | none => none
      | false => none
    | none => none
  | none => none
theorem aBSl_ok {o : Oper} {T len : TypeId} {parts : Array (Nat × Operand)} {r : AV} (ty : Ty C.P) (ho : o.op = .buildSlice T len parts) (hd : dstB N o.dst = true) (h : aBSl C ty.ty st T len parts.toList = some r) : ValOp C N o st r := by
  unfold aBSl at h
  split at h
  · rename_i E s bs hT
    split at h
    · rename_i zs hz
      split at h
      · rename_i hs
        split at h
        · rename_i xs hp
          split at h
          · rename_i cs hf; cases h; exact v_bslice ty ho hd hT hz (Nat.le_of_ble_eq_true hs) hp hf
          · cases h
        · cases h
      · cases h
    · cases h
  · cases h
def aBox (C : Ctx) (st : St) (x : Operand) : Option AV := match st.ev C x with
  | .f y => match cellsF y with
    | some cs => some (.f (.pt cs 0))
    | none => none
  | _ => none
theorem aBox_ok {o : Oper} {T : TypeId} {x : Operand} {r : AV} (ho : o.op = .box T x) (hd : dstB N o.dst = true) (h : aBox C st x = some r) : ValOp C N o st r := by
  unfold aBox at h
  split at h
  · rename_i y hx
    split at h
    · rename_i cs hc; cases h; exact v_box ho hd hx hc
    · cases h
  · cases h
def aFn (C : Ctx) (st : St) (f : Fn) (ms : List Value) (caps : List Operand) : Option AV := match f with
  | .func g => match ms with
    | [] => match st.evL C caps with
      | some xs => some (.f (.fn g xs))
      | none => none
    | _ => none
  | _ => none
def autoV (C : Ctx) (ty : Nat → TyD) (st : St) : Op → Option AV
  | .move x => aMv (st.ev C x)
  | .assign x => aMv (st.ev C x)
  | .load T x => aLoad C (ty T) st x
  | .fieldAddr T x f => aFld C (ty T) st x f
  | .pick c x y => aPick C st c x y
  | .extract x i => aExt C st x i
  | .unOp u _ x => match u with
    | .not => aNot C st x
    | _ => none
  | .build T parts => aBuild C (ty T) st parts.toList
  | .buildSlice T len parts => aBSl C ty st T len parts.toList
  | .box _ x => aBox C st x
  | .call c => match c with
    | ⟨.builtin b, args, ts⟩ => aCall C ty st b args.toList ts.toList
    | _ => none
  | _ => none
theorem autoV_ok {o : Oper} {r : AV} (ty : Ty C.P) (hd : dstB N o.dst = true) (h : autoV C ty.ty st o.op = some r) : ValOp C N o st r := by
  obtain ⟨d, op, T0, pos, af, g⟩ := o
  unfold autoV at h
  split at h
  · rename_i x e; rw [aMv_eq] at h; cases h; exact v_move e hd
  · rename_i x e; rw [aMv_eq] at h; cases h; exact v_assign e hd
  · rename_i T x e; exact aLoad_ok ty e hd h
  · rename_i T x f e; exact aFld_ok ty e hd h
  · rename_i c x y e; exact aPick_ok e hd h
  · rename_i x i e; exact aExt_ok e hd h
  · rename_i u T x e
    split at h
    · exact aNot_ok e hd h
    · cases h
  · rename_i T parts e; exact aBuild_ok ty e hd h
  · rename_i T len parts e; exact aBSl_ok ty e hd h
  · rename_i T x e; exact aBox_ok e hd h
  · rename_i c e
    split at h
    · rename_i b args ts; exact aCall_ok ty e hd h
    · cases h
  · cases h
end
end Go.Ab
namespace Go.Ab
open Go Go.RowKit Go.Shelf Go.Proofs
section
variable {C : Ctx} {N : Nat} {st : St}
def cArith (op : BinOp) (p q : Int) : Option (Int × Prop) := match op with
  | .add => some (p + q, -9223372036854775808 ≤ p + q ∧ p + q ≤ 9223372036854775807)
  | .sub => some (p - q, -9223372036854775808 ≤ p - q ∧ p - q ≤ 9223372036854775807)
  | .mul => some (p * q, -9223372036854775808 ≤ p * q ∧ p * q ≤ 9223372036854775807)
  | .quo => some (p / q, 0 ≤ p ∧ p ≤ 9223372036854775807 ∧ 1 ≤ q)
  | .rem => some (p % q, 0 ≤ p ∧ 1 ≤ q)
  | _ => none
def cBin (C : Ctx) (st : St) (op : BinOp) (x y : Operand) : Option (AV × Prop) := match st.ev C x with
  | .f (.v (.int .i64 p)) => match st.ev C y with
    | .f (.v (.int .i64 q)) => match cArith op p q with
      | some (z, P) => some (.f (.v (.int .i64 z)), P)
      | none => none
    | _ => none
  | _ => none
theorem cBin_ok {o : Oper} {op : BinOp} {T T' : TypeId} {x y : Operand} {r : AV} {P : Prop} (ho : o.op = .binOp op T x y T') (hd : dstB N o.dst = true) (h : cBin C st op x y = some (r, P)) (hp : P) : ValOp C N o st r := by
  unfold cBin at h
  split at h
  · rename_i p hx
    split at h
    · rename_i q hy
      split at h
      · rename_i z P' hz
        cases h
        unfold cArith at hz
        split at hz
        · cases hz; exact v_bin ho hd hx hy (b_add hp)
        · cases hz; exact v_bin ho hd hx hy (b_sub hp)
        · cases hz; exact v_bin ho hd hx hy (b_mul hp)
        · cases hz; exact v_bin ho hd hx hy (b_quo hp)
        · cases hz; exact v_bin ho hd hx hy (b_rem hp)
        · cases hz
      · cases h
    · cases h
  · cases h
def cNeg (C : Ctx) (st : St) (x : Operand) : Option (AV × Prop) := match st.ev C x with
  | .f (.v (.int .i64 p)) => some (.f (.v (.int .i64 (-p))), -9223372036854775807 ≤ p ∧ p ≤ 9223372036854775807)
  | _ => none
def natOf : Int → Option Nat
  | .ofNat m => some m
  | .negSucc _ => none
def cIdx (C : Ctx) (ty : TyD) (st : St) (x y : Operand) : Option (AV × Prop) := match ty.sl with
  | some (_, s, _) => match st.ev C y with
    | .f (.v (.int _ z)) => match st.ev C x with
      | .f (.sl n cs) => some (.f (.pt cs (z.toNat * s)), (0 ≤ z ∧ z < n) ∧ cs ≠ [])
      | .ow i => match st.h i with
        | some (.row _ _ n _) => some (.bx i (z.toNat * s), 0 ≤ z ∧ z < n)
        | _ => none
      | _ => none
    | _ => none
  | none => none
theorem cIdx_ok {o : Oper} {T : TypeId} {x y : Operand} {r : AV} {P : Prop} (ty : Ty C.P) (ho : o.op = .indexAddr T x y) (hd : dstB N o.dst = true) (h : cIdx C (ty.ty T) st x y = some (r, P)) (hp : P) : ValOp C N o st r := by
  unfold cIdx at h
  split at h
  · rename_i E s bs hT
    split at h
    · rename_i k z hy
      split at h
      · rename_i n cs hx
        cases h; exact v_idx ty ho hd hT hx hy hp.1.1 hp.1.2 hp.2
      · rename_i i hx
        split at h
        · rename_i e sz n cs hi
          cases h; exact v_idx_ow ty ho hd hT hx hi hy hp.1 hp.2
        · cases h
      · cases h
    · cases h
  · cases h
def cIdxN (C : Ctx) (ty : TyD) (st : St) (x y : Operand) : Option (AV × Prop) := match ty.sl with
  | some (_, s, _) => match st.ev C y with
    | .f (.v (.int _ z)) => match natOf z with
      | some m => match st.ev C x with
        | .f (.sl n cs) => some (.f (.pt cs (m * s)), m < n ∧ cs ≠ [])
        | .ow i => match st.h i with
          | some (.row _ _ n _) => some (.bx i (m * s), m < n)
          | _ => none
        | _ => none
      | none => none
    | _ => none
  | none => none
theorem natOf_spec {z : Int} {m : Nat} (h : natOf z = some m) : z = (m : Int) := by
  cases z with
  | ofNat k => simp [natOf] at h; subst h; rfl
  | negSucc k => simp [natOf] at h
theorem cIdxN_ok {o : Oper} {T : TypeId} {x y : Operand} {r : AV} {P : Prop} (ty : Ty C.P) (ho : o.op = .indexAddr T x y) (hd : dstB N o.dst = true) (h : cIdxN C (ty.ty T) st x y = some (r, P)) (hp : P) : ValOp C N o st r := by
  unfold cIdxN at h
  split at h
  · rename_i E s bs hT
    split at h
    · rename_i k z hy
      split at h
      · rename_i m hm
        have e := natOf_spec hm
        split at h
        · rename_i n cs hx
          cases h
          have := v_idx ty ho hd hT hx hy (by omega) (by omega) hp.2
          rw [e] at this
          exact this
        · rename_i i hx
          split at h
          · rename_i e' sz n cs hi
            cases h
            have := v_idx_ow ty ho hd hT hx hi hy (by omega) (by omega)
            rw [e] at this
            exact this
          · cases h
        · cases h
      · cases h
    · cases h
  · cases h
def condV (C : Ctx) (ty : Nat → TyD) (st : St) : Op → Option (AV × Prop)
  | .binOp op _ x y _ => cBin C st op x y
  | .unOp u _ x => match u with
    | .neg => cNeg C st x
    | _ => none
  | .indexAddr T x y => cIdxN C (ty T) st x y
  | _ => none
theorem condV_ok {o : Oper} {r : AV} {P : Prop} (ty : Ty C.P) (hd : dstB N o.dst = true) (h : condV C ty.ty st o.op = some (r, P)) (hp : P) : ValOp C N o st r := by
  obtain ⟨d, op, T0, pos, af, g⟩ := o
  unfold condV at h
  split at h
  · rename_i op T x y T' e; exact cBin_ok e hd h hp
  · rename_i u T x e
    split at h
    · unfold cNeg at h
      split at h
      · rename_i p hx; cases h; exact v_un e hd hx (u_neg hp)
      · cases h
    · cases h
  · rename_i T x y e
    exact cIdxN_ok ty e hd h hp
  · cases h
def cRel (op : BinOp) (p q : Int) : Option (Bool × Prop) := match op with
  | .lss => some (true, p < q)
  | .leq => some (true, p ≤ q)
  | .gtr => some (true, q < p)
  | .geq => some (true, q ≤ p)
  | .eql => some (true, p = q)
  | .neq => some (false, p = q)
  | _ => none
def cmpV (C : Ctx) (st : St) : Op → Option (Bool × Prop)
  | .binOp op _ x y _ => match st.ev C x with
    | .f (.v (.int k p)) => match st.ev C y with
      | .f (.v (.int k' q)) => match decEq k k' with
        | .isTrue _ => cRel op p q
        | .isFalse _ => none
      | _ => none
    | _ => none
  | _ => none
theorem cmpV_ok {o : Oper} {b : Bool} {P : Prop} (hd : dstB N o.dst = true) (h : cmpV C st o.op = some (b, P)) : ∃ D : Decidable P, ValOp C N o st (.f (.v (.bool (if @decide P D then b else !b)))) := by
  obtain ⟨d, op, T0, pos, af, g⟩ := o
  unfold cmpV at h
  split at h
  · rename_i op2 T x y T' e
    split at h
    · rename_i k p hx
      split at h
      · rename_i k' q hy
        split at h
        · rename_i hk _
          subst hk
          have key : ∀ (D : Decidable P) (bb : Bool), ValOp C N (⟨d, op, T0, pos, af, g⟩ : Oper) st (.f (.v (.bool bb))) → bb = (if @decide P D then b else !b) → ∃ D : Decidable P, ValOp C N (⟨d, op, T0, pos, af, g⟩ : Oper) st (.f (.v (.bool (if @decide P D then b else !b)))) := fun D bb hv hb => ⟨D, hb ▸ hv⟩
          unfold cRel at h
          split at h
          · cases h; exact key inferInstance _ (v_bin e hd hx hy b_lss) (by simp)
          · cases h; exact key inferInstance _ (v_bin e hd hx hy b_leq) (by simp)
          · cases h; exact key inferInstance _ (v_bin e hd hx hy b_gtr) (by simp)
          · cases h; exact key inferInstance _ (v_bin e hd hx hy b_geq) (by simp)
          · cases h; exact key inferInstance _ (v_bin e hd hx hy b_eql) (by simp)
          · cases h; exact key inferInstance _ (v_bin e hd hx hy b_neq) (by by_cases hpq : p = q <;> simp [hpq])
          · cases h
        · cases h
      · cases h
    · cases h
  · cases h
variable {ops : Array Oper} {pr : Bool} {K : St → Prop} {rest : List Oper} {d : Option Tmp} {op : Op} {T0 : TypeId} {pos : String} {af : Array Edge} {g : Option (Nat × Bool)}
theorem s_auto (ty : Ty C.P) {r : AV} (hw : wantB st ops ⟨d, op, T0, pos, af, g⟩ = some true) (hd : dstB N d = true) (h : autoV C ty.ty st op = some r) (k : R C N ops pr K rest (st.put d r)) : R C N ops pr K (⟨d, op, T0, pos, af, g⟩ :: rest) st := ⟨r_val hw (autoV_ok ty hd h) k.out⟩
theorem s_skip (hw : wantB st ops ⟨d, op, T0, pos, af, g⟩ = some false) (hd : dstB N d = true) (k : R C N ops pr K rest (st.put d (.f (.v undef)))) : R C N ops pr K (⟨d, op, T0, pos, af, g⟩ :: rest) st := ⟨r_skip hw hd k.out⟩
theorem s_cond (ty : Ty C.P) {r : AV} {P : Prop} (hw : wantB st ops ⟨d, op, T0, pos, af, g⟩ = some true) (hd : dstB N d = true) (h : condV C ty.ty st op = some (r, P)) (hp : P) (k : R C N ops pr K rest (st.put d r)) : R C N ops pr K (⟨d, op, T0, pos, af, g⟩ :: rest) st := ⟨r_val hw (condV_ok ty hd h hp) k.out⟩
theorem s_idxz (ty : Ty C.P) {T : TypeId} {x y : Operand} {r : AV} {P : Prop} (hw : wantB st ops ⟨d, .indexAddr T x y, T0, pos, af, g⟩ = some true) (hd : dstB N d = true) (h : cIdx C (ty.ty T) st x y = some (r, P)) (hp : P) (k : R C N ops pr K rest (st.put d r)) : R C N ops pr K (⟨d, .indexAddr T x y, T0, pos, af, g⟩ :: rest) st := ⟨r_val hw (cIdx_ok ty rfl hd h hp) k.out⟩
theorem s_cmpt {b : Bool} {P : Prop} (hw : wantB st ops ⟨d, op, T0, pos, af, g⟩ = some true) (hd : dstB N d = true) (h : cmpV C st op = some (b, P)) (hp : P) (k : R C N ops pr K rest (st.put d (.f (.v (.bool b))))) : R C N ops pr K (⟨d, op, T0, pos, af, g⟩ :: rest) st := by
  obtain ⟨D, hv⟩ := cmpV_ok (o := ⟨d, op, T0, pos, af, g⟩) hd h
  rw [if_pos (decide_eq_true hp)] at hv
  exact ⟨r_val hw hv k.out⟩
theorem s_cmpf {b : Bool} {P : Prop} (hw : wantB st ops ⟨d, op, T0, pos, af, g⟩ = some true) (hd : dstB N d = true) (h : cmpV C st op = some (b, P)) (hp : ¬ P) (k : R C N ops pr K rest (st.put d (.f (.v (.bool (!b)))))) : R C N ops pr K (⟨d, op, T0, pos, af, g⟩ :: rest) st := by
  obtain ⟨D, hv⟩ := cmpV_ok (o := ⟨d, op, T0, pos, af, g⟩) hd h
  rw [if_neg (by rw [decide_eq_false hp]; simp)] at hv
  exact ⟨r_val hw hv k.out⟩
theorem s_cl {f : Operand} {args : Array Operand} {ts : Array TypeId} {gf : Nat} {caps xs ys : List FV} {r : FV} (S : Summ C.P C.G gf ys r) (hw : wantB st ops ⟨d, .call { callee := .value f, args := args, argTypes := ts }, T0, pos, af, g⟩ = some true) (hd : dstB N d = true) (hf : st.ev C f = .f (.fn gf caps)) (hxs : st.evL C args.toList = some xs) (hys : xs ++ caps = ys) (k : R C N ops pr K rest (st.put d (.f r))) : R C N ops pr K (⟨d, .call { callee := .value f, args := args, argTypes := ts }, T0, pos, af, g⟩ :: rest) st := ⟨r_val hw (v_call S rfl hd hf hxs hys) k.out⟩
theorem s_cl1 {f : Operand} {args : Array Operand} {ts : Array TypeId} {gf : Nat} {caps xs ys : List FV} {r : FV} {P0 : Prop} (S : P0 → Summ C.P C.G gf ys r) (hw : wantB st ops ⟨d, .call { callee := .value f, args := args, argTypes := ts }, T0, pos, af, g⟩ = some true) (hd : dstB N d = true) (hf : st.ev C f = .f (.fn gf caps)) (hxs : st.evL C args.toList = some xs) (hys : xs ++ caps = ys) (p0 : P0) (k : R C N ops pr K rest (st.put d (.f r))) : R C N ops pr K (⟨d, .call { callee := .value f, args := args, argTypes := ts }, T0, pos, af, g⟩ :: rest) st := s_cl (S p0) hw hd hf hxs hys k
theorem s_cl2 {f : Operand} {args : Array Operand} {ts : Array TypeId} {gf : Nat} {caps xs ys : List FV} {r : FV} {P0 P1 : Prop} (S : P0 → P1 → Summ C.P C.G gf ys r) (hw : wantB st ops ⟨d, .call { callee := .value f, args := args, argTypes := ts }, T0, pos, af, g⟩ = some true) (hd : dstB N d = true) (hf : st.ev C f = .f (.fn gf caps)) (hxs : st.evL C args.toList = some xs) (hys : xs ++ caps = ys) (p0 : P0) (p1 : P1) (k : R C N ops pr K rest (st.put d (.f r))) : R C N ops pr K (⟨d, .call { callee := .value f, args := args, argTypes := ts }, T0, pos, af, g⟩ :: rest) st := s_cl (S p0 p1) hw hd hf hxs hys k
theorem s_cl3 {f : Operand} {args : Array Operand} {ts : Array TypeId} {gf : Nat} {caps xs ys : List FV} {r : FV} {P0 P1 P2 : Prop} (S : P0 → P1 → P2 → Summ C.P C.G gf ys r) (hw : wantB st ops ⟨d, .call { callee := .value f, args := args, argTypes := ts }, T0, pos, af, g⟩ = some true) (hd : dstB N d = true) (hf : st.ev C f = .f (.fn gf caps)) (hxs : st.evL C args.toList = some xs) (hys : xs ++ caps = ys) (p0 : P0) (p1 : P1) (p2 : P2) (k : R C N ops pr K rest (st.put d (.f r))) : R C N ops pr K (⟨d, .call { callee := .value f, args := args, argTypes := ts }, T0, pos, af, g⟩ :: rest) st := s_cl (S p0 p1 p2) hw hd hf hxs hys k
theorem s_ld (ty : Ty C.P) {T : TypeId} {x : Operand} {cs : List FV} {off : Nat} {c : FV} (hw : wantB st ops ⟨d, .load T x, T0, pos, af, g⟩ = some true) (hd : dstB N d = true) (hT : (ty.ty T).scal = true) (hx : st.ev C x = .f (.pt cs off)) (hc : cs[off]? = some c) (k : R C N ops pr K rest (st.put d (.f c))) : R C N ops pr K (⟨d, .load T x, T0, pos, af, g⟩ :: rest) st := ⟨r_val hw (v_load_pt ty rfl hd hT hx hc) k.out⟩
theorem s_lds (ty : Ty C.P) {T n : TypeId} {x : Operand} {cs sub : List FV} {off : Nat} (hw : wantB st ops ⟨d, .load T x, T0, pos, af, g⟩ = some true) (hd : dstB N d = true) (hT : (ty.ty T).agg = some n) (hx : st.ev C x = .f (.pt cs off)) (hc : (cs.drop off).take n = sub) (hl : sub.length = n) (k : R C N ops pr K rest (st.put d (.f (.agg sub)))) : R C N ops pr K (⟨d, .load T x, T0, pos, af, g⟩ :: rest) st := ⟨r_val hw (v_load_pts ty rfl hd hT hx hc hl) k.out⟩
theorem s_ldr (ty : Ty C.P) {T : TypeId} {x : Operand} {cs : List FV} {e sz m i off : Nat} {c : FV} (hw : wantB st ops ⟨d, .load T x, T0, pos, af, g⟩ = some true) (hd : dstB N d = true) (hT : (ty.ty T).scal = true) (hx : st.ev C x = .bx i off) (hi : st.h i = some (.row e sz m cs)) (hc : cs[off]? = some c) (k : R C N ops pr K rest (st.put d (.f c))) : R C N ops pr K (⟨d, .load T x, T0, pos, af, g⟩ :: rest) st := ⟨r_val hw (v_load_row ty rfl hd hT hx hi hc) k.out⟩
theorem nea {α : Type} {l : List α} (h : 0 < l.length) : l ≠ [] := fun e => by subst e; simp at h
end
end Go.Ab
namespace Go.Proofs.YtienhiloecfgnaaDoor
open Go Go.RowKit Go.Proofs Go.Shelf Go.Ab
theorem laysF_ne {l : List Layer} (h : 0 < l.length) : laysF l ≠ [] := flat_ne (f := layF) (s := 3) (fun _ => rfl) (by decide) h
theorem laysF_sub {l : List Layer} {k : Nat} (h : k < l.length) : ((laysF l).drop (k * 3)).take 3 = layF l[k] := flat_sub (f := layF) (fun _ => rfl) h
theorem celsF_ne {l : List Cel} (h : 0 < l.length) : celsF l ≠ [] := flat_ne (f := celF) (s := 2) (fun _ => rfl) (by decide) h
theorem celsF_sub {l : List Cel} {k : Nat} (h : k < l.length) : ((celsF l).drop (k * 2)).take 2 = celF l[k] := flat_sub (f := celF) (fun _ => rfl) h
theorem rngsF_ne {l : List Rng} (h : 0 < l.length) : rngsF l ≠ [] := flat_ne (f := rngF) (s := 2) (fun _ => rfl) (by decide) h
theorem rngsF_sub {l : List Rng} {k : Nat} (h : k < l.length) : ((rngsF l).drop (k * 2)).take 2 = rngF l[k] := flat_sub (f := rngF) (fun _ => rfl) h
theorem flasF_ne {l : List Flash} (h : 0 < l.length) : flasF l ≠ [] := flat_ne (f := flaF) (s := 7) (fun _ => rfl) (by decide) h
theorem flasF_sub {l : List Flash} {k : Nat} (h : k < l.length) : ((flasF l).drop (k * 7)).take 7 = flaF l[k] := flat_sub (f := flaF) (fun _ => rfl) h
theorem intsF_ne {l : List (Int)} (h : 0 < l.length) : intsF l ≠ [] := map_ne h
theorem intsF_at {l : List (Int)} {k : Nat} (h : k < l.length) : (intsF l)[k * 1]? = some (iv l[k]) := map_at h
theorem matF_ne {l : List (List Int)} (h : 0 < l.length) : matF l ≠ [] := map_ne h
theorem boolsF_ne {l : List (Bool)} (h : 0 < l.length) : boolsF l ≠ [] := map_ne h
theorem boolsF_at {l : List (Bool)} {k : Nat} (h : k < l.length) : (boolsF l)[k * 1]? = some (.v (.bool l[k])) := map_at h
theorem Within_t (n lo hi : Int) (h : lo ≤ n ∧ n ≤ hi) : Summ Tryd.prog GG 46 [iv n, iv lo, iv hi] (.v (.bool true)) := by
  have := Within_s n lo hi
  rwa [show withinB n lo hi = true by simp [withinB, h]] at this
theorem Within_f (n lo hi : Int) (h : ¬ (lo ≤ n ∧ n ≤ hi)) : Summ Tryd.prog GG 46 [iv n, iv lo, iv hi] (.v (.bool false)) := by
  have := Within_s n lo hi
  rwa [show withinB n lo hi = false by simp [withinB]; omega] at this
theorem initF_ints (n : Nat) : initF [.int .i64 0] (n * 1) = intsF (List.replicate n 0) := by
  rw [Nat.mul_one, initF_one]; simp [intsF, iv]
theorem setI (s : List Int) (k : Nat) (z : Int) : Ab.setAt (intsF s) (k * 1) [iv z] = intsF (s.set k z) := by
  rw [Nat.mul_one]; simp [Ab.setAt, intsF, List.map_set]
theorem atI' {s : List Int} {k : Nat} (hk : k < s.length) : (intsF s)[k * 1]? = some (iv (s.getD k 0)) := by
  rw [getD_get hk]; exact map_at hk
theorem lay_at {x : Grid} {k : Int} (h0 : 0 ≤ k) (h1 : k < x.layers.length) : layerAtI x k = x.layers[k.toNat]'(by omega) := by
  have h : k.toNat < x.layers.length := by omega
  unfold layerAtI
  rw [List.getD_eq_getElem?_getD, List.getElem?_eq_getElem h, Option.getD_some]
theorem intsF_tk' {l : List Int} {k : Nat} (hk : k < l.length) : l.take (k + 1) = l.take k ++ [l[k]] := List.take_succ_eq_append_getElem hk
theorem max_to (k n : Nat) (hn : 0 < n) : (min ((k : Int) + 1) ((n : Int) - 1)).toNat = if k + 1 < n then k + 1 else n - 1 := by split <;> omega
theorem iceErr_s (x : Grid) (b : SmallG x) : Summ Tryd.prog GG 84 [gridF x] (iv (iceErrE x)) := by
  refine ⟨enters_of Tryd.func84 (by kernel_rfl) rfl, fun w M us hM hG R => ?_⟩
  obtain ⟨u1, us1, rfl, r1, R1⟩ := R.head
  have := R1.end; subst this
  obtain ⟨la, ta, lc, tc, rfl, hg⟩ := rep_gridF r1 b.nl b.nt
  exact (iceErr_any la ta lc tc x w hg).mono fun e w' ⟨h1, h2⟩ => ⟨_, h1, RepF.v _, h2⟩
theorem layersErr_s (x : Grid) (l : List Int) (b : SmallG x) (hm : l.length ≤ 140737488355328) : Summ Tryd.prog GG 109 [gridF x, .sl l.length (intsF l)] (iv (layersErrE x l)) := by
  refine ⟨enters_of Tryd.func109 (by kernel_rfl) rfl, fun w M us hM hG R => ?_⟩
  obtain ⟨u1, us1, rfl, r1, R1⟩ := R.head
  obtain ⟨u2, us2, rfl, r2, R2⟩ := R1.head
  have := R2.end; subst this
  obtain ⟨la, ta, lc, tc, rfl, hg⟩ := rep_gridF r1 b.nl b.nt
  obtain ⟨a, c, rfl, _, hr⟩ := rep_row r2 (detC_ints l)
  exact (layersErr_any la ta lc tc x a c l w hg hr hm).mono fun e w' ⟨h1, h2⟩ => ⟨_, h1, RepF.v _, h2⟩
theorem oddPhotons_s (l : List Int) (hm : l.length ≤ 140737488355328) : Summ Tryd.prog GG 106 [.sl l.length (intsF l), .fn 107 []] (bv (l.any fun n => !withinB n 0 1000000)) := by
  refine ⟨enters_of Tryd.func106 (by kernel_rfl) rfl, fun w M us hM hG R => ?_⟩
  obtain ⟨u1, us1, rfl, r1, R1⟩ := R.head
  obtain ⟨u2, us2, rfl, r2, R2⟩ := R1.head
  have := R2.end; subst this
  obtain ⟨a, c, rfl, _, hr⟩ := rep_row r1 (detC_ints l)
  cases r2 with
  | fn _ _ us h1 h2 =>
    have : us = [] := List.eq_nil_of_length_eq_zero (by simpa using h1)
    subst this
    exact (containsInt (fun n => !withinB n 0 1000000) 107 #[] (enters_of Tryd.func107 (by kernel_rfl) rfl) a l c w (by unfold maxLen; omega) hr (fun k w' _ _ => ckPhotons_any k w')).mono fun e w' ⟨h1, h2⟩ => ⟨_, h1, RepF.v _, h2⟩
structure SpreadOk (x : Grid) (t l : List Int) : Prop where
  v : Valid x
  n1 : 1 ≤ t.length
  n2 : t.length ≤ 1000
  l2 : l.length ≤ 1000
  lay : ∀ k ∈ l, 0 ≤ k ∧ k < x.layers.length
  nn : ∀ z ∈ t, 0 ≤ z
  sum : t.sum ≤ 1000000000
structure TabOk (t cur : List Int) : Prop where
  len : cur.length = t.length
  nn : ∀ z ∈ cur, 0 ≤ z
  sum : cur.sum ≤ 1000000000
theorem SpreadOk.tab {x : Grid} {t l : List Int} (h : SpreadOk x t l) (s : Nat) : TabOk t (spreadL x t (l.take s)) := by
  have := spreadL_bd h.v (l.take s) t (fun k hk => h.lay k (List.mem_of_mem_take hk)) h.nn
  exact ⟨spreadL_len _ _ _, this.1, Int.le_trans this.2 h.sum⟩
structure BinOk (y : Layer) (n : Int) : Prop where
  a : 0 ≤ n ∧ n ≤ 1000000000
  b : 0 ≤ n * y.loss ∧ n * y.loss ≤ 1000000000000
  c : 0 ≤ restOf y n ∧ restOf y n ≤ n
  d : 0 ≤ restOf y n * y.scatter ∧ restOf y n * y.scatter ≤ 1000000000000
  e : 0 ≤ lateOf y n ∧ lateOf y n ≤ restOf y n
theorem binOk {y : Layer} (v : LayerV y) {n : Int} (h : 0 ≤ n ∧ n ≤ 1000000000) : BinOk y n := by
  have r := rest_bd v h.1
  refine ⟨h, ⟨Int.mul_nonneg h.1 v.1.1, ?_⟩, r, ⟨Int.mul_nonneg r.1 v.2.1, ?_⟩, late_bd v h.1⟩
  · exact Int.le_trans (Int.mul_le_mul h.2 v.1.2 v.1.1 (by decide)) (by decide)
  · exact Int.le_trans (Int.mul_le_mul (Int.le_trans r.2 h.2) v.2.2 v.2.1 (by decide)) (by decide)
theorem TabOk.bin {t cur : List Int} (h : TabOk t cur) {k : Nat} (hk : k < cur.length) : 0 ≤ cur[k] ∧ cur[k] ≤ 1000000000 :=
  ⟨h.nn _ (List.getElem_mem hk), Int.le_trans (le_sum h.nn (List.getElem_mem hk)) h.sum⟩
theorem TabOk.next {t cur : List Int} (h : TabOk t cur) {y : Layer} (v : LayerV y) (k : Nat) (hk : k ≤ t.length) : TabOk t (spreadTo y cur k) := by
  have := spreadTo_bd v h.nn k (by rw [h.len]; exact hk)
  exact ⟨(spreadTo_len _ _ _).trans h.len, this.1, Int.le_trans this.2 (Int.le_trans (take_sum_le h.nn k) h.sum)⟩
theorem spread_at {y : Layer} {cur : List Int} {k n : Nat} (hn : cur.length = n) (hk : k < n) {v v2 : Int} (e1 : v = (spreadTo y cur k).getD k 0 + (restOf y cur[k] - lateOf y cur[k])) (e2 : v2 = ((spreadTo y cur k).set k v).getD (if k + 1 < n then k + 1 else n - 1) 0 + lateOf y cur[k]) :
    ((spreadTo y cur k).set k v).set (if k + 1 < n then k + 1 else n - 1) v2 = spreadTo y cur (k + 1) := by
  subst e2; subst e1; subst hn
  rw [spreadTo, spreadOne, getD_get hk]
set_option maxRecDepth 100000 in
theorem spread_s (x : Grid) (t l : List Int) (h : SpreadOk x t l) : Summ Tryd.prog GG 110 [gridF x, .sl t.length (intsF t), .sl l.length (intsF l)] (.sl t.length (intsF (spreadL x t l))) := by
  have n1 := h.n1; have n2 := h.n2; have l2 := h.l2
  refine summW Tryd.func110 rfl rfl 74 rfl (by simp) (fun M0 => ?_)
  repeat (first
    | (apply s_auto TY; exact rfl; exact rfl; exact rfl)
    | (apply s_cmpt; exact rfl; exact rfl; exact rfl; (first | assumption | omega))
    | (apply s_cmpf; exact rfl; exact rfl; exact rfl; (first | assumption | omega))
    | apply w_seq
    | apply w_region
    | apply s_nil
    | apply t_norm
    | apply t_exit
    | apply t_ret
    | apply k_hit
    | (apply k_miss; exact rfl)
    | apply k_norm
    | apply k_ret
    | apply w_block
    | apply w_exit
    | apply w_ret
    | apply w_skip
    | (apply w_condT; exact rfl; exact rfl)
    | (apply w_condF; exact rfl; exact rfl)
    | (apply s_cond TY; exact rfl; exact rfl; exact rfl; (first | omega | exact ⟨by omega, by (first | with_reducible assumption | ((with_reducible apply intsF_ne); omega) | ((with_reducible apply laysF_ne); omega) | ((with_reducible apply celsF_ne); omega) | ((with_reducible apply rngsF_ne); omega) | ((with_reducible apply flasF_ne); omega) | ((with_reducible apply matF_ne); omega) | ((with_reducible apply boolsF_ne); omega) | exact nea (by simp <;> omega))⟩))
    | (apply s_idxz TY; exact rfl; exact rfl; exact rfl; (first | omega | exact ⟨by omega, by (first | with_reducible assumption | ((with_reducible apply intsF_ne); omega) | ((with_reducible apply laysF_ne); omega) | ((with_reducible apply celsF_ne); omega) | ((with_reducible apply rngsF_ne); omega) | ((with_reducible apply flasF_ne); omega) | ((with_reducible apply matF_ne); omega) | ((with_reducible apply boolsF_ne); omega) | exact nea (by simp <;> omega))⟩))
    | (apply s_ld TY; exact rfl; exact rfl; exact rfl; exact rfl; (first | exact rfl | with_reducible assumption | ((with_reducible apply intsF_at); omega) | ((with_reducible apply matF_at); omega) | ((with_reducible apply boolsF_at); omega) | assumption))
    | (apply s_lds TY; exact rfl; exact rfl; exact rfl; exact rfl; (first | with_reducible assumption | ((with_reducible apply laysF_sub); omega) | ((with_reducible apply celsF_sub); omega) | ((with_reducible apply rngsF_sub); omega) | ((with_reducible apply flasF_sub); omega) | exact rfl); exact rfl)
    | (apply s_ldr TY; exact rfl; exact rfl; exact rfl; exact rfl; exact rfl; (first | exact rfl | with_reducible assumption | ((with_reducible apply intsF_at); omega) | ((with_reducible apply matF_at); omega) | ((with_reducible apply boolsF_at); omega) | assumption))
    | (apply s_store TY; exact rfl; exact rfl; exact rfl; exact rfl; exact rfl; exact rfl)
    | (apply s_storeR TY; exact rfl; exact rfl; exact rfl; exact rfl; exact rfl; (first | exact rfl | (simp [intsF, setAt_length, initF] <;> omega)))
    | (apply s_make TY; exact rfl; exact rfl; exact rfl; exact rfl; exact rfl; exact rfl; omega; omega; omega; omega))
  apply w_loop (fun s : Nat => ⟨(Ab.upd (Ab.upd (Ab.upd (Ab.upd (Ab.upd (fun _ => .bot) 1 (.f (.sl t.length (intsF (spreadL x t (l.take s)))))) 3 (.f (.pt (gridL x) 0))) 13 (.f (.sl l.length (intsF l)))) 14 (.f (iv l.length))) 15 (.f (iv (s : Nat)))), (fun _ => none), 0⟩) (fun s => s ≤ l.length) (fun s => l.length - s) 0 (Nat.zero_le _) (gh_le ⟨le_upd rfl trivial (le_upd rfl trivial (le_upd rfl trivial (le_upd rfl trivial (le_upd rfl trivial (le_nil _))))), le_h0 _ _⟩)
  intro s hs
  by_cases hsc : s < l.length
  · have hz := h.lay _ (List.getElem_mem hsc)
    have h0 := hz.1
    have h1 := hz.2
    have hy := lay_at h0 h1
    have hv := layerAtI_v h.v h0 h1
    have T := h.tab s
    have hsn : spreadL x t (l.take (s + 1)) = spreadStep (layerAtI x l[s]) (spreadL x t (l.take s)) := by rw [intsF_tk' hsc, spreadL_snoc]
    obtain ⟨y, ey⟩ : ∃ y, y = layerAtI x l[s] := ⟨_, rfl⟩
    have hcur : ∃ cur, cur = spreadL x t (l.take s) := ⟨_, rfl⟩
    obtain ⟨cur, ec⟩ := hcur
    rw [← ey, ← ec] at hsn
    rw [← ec] at T
    rw [← ey] at hv hy
    rw [← ec]
    have hlen := T.len
    have ya : (laysF x.layers)[l[s].toNat * 3 + 1]? = some (iv y.loss) := by rw [hy]; exact flat_at (f := layF) (fun _ => rfl) (by omega) (by decide)
    have yb : (laysF x.layers)[l[s].toNat * 3 + 2]? = some (iv y.scatter) := by rw [hy]; exact flat_at (f := layF) (fun _ => rfl) (by omega) (by decide)
    have yc : ((laysF x.layers).drop (l[s].toNat * 3)).take 3 = layF y := by rw [hy]; exact flat_sub (f := layF) (fun _ => rfl) (by omega)
    clear ec ey
    repeat (first
    | (apply s_auto TY; exact rfl; exact rfl; exact rfl)
    | (apply s_cmpt; exact rfl; exact rfl; exact rfl; (first | assumption | omega))
    | (apply s_cmpf; exact rfl; exact rfl; exact rfl; (first | assumption | omega))
    | apply w_seq
    | apply w_region
    | apply s_nil
    | apply t_norm
    | apply t_exit
    | apply t_ret
    | apply k_hit
    | (apply k_miss; exact rfl)
    | apply k_norm
    | apply k_ret
    | apply w_block
    | apply w_exit
    | apply w_ret
    | apply w_skip
    | (apply w_condT; exact rfl; exact rfl)
    | (apply w_condF; exact rfl; exact rfl)
    | (apply s_cond TY; exact rfl; exact rfl; exact rfl; (first | omega | exact ⟨by omega, by (first | with_reducible assumption | ((with_reducible apply intsF_ne); omega) | ((with_reducible apply laysF_ne); omega) | ((with_reducible apply celsF_ne); omega) | ((with_reducible apply rngsF_ne); omega) | ((with_reducible apply flasF_ne); omega) | ((with_reducible apply matF_ne); omega) | ((with_reducible apply boolsF_ne); omega) | exact nea (by simp <;> omega))⟩))
    | (apply s_idxz TY; exact rfl; exact rfl; exact rfl; (first | omega | exact ⟨by omega, by (first | with_reducible assumption | ((with_reducible apply intsF_ne); omega) | ((with_reducible apply laysF_ne); omega) | ((with_reducible apply celsF_ne); omega) | ((with_reducible apply rngsF_ne); omega) | ((with_reducible apply flasF_ne); omega) | ((with_reducible apply matF_ne); omega) | ((with_reducible apply boolsF_ne); omega) | exact nea (by simp <;> omega))⟩))
    | (apply s_ld TY; exact rfl; exact rfl; exact rfl; exact rfl; (first | exact rfl | with_reducible assumption | ((with_reducible apply intsF_at); omega) | ((with_reducible apply matF_at); omega) | ((with_reducible apply boolsF_at); omega) | assumption))
    | (apply s_lds TY; exact rfl; exact rfl; exact rfl; exact rfl; (first | with_reducible assumption | ((with_reducible apply laysF_sub); omega) | ((with_reducible apply celsF_sub); omega) | ((with_reducible apply rngsF_sub); omega) | ((with_reducible apply flasF_sub); omega) | exact rfl); exact rfl)
    | (apply s_ldr TY; exact rfl; exact rfl; exact rfl; exact rfl; exact rfl; (first | exact rfl | with_reducible assumption | ((with_reducible apply intsF_at); omega) | ((with_reducible apply matF_at); omega) | ((with_reducible apply boolsF_at); omega) | assumption))
    | (apply s_store TY; exact rfl; exact rfl; exact rfl; exact rfl; exact rfl; exact rfl)
    | (apply s_storeR TY; exact rfl; exact rfl; exact rfl; exact rfl; exact rfl; (first | exact rfl | (simp [intsF, setAt_length, initF] <;> omega)))
    | (apply s_make TY; exact rfl; exact rfl; exact rfl; exact rfl; exact rfl; exact rfl; omega; omega; omega; omega))
    apply w_loop (fun k : Nat => ⟨(Ab.upd (Ab.upd (Ab.upd (Ab.upd (Ab.upd (Ab.upd (Ab.upd (Ab.upd (Ab.upd (Ab.upd (fun _ => .bot) 1 (.f (.sl t.length (intsF cur)))) 3 (.f (.pt (gridL x) 0))) 8 (.f (iv (l[s])))) 9 (.ow 0)) 13 (.f (.sl l.length (intsF l)))) 14 (.f (iv l.length))) 15 (.f (iv (s : Nat)))) 22 (.f (.sl t.length (intsF cur)))) 23 (.f (iv t.length))) 24 (.f (iv (k : Nat)))), (Ab.upd (fun _ => none) 0 (some (.row 3 1 t.length (intsF (spreadTo y cur k))))), 1⟩) (fun k => k ≤ t.length) (fun k => t.length - k) 0 (Nat.zero_le _) (gh_le ⟨le_upd rfl trivial (le_upd rfl trivial (le_upd rfl trivial (le_upd rfl trivial (le_upd rfl trivial (le_upd rfl trivial (le_upd rfl rfl (le_upd rfl trivial (le_upd rfl trivial (le_upd rfl trivial (le_nil _)))))))))), le_hupd (by rw [← hlen, initF_ints]; rfl) trivial (le_h0 _ _)⟩)
    intro k hk
    by_cases hkc : k < t.length
    · have hkl : k < cur.length := by omega
      have TK := T.next hv k hk
      have TL := T.next hv (k + 1) hkc
      have tl := TK.len
      have b := binOk hv (T.bin hkl)
      have b1 := b.a; have b2 := b.b; have b3 := b.c; have b5 := b.e
      have b4 : 0 ≤ (cur[k] - cur[k] * y.loss / 1000) * y.scatter ∧ (cur[k] - cur[k] * y.loss / 1000) * y.scatter ≤ 1000000000000 := b.d
      have u2 : restOf y cur[k] = cur[k] - cur[k] * y.loss / 1000 := rfl
      have u3 : lateOf y cur[k] = restOf y cur[k] * y.scatter / 1000 := rfl
      have sk := TK.bin (k := k) (by omega)
      have jz := max_to k t.length (by omega)
      have jl : (if k + 1 < t.length then k + 1 else t.length - 1) < t.length := by split <;> omega
      have jb : 0 ≤ ((spreadTo y cur k).set k ((spreadTo y cur k)[k] + (restOf y cur[k] - lateOf y cur[k]))).getD (if k + 1 < t.length then k + 1 else t.length - 1) 0 ∧ ((spreadTo y cur k).set k ((spreadTo y cur k)[k] + (restOf y cur[k] - lateOf y cur[k]))).getD (if k + 1 < t.length then k + 1 else t.length - 1) 0 ≤ 2000000000 :=
        getD_mem0 (P := fun z => 0 ≤ z ∧ z ≤ 2000000000) (set_all (fun z hz => ⟨TK.nn z hz, by have := le_sum TK.nn hz; have := TK.sum; omega⟩) (by omega)) (by decide)
      have a3 : (Ab.setAt (intsF (spreadTo y cur k)) (k * 1) [iv ((spreadTo y cur k)[k] + (restOf y cur[k] - lateOf y cur[k]))])[(min ((k : Int) + 1) ((t.length : Int) - 1)).toNat * 1]? = some (iv (((spreadTo y cur k).set k ((spreadTo y cur k)[k] + (restOf y cur[k] - lateOf y cur[k]))).getD (if k + 1 < t.length then k + 1 else t.length - 1) 0)) := by
        rw [setI, jz]; exact atI' (by simp; omega)
      have HF : Ab.setAt (Ab.setAt (intsF (spreadTo y cur k)) (k * 1) [iv ((spreadTo y cur k)[k] + (restOf y cur[k] - lateOf y cur[k]))]) ((min ((k : Int) + 1) ((t.length : Int) - 1)).toNat * 1) [iv (((spreadTo y cur k).set k ((spreadTo y cur k)[k] + (restOf y cur[k] - lateOf y cur[k]))).getD (if k + 1 < t.length then k + 1 else t.length - 1) 0 + lateOf y cur[k])] = intsF (spreadTo y cur (k + 1)) := by
        rw [setI, jz, setI, spread_at hlen hkc (by rw [getD_get (by omega)]) rfl]
      repeat (first
    | (apply s_auto TY; exact rfl; exact rfl; exact rfl)
    | (apply s_cmpt; exact rfl; exact rfl; exact rfl; (first | assumption | omega))
    | (apply s_cmpf; exact rfl; exact rfl; exact rfl; (first | assumption | omega))
    | apply w_seq
    | apply w_region
    | apply s_nil
    | apply t_norm
    | apply t_exit
    | apply t_ret
    | apply k_hit
    | (apply k_miss; exact rfl)
    | apply k_norm
    | apply k_ret
    | apply w_block
    | apply w_exit
    | apply w_ret
    | apply w_skip
    | (apply w_condT; exact rfl; exact rfl)
    | (apply w_condF; exact rfl; exact rfl)
    | (apply s_cond TY; exact rfl; exact rfl; exact rfl; (first | omega | exact ⟨by omega, by (first | with_reducible assumption | ((with_reducible apply intsF_ne); omega) | ((with_reducible apply laysF_ne); omega) | ((with_reducible apply celsF_ne); omega) | ((with_reducible apply rngsF_ne); omega) | ((with_reducible apply flasF_ne); omega) | ((with_reducible apply matF_ne); omega) | ((with_reducible apply boolsF_ne); omega) | exact nea (by simp <;> omega))⟩))
    | (apply s_idxz TY; exact rfl; exact rfl; exact rfl; (first | omega | exact ⟨by omega, by (first | with_reducible assumption | ((with_reducible apply intsF_ne); omega) | ((with_reducible apply laysF_ne); omega) | ((with_reducible apply celsF_ne); omega) | ((with_reducible apply rngsF_ne); omega) | ((with_reducible apply flasF_ne); omega) | ((with_reducible apply matF_ne); omega) | ((with_reducible apply boolsF_ne); omega) | exact nea (by simp <;> omega))⟩))
    | (apply s_ld TY; exact rfl; exact rfl; exact rfl; exact rfl; (first | exact rfl | with_reducible assumption | ((with_reducible apply intsF_at); omega) | ((with_reducible apply matF_at); omega) | ((with_reducible apply boolsF_at); omega) | assumption))
    | (apply s_lds TY; exact rfl; exact rfl; exact rfl; exact rfl; (first | with_reducible assumption | ((with_reducible apply laysF_sub); omega) | ((with_reducible apply celsF_sub); omega) | ((with_reducible apply rngsF_sub); omega) | ((with_reducible apply flasF_sub); omega) | exact rfl); exact rfl)
    | (apply s_ldr TY; exact rfl; exact rfl; exact rfl; exact rfl; exact rfl; (first | exact rfl | with_reducible assumption | ((with_reducible apply intsF_at); omega) | ((with_reducible apply matF_at); omega) | ((with_reducible apply boolsF_at); omega) | assumption))
    | (apply s_store TY; exact rfl; exact rfl; exact rfl; exact rfl; exact rfl; exact rfl)
    | (apply s_storeR TY; exact rfl; exact rfl; exact rfl; exact rfl; exact rfl; (first | exact rfl | (simp [intsF, setAt_length] <;> omega)))
    | (apply s_make TY; exact rfl; exact rfl; exact rfl; exact rfl; exact rfl; exact rfl; omega; omega; omega; omega))
      exact ⟨k + 1, by omega, by omega, gh_le ⟨le_upd rfl trivial (le_upd rfl trivial (le_upd rfl trivial (le_upd rfl trivial (le_upd rfl trivial (le_upd rfl trivial (le_upd rfl rfl (le_upd rfl trivial (le_upd rfl trivial (le_upd rfl trivial (le_nil _)))))))))), le_hupd (congrArg (fun z => some (Blk.row 3 1 t.length z)) HF) trivial (le_h0 _ _)⟩⟩
    have hke : k = t.length := by omega
    subst hke
    repeat (first
    | (apply s_auto TY; exact rfl; exact rfl; exact rfl)
    | (apply s_cmpt; exact rfl; exact rfl; exact rfl; (first | assumption | omega))
    | (apply s_cmpf; exact rfl; exact rfl; exact rfl; (first | assumption | omega))
    | apply w_seq
    | apply w_region
    | apply s_nil
    | apply t_norm
    | apply t_exit
    | apply t_ret
    | apply k_hit
    | (apply k_miss; exact rfl)
    | apply k_norm
    | apply k_ret
    | apply w_block
    | apply w_exit
    | apply w_ret
    | apply w_skip
    | (apply w_condT; exact rfl; exact rfl)
    | (apply w_condF; exact rfl; exact rfl)
    | (apply s_cond TY; exact rfl; exact rfl; exact rfl; (first | omega | exact ⟨by omega, by (first | with_reducible assumption | ((with_reducible apply intsF_ne); omega) | ((with_reducible apply laysF_ne); omega) | ((with_reducible apply celsF_ne); omega) | ((with_reducible apply rngsF_ne); omega) | ((with_reducible apply flasF_ne); omega) | ((with_reducible apply matF_ne); omega) | ((with_reducible apply boolsF_ne); omega) | exact nea (by simp <;> omega))⟩))
    | (apply s_idxz TY; exact rfl; exact rfl; exact rfl; (first | omega | exact ⟨by omega, by (first | with_reducible assumption | ((with_reducible apply intsF_ne); omega) | ((with_reducible apply laysF_ne); omega) | ((with_reducible apply celsF_ne); omega) | ((with_reducible apply rngsF_ne); omega) | ((with_reducible apply flasF_ne); omega) | ((with_reducible apply matF_ne); omega) | ((with_reducible apply boolsF_ne); omega) | exact nea (by simp <;> omega))⟩))
    | (apply s_ld TY; exact rfl; exact rfl; exact rfl; exact rfl; (first | exact rfl | with_reducible assumption | ((with_reducible apply intsF_at); omega) | ((with_reducible apply matF_at); omega) | ((with_reducible apply boolsF_at); omega) | assumption))
    | (apply s_lds TY; exact rfl; exact rfl; exact rfl; exact rfl; (first | with_reducible assumption | ((with_reducible apply laysF_sub); omega) | ((with_reducible apply celsF_sub); omega) | ((with_reducible apply rngsF_sub); omega) | ((with_reducible apply flasF_sub); omega) | exact rfl); exact rfl)
    | (apply s_ldr TY; exact rfl; exact rfl; exact rfl; exact rfl; exact rfl; (first | exact rfl | with_reducible assumption | ((with_reducible apply intsF_at); omega) | ((with_reducible apply matF_at); omega) | ((with_reducible apply boolsF_at); omega) | assumption))
    | (apply s_store TY; exact rfl; exact rfl; exact rfl; exact rfl; exact rfl; exact rfl)
    | (apply s_storeR TY; exact rfl; exact rfl; exact rfl; exact rfl; exact rfl; (first | exact rfl | (simp [intsF, setAt_length, initF] <;> omega)))
    | (apply s_make TY; exact rfl; exact rfl; exact rfl; exact rfl; exact rfl; exact rfl; omega; omega; omega; omega))
    refine ⟨s + 1, by omega, by omega, gh_trans (gh_row 0 rfl) ?_⟩
    exact gh_le ⟨le_upd rfl trivial (le_upd rfl trivial (le_upd rfl trivial (le_upd rfl trivial (le_upd (congrArg (fun z => AV.f (.sl t.length (intsF z))) (hsn.trans (by rw [spreadStep, hlen]))) trivial (le_nil _))))), le_h0 _ _⟩
  have hse : s = l.length := by omega
  subst hse
  repeat (first
    | (apply s_auto TY; exact rfl; exact rfl; exact rfl)
    | (apply s_cmpt; exact rfl; exact rfl; exact rfl; (first | assumption | omega))
    | (apply s_cmpf; exact rfl; exact rfl; exact rfl; (first | assumption | omega))
    | apply w_seq
    | apply w_region
    | apply s_nil
    | apply t_norm
    | apply t_exit
    | apply t_ret
    | apply k_hit
    | (apply k_miss; exact rfl)
    | apply k_norm
    | apply k_ret
    | apply w_block
    | apply w_exit
    | apply w_ret
    | apply w_skip
    | (apply w_condT; exact rfl; exact rfl)
    | (apply w_condF; exact rfl; exact rfl)
    | (apply s_cond TY; exact rfl; exact rfl; exact rfl; (first | omega | exact ⟨by omega, by (first | with_reducible assumption | ((with_reducible apply intsF_ne); omega) | ((with_reducible apply laysF_ne); omega) | ((with_reducible apply celsF_ne); omega) | ((with_reducible apply rngsF_ne); omega) | ((with_reducible apply flasF_ne); omega) | ((with_reducible apply matF_ne); omega) | ((with_reducible apply boolsF_ne); omega) | exact nea (by simp <;> omega))⟩))
    | (apply s_idxz TY; exact rfl; exact rfl; exact rfl; (first | omega | exact ⟨by omega, by (first | with_reducible assumption | ((with_reducible apply intsF_ne); omega) | ((with_reducible apply laysF_ne); omega) | ((with_reducible apply celsF_ne); omega) | ((with_reducible apply rngsF_ne); omega) | ((with_reducible apply flasF_ne); omega) | ((with_reducible apply matF_ne); omega) | ((with_reducible apply boolsF_ne); omega) | exact nea (by simp <;> omega))⟩))
    | (apply s_ld TY; exact rfl; exact rfl; exact rfl; exact rfl; (first | exact rfl | with_reducible assumption | ((with_reducible apply intsF_at); omega) | ((with_reducible apply matF_at); omega) | ((with_reducible apply boolsF_at); omega) | assumption))
    | (apply s_lds TY; exact rfl; exact rfl; exact rfl; exact rfl; (first | with_reducible assumption | ((with_reducible apply laysF_sub); omega) | ((with_reducible apply celsF_sub); omega) | ((with_reducible apply rngsF_sub); omega) | ((with_reducible apply flasF_sub); omega) | exact rfl); exact rfl)
    | (apply s_ldr TY; exact rfl; exact rfl; exact rfl; exact rfl; exact rfl; (first | exact rfl | with_reducible assumption | ((with_reducible apply intsF_at); omega) | ((with_reducible apply matF_at); omega) | ((with_reducible apply boolsF_at); omega) | assumption))
    | (apply s_store TY; exact rfl; exact rfl; exact rfl; exact rfl; exact rfl; exact rfl)
    | (apply s_storeR TY; exact rfl; exact rfl; exact rfl; exact rfl; exact rfl; (first | exact rfl | (simp [intsF, setAt_length, initF] <;> omega)))
    | (apply s_make TY; exact rfl; exact rfl; exact rfl; exact rfl; exact rfl; exact rfl; omega; omega; omega; omega))
  exact lv_ret (ret1 rfl (res_tmp (congrArg (fun z => AV.f (.sl t.length (intsF (spreadL x t z)))) (List.take_length))))
end Go.Proofs.YtienhiloecfgnaaDoor
namespace Go.Proofs.YtienhiloecfgnaaDoor
open Go Go.RowKit Go.Proofs Go.Shelf Go.Ab
theorem spread5_s (x : Grid) (t l : List Int) : Summ Tryd.prog GG 83 [.sl 5 [iv (iceErrE x), iv (unlessE (decide ((0 : Int) < (t.length : Int))) 10), iv (unlessE (decide ((t.length : Int) ≤ 30)) 8), iv (unlessE (!t.any fun n => !withinB n 0 1000000) 2), iv (layersErrE x l)]] (iv (spreadE x t l)) := by
  have h := first_s [iceErrE x, unlessE (decide ((0 : Int) < (t.length : Int))) 10, unlessE (decide ((t.length : Int) ≤ 30)) 8, unlessE (!t.any fun n => !withinB n 0 1000000) 2, layersErrE x l] (by simp)
  have e : firstE [iceErrE x, unlessE (decide ((0 : Int) < (t.length : Int))) 10, unlessE (decide ((t.length : Int) ≤ 30)) 8, unlessE (!t.any fun n => !withinB n 0 1000000) 2, layersErrE x l] = spreadE x t l := by
    unfold spreadE
    rw [show decide ((0 : Int) < (t.length : Int)) = decide (0 < t.length) from decide_eq_decide.2 (by omega)]
  rw [e] at h
  exact h
set_option maxRecDepth 100000 in
theorem Spread_err (x : Grid) (t l : List Int) (b : SmallG x) (hn : t.length ≤ 140737488355328) (hm : l.length ≤ 140737488355328) (e : spreadE x t l ≠ 0) : Summ Tryd.prog GG 37 [gridF x, .sl t.length (intsF t), .sl l.length (intsF l)] (.tup [.v (.slice none 0 0), iv (spreadE x t l)]) := by
  have g := ndT e
  refine summW Tryd.func37 rfl rfl 38 rfl (by simp) (fun M0 => ?_)
  repeat (first
    | (apply s_auto TY; exact rfl; exact rfl; exact rfl)
    | (apply s_cmpt; exact rfl; exact rfl; exact rfl; assumption)
    | (apply s_cmpf; exact rfl; exact rfl; exact rfl; assumption)
    | apply w_seq
    | apply w_region
    | (apply w_draw (id := 2) 15 rfl (by kernel_rfl))
    | (apply w_draw (id := 5) 4 rfl (by kernel_rfl))
    | apply s_nil
    | apply t_norm
    | apply t_exit
    | apply t_ret
    | apply k_hit
    | (apply k_miss; exact rfl)
    | apply k_norm
    | apply k_ret
    | apply w_block
    | apply w_exit
    | apply w_ret
    | apply w_skip
    | (apply w_condT; exact rfl; exact rfl)
    | (apply w_condF; exact rfl; exact rfl)
    | (apply s_cl (iceErr_s x b); exact rfl; exact rfl; exact rfl; exact rfl; exact rfl)
    | (apply s_cl (layersErr_s x l b hm); exact rfl; exact rfl; exact rfl; exact rfl; exact rfl)
    | (apply s_cl (oddPhotons_s t hn); exact rfl; exact rfl; exact rfl; exact rfl; exact rfl)
    | (apply s_cl (spread5_s x t l); exact rfl; exact rfl; exact rfl; exact rfl; exact rfl)
    | (apply s_cl1 (first_s _); exact rfl; exact rfl; exact rfl; exact rfl; exact rfl; (first | assumption | omega | decide))
    | (apply s_cl (unless_s _ _); exact rfl; exact rfl; exact rfl; exact rfl; exact rfl)
    | (apply s_ld TY; exact rfl; exact rfl; exact rfl; exact rfl; (first | exact rfl | with_reducible assumption | ((with_reducible apply intsF_at); omega) | ((with_reducible apply matF_at); omega) | ((with_reducible apply boolsF_at); omega) | assumption))
    | (apply s_lds TY; exact rfl; exact rfl; exact rfl; exact rfl; (first | with_reducible assumption | ((with_reducible apply laysF_sub); omega) | ((with_reducible apply celsF_sub); omega) | ((with_reducible apply rngsF_sub); omega) | ((with_reducible apply flasF_sub); omega) | exact rfl); exact rfl)
    | (apply s_ldr TY; exact rfl; exact rfl; exact rfl; exact rfl; exact rfl; (first | exact rfl | with_reducible assumption | ((with_reducible apply intsF_at); omega) | ((with_reducible apply matF_at); omega) | ((with_reducible apply boolsF_at); omega) | assumption))
    | (apply s_leq; exact rfl; exact rfl; exact rfl)
    | (apply s_gtr; exact rfl; exact rfl; exact rfl)
    | (apply s_neq; exact rfl; exact rfl; exact rfl)
    | (apply w_condT; exact rfl; (first | exact rfl | assumption))
    | (apply w_condF; exact rfl; (first | exact rfl | assumption)))
  exact lv_ret (ret2 rfl (res_tmp rfl) (res_tmp rfl))
set_option maxRecDepth 100000 in
theorem Spread_ok (x : Grid) (t l : List Int) (b : SmallG x) (hn : t.length ≤ 140737488355328) (hm : l.length ≤ 140737488355328) (e : spreadE x t l = 0) : Summ Tryd.prog GG 37 [gridF x, .sl t.length (intsF t), .sl l.length (intsF l)] (.tup [.sl t.length (intsF (spreadL x t l)), iv 0]) := by
  have g := ndF e
  have K : SpreadOk x t l := by
    obtain ⟨v, ⟨h1, h2, h3⟩, h4, h5⟩ := spreadE_zero.1 e
    exact ⟨v, h1, by omega, by omega, h5, fun z hz => (h3 z hz).1, Int.le_trans (sum_le_of (B := 1000000) fun z hz => (h3 z hz).2) (by omega)⟩
  have CL : Summ Tryd.prog GG 111 [.sl t.length (intsF t)] (.sl t.length (intsF t)) := SummN.toSumm (cloneI_s t (by have := K.n2; omega))
  have SP := spread_s x t l K
  refine summW Tryd.func37 rfl rfl 38 rfl (by simp) (fun M0 => ?_)
  repeat (first
    | (apply s_auto TY; exact rfl; exact rfl; exact rfl)
    | (apply s_cmpt; exact rfl; exact rfl; exact rfl; assumption)
    | (apply s_cmpf; exact rfl; exact rfl; exact rfl; assumption)
    | apply w_seq
    | apply w_region
    | (apply w_draw (id := 2) 15 rfl (by kernel_rfl))
    | (apply w_draw (id := 5) 4 rfl (by kernel_rfl))
    | apply s_nil
    | apply t_norm
    | apply t_exit
    | apply t_ret
    | apply k_hit
    | (apply k_miss; exact rfl)
    | apply k_norm
    | apply k_ret
    | apply w_block
    | apply w_exit
    | apply w_ret
    | apply w_skip
    | (apply w_condT; exact rfl; exact rfl)
    | (apply w_condF; exact rfl; exact rfl)
    | (apply s_cl (iceErr_s x b); exact rfl; exact rfl; exact rfl; exact rfl; exact rfl)
    | (apply s_cl (layersErr_s x l b hm); exact rfl; exact rfl; exact rfl; exact rfl; exact rfl)
    | (apply s_cl (oddPhotons_s t hn); exact rfl; exact rfl; exact rfl; exact rfl; exact rfl)
    | (apply s_cl (spread5_s x t l); exact rfl; exact rfl; exact rfl; exact rfl; exact rfl)
    | (apply s_cl (CL); exact rfl; exact rfl; exact rfl; exact rfl; exact rfl)
    | (apply s_cl (SP); exact rfl; exact rfl; exact rfl; exact rfl; exact rfl)
    | (apply s_cl1 (first_s _); exact rfl; exact rfl; exact rfl; exact rfl; exact rfl; (first | assumption | omega | decide))
    | (apply s_cl (unless_s _ _); exact rfl; exact rfl; exact rfl; exact rfl; exact rfl)
    | (apply s_ld TY; exact rfl; exact rfl; exact rfl; exact rfl; (first | exact rfl | with_reducible assumption | ((with_reducible apply intsF_at); omega) | ((with_reducible apply matF_at); omega) | ((with_reducible apply boolsF_at); omega) | assumption))
    | (apply s_lds TY; exact rfl; exact rfl; exact rfl; exact rfl; (first | with_reducible assumption | ((with_reducible apply laysF_sub); omega) | ((with_reducible apply celsF_sub); omega) | ((with_reducible apply rngsF_sub); omega) | ((with_reducible apply flasF_sub); omega) | exact rfl); exact rfl)
    | (apply s_ldr TY; exact rfl; exact rfl; exact rfl; exact rfl; exact rfl; (first | exact rfl | with_reducible assumption | ((with_reducible apply intsF_at); omega) | ((with_reducible apply matF_at); omega) | ((with_reducible apply boolsF_at); omega) | assumption))
    | (apply s_leq; exact rfl; exact rfl; exact rfl)
    | (apply s_gtr; exact rfl; exact rfl; exact rfl)
    | (apply s_neq; exact rfl; exact rfl; exact rfl)
    | (apply w_condT; exact rfl; (first | exact rfl | assumption))
    | (apply w_condF; exact rfl; (first | exact rfl | assumption)))
  exact lv_ret (ret2 rfl (res_tmp rfl) (res_tmp rfl))
theorem PhotonsErr_s (n : Int) : Summ Tryd.prog GG 43 [iv n] (iv (unlessE (withinB n 0 1000000) 2)) := by
  by_cases h : 0 ≤ n ∧ n ≤ 1000000
  · rw [show withinB n 0 1000000 = true by simp [withinB, h]]
    refine summW Tryd.func43 rfl rfl 6 rfl (by simp) (fun M0 => ?_)
    repeat (first
    | (apply s_auto TY; exact rfl; exact rfl; exact rfl)
    | apply w_seq
    | apply w_region
    | apply s_nil
    | apply t_norm
    | apply t_exit
    | apply t_ret
    | apply k_hit
    | (apply k_miss; exact rfl)
    | apply k_norm
    | apply k_ret
    | apply w_block
    | apply w_exit
    | apply w_ret
    | apply w_skip
    | (apply w_condT; exact rfl; exact rfl)
    | (apply w_condF; exact rfl; exact rfl)
    | (apply s_cl1 (Within_t _ _ _); exact rfl; exact rfl; exact rfl; exact rfl; exact rfl; (first | assumption | omega | decide))
    | (apply s_cl1 (Within_f _ _ _); exact rfl; exact rfl; exact rfl; exact rfl; exact rfl; (first | assumption | omega | decide))
    | (apply s_cl (Within_s _ _ _); exact rfl; exact rfl; exact rfl; exact rfl; exact rfl))
    exact lv_ret (ret1 rfl (res_tmp rfl))
  · rw [show withinB n 0 1000000 = false by simp [withinB]; omega]
    refine summW Tryd.func43 rfl rfl 6 rfl (by simp) (fun M0 => ?_)
    repeat (first
    | (apply s_auto TY; exact rfl; exact rfl; exact rfl)
    | apply w_seq
    | apply w_region
    | apply s_nil
    | apply t_norm
    | apply t_exit
    | apply t_ret
    | apply k_hit
    | (apply k_miss; exact rfl)
    | apply k_norm
    | apply k_ret
    | apply w_block
    | apply w_exit
    | apply w_ret
    | apply w_skip
    | (apply w_condT; exact rfl; exact rfl)
    | (apply w_condF; exact rfl; exact rfl)
    | (apply s_cl1 (Within_t _ _ _); exact rfl; exact rfl; exact rfl; exact rfl; exact rfl; (first | assumption | omega | decide))
    | (apply s_cl1 (Within_f _ _ _); exact rfl; exact rfl; exact rfl; exact rfl; exact rfl; (first | assumption | omega | decide))
    | (apply s_cl (Within_s _ _ _); exact rfl; exact rfl; exact rfl; exact rfl; exact rfl))
    exact lv_ret (ret1 rfl (res_tmp rfl))
def tabE (t : List Int) : Int := firstE [unlessE (decide (0 < t.length)) 10, unlessE (decide ((t.length : Int) ≤ 30)) 8, unlessE (!t.any fun n => !withinB n 0 1000000) 2]
theorem spreadE_eq (x : Grid) (t l : List Int) : spreadE x t l = if iceErrE x = 0 then (if tabE t = 0 then layersErrE x l else tabE t) else iceErrE x := by
  unfold spreadE tabE
  generalize unlessE (decide (0 < t.length)) 10 = a
  generalize unlessE (decide ((t.length : Int) ≤ 30)) 8 = b
  generalize unlessE _ 2 = c
  simp only [firstE]
  by_cases h1 : iceErrE x = 0 <;> by_cases h2 : a = 0 <;> by_cases h3 : b = 0 <;> by_cases h4 : c = 0 <;> by_cases h5 : layersErrE x l = 0 <;> simp [h1, h2, h3, h4, h5]
theorem tabE_zero {t : List Int} : tabE t = 0 ↔ 1 ≤ t.length ∧ t.length ≤ 30 ∧ ∀ z ∈ t, 0 ≤ z ∧ z ≤ 1000000 := by
  unfold tabE
  rw [firstE_zero]
  simp only [List.mem_cons, List.not_mem_nil, or_false, forall_eq_or_imp, forall_eq]
  rw [unlessE_zero (by decide), unlessE_zero (by decide), unlessE_zero (by decide)]
  simp [withinB]
  constructor
  · rintro ⟨h1, h2, h3⟩; exact ⟨by omega, by omega, h3⟩
  · rintro ⟨h1, h2, h3⟩; exact ⟨by omega, by omega, h3⟩
theorem tabE_none {t : List Int} (h : t.length = 0) : tabE t = 10 := by unfold tabE; simp [h, unlessE, firstE]
theorem tabE_many {t : List Int} (h : 30 < t.length) : tabE t = 8 := by
  have h1 : decide (0 < t.length) = true := decide_eq_true (by omega)
  have h2 : decide ((t.length : Int) ≤ 30) = false := decide_eq_false (by omega)
  unfold tabE; rw [h1, h2]; simp [unlessE, firstE]
theorem tabE_odd {t : List Int} (h0 : 0 < t.length) (h1 : t.length ≤ 30) {k : Nat} (hk : k < t.length) (h : ¬ (0 ≤ t[k] ∧ t[k] ≤ 1000000)) : tabE t = 2 := by
  have h2 : decide (0 < t.length) = true := decide_eq_true (by omega)
  have h3 : decide ((t.length : Int) ≤ 30) = true := decide_eq_true (by omega)
  have h4 : (t.any fun n => !withinB n 0 1000000) = true := List.any_eq_true.2 ⟨t[k], List.getElem_mem hk, by simp [withinB]; omega⟩
  unfold tabE; rw [h2, h3, h4]; simp [unlessE, firstE]
set_option maxRecDepth 100000 in
theorem TableErr_s (t : List Int) : Summ Tryd.prog GG 40 [.sl t.length (intsF t)] (iv (tabE t)) := by
  refine summW Tryd.func40 rfl rfl 25 rfl (by simp) (fun M0 => ?_)
  by_cases h0 : t.length = 0
  · rw [tabE_none h0]
    repeat (first
    | (apply s_auto TY; exact rfl; exact rfl; exact rfl)
    | (apply s_cmpt; exact rfl; exact rfl; exact rfl; (first | assumption | omega))
    | (apply s_cmpf; exact rfl; exact rfl; exact rfl; (first | assumption | omega))
    | apply w_seq
    | apply w_region
    | apply s_nil
    | apply t_norm
    | apply t_exit
    | apply t_ret
    | apply k_hit
    | (apply k_miss; exact rfl)
    | apply k_norm
    | apply k_ret
    | apply w_block
    | apply w_exit
    | apply w_ret
    | apply w_skip
    | (apply w_condT; exact rfl; exact rfl)
    | (apply w_condF; exact rfl; exact rfl)
    | (apply s_cond TY; exact rfl; exact rfl; exact rfl; (first | omega | exact ⟨by omega, by (first | with_reducible assumption | ((with_reducible apply intsF_ne); omega) | ((with_reducible apply laysF_ne); omega) | ((with_reducible apply celsF_ne); omega) | ((with_reducible apply rngsF_ne); omega) | ((with_reducible apply flasF_ne); omega) | ((with_reducible apply matF_ne); omega) | ((with_reducible apply boolsF_ne); omega) | exact nea (by simp <;> omega))⟩))
    | (apply s_idxz TY; exact rfl; exact rfl; exact rfl; (first | omega | exact ⟨by omega, by (first | with_reducible assumption | ((with_reducible apply intsF_ne); omega) | ((with_reducible apply laysF_ne); omega) | ((with_reducible apply celsF_ne); omega) | ((with_reducible apply rngsF_ne); omega) | ((with_reducible apply flasF_ne); omega) | ((with_reducible apply matF_ne); omega) | ((with_reducible apply boolsF_ne); omega) | exact nea (by simp <;> omega))⟩))
    | (apply s_ld TY; exact rfl; exact rfl; exact rfl; exact rfl; (first | exact rfl | with_reducible assumption | ((with_reducible apply intsF_at); omega) | ((with_reducible apply matF_at); omega) | ((with_reducible apply boolsF_at); omega) | assumption))
    | (apply s_lds TY; exact rfl; exact rfl; exact rfl; exact rfl; (first | with_reducible assumption | ((with_reducible apply laysF_sub); omega) | ((with_reducible apply celsF_sub); omega) | ((with_reducible apply rngsF_sub); omega) | ((with_reducible apply flasF_sub); omega) | exact rfl); exact rfl)
    | (apply s_ldr TY; exact rfl; exact rfl; exact rfl; exact rfl; exact rfl; (first | exact rfl | with_reducible assumption | ((with_reducible apply intsF_at); omega) | ((with_reducible apply matF_at); omega) | ((with_reducible apply boolsF_at); omega) | assumption)))
    exact lv_ret (ret1 rfl (res_tmp rfl))
  by_cases h1 : 30 < t.length
  · rw [tabE_many h1]
    repeat (first
    | (apply s_auto TY; exact rfl; exact rfl; exact rfl)
    | (apply s_cmpt; exact rfl; exact rfl; exact rfl; (first | assumption | omega))
    | (apply s_cmpf; exact rfl; exact rfl; exact rfl; (first | assumption | omega))
    | apply w_seq
    | apply w_region
    | apply s_nil
    | apply t_norm
    | apply t_exit
    | apply t_ret
    | apply k_hit
    | (apply k_miss; exact rfl)
    | apply k_norm
    | apply k_ret
    | apply w_block
    | apply w_exit
    | apply w_ret
    | apply w_skip
    | (apply w_condT; exact rfl; exact rfl)
    | (apply w_condF; exact rfl; exact rfl)
    | (apply s_cond TY; exact rfl; exact rfl; exact rfl; (first | omega | exact ⟨by omega, by (first | with_reducible assumption | ((with_reducible apply intsF_ne); omega) | ((with_reducible apply laysF_ne); omega) | ((with_reducible apply celsF_ne); omega) | ((with_reducible apply rngsF_ne); omega) | ((with_reducible apply flasF_ne); omega) | ((with_reducible apply matF_ne); omega) | ((with_reducible apply boolsF_ne); omega) | exact nea (by simp <;> omega))⟩))
    | (apply s_idxz TY; exact rfl; exact rfl; exact rfl; (first | omega | exact ⟨by omega, by (first | with_reducible assumption | ((with_reducible apply intsF_ne); omega) | ((with_reducible apply laysF_ne); omega) | ((with_reducible apply celsF_ne); omega) | ((with_reducible apply rngsF_ne); omega) | ((with_reducible apply flasF_ne); omega) | ((with_reducible apply matF_ne); omega) | ((with_reducible apply boolsF_ne); omega) | exact nea (by simp <;> omega))⟩))
    | (apply s_ld TY; exact rfl; exact rfl; exact rfl; exact rfl; (first | exact rfl | with_reducible assumption | ((with_reducible apply intsF_at); omega) | ((with_reducible apply matF_at); omega) | ((with_reducible apply boolsF_at); omega) | assumption))
    | (apply s_lds TY; exact rfl; exact rfl; exact rfl; exact rfl; (first | with_reducible assumption | ((with_reducible apply laysF_sub); omega) | ((with_reducible apply celsF_sub); omega) | ((with_reducible apply rngsF_sub); omega) | ((with_reducible apply flasF_sub); omega) | exact rfl); exact rfl)
    | (apply s_ldr TY; exact rfl; exact rfl; exact rfl; exact rfl; exact rfl; (first | exact rfl | with_reducible assumption | ((with_reducible apply intsF_at); omega) | ((with_reducible apply matF_at); omega) | ((with_reducible apply boolsF_at); omega) | assumption)))
    exact lv_ret (ret1 rfl (res_tmp rfl))
  repeat (first
    | (apply s_auto TY; exact rfl; exact rfl; exact rfl)
    | (apply s_cmpt; exact rfl; exact rfl; exact rfl; (first | assumption | omega))
    | (apply s_cmpf; exact rfl; exact rfl; exact rfl; (first | assumption | omega))
    | apply w_seq
    | apply w_region
    | apply s_nil
    | apply t_norm
    | apply t_exit
    | apply t_ret
    | apply k_hit
    | (apply k_miss; exact rfl)
    | apply k_norm
    | apply k_ret
    | apply w_block
    | apply w_exit
    | apply w_ret
    | apply w_skip
    | (apply w_condT; exact rfl; exact rfl)
    | (apply w_condF; exact rfl; exact rfl)
    | (apply s_cond TY; exact rfl; exact rfl; exact rfl; (first | omega | exact ⟨by omega, by (first | with_reducible assumption | ((with_reducible apply intsF_ne); omega) | ((with_reducible apply laysF_ne); omega) | ((with_reducible apply celsF_ne); omega) | ((with_reducible apply rngsF_ne); omega) | ((with_reducible apply flasF_ne); omega) | ((with_reducible apply matF_ne); omega) | ((with_reducible apply boolsF_ne); omega) | exact nea (by simp <;> omega))⟩))
    | (apply s_idxz TY; exact rfl; exact rfl; exact rfl; (first | omega | exact ⟨by omega, by (first | with_reducible assumption | ((with_reducible apply intsF_ne); omega) | ((with_reducible apply laysF_ne); omega) | ((with_reducible apply celsF_ne); omega) | ((with_reducible apply rngsF_ne); omega) | ((with_reducible apply flasF_ne); omega) | ((with_reducible apply matF_ne); omega) | ((with_reducible apply boolsF_ne); omega) | exact nea (by simp <;> omega))⟩))
    | (apply s_ld TY; exact rfl; exact rfl; exact rfl; exact rfl; (first | exact rfl | with_reducible assumption | ((with_reducible apply intsF_at); omega) | ((with_reducible apply matF_at); omega) | ((with_reducible apply boolsF_at); omega) | assumption))
    | (apply s_lds TY; exact rfl; exact rfl; exact rfl; exact rfl; (first | with_reducible assumption | ((with_reducible apply laysF_sub); omega) | ((with_reducible apply celsF_sub); omega) | ((with_reducible apply rngsF_sub); omega) | ((with_reducible apply flasF_sub); omega) | exact rfl); exact rfl)
    | (apply s_ldr TY; exact rfl; exact rfl; exact rfl; exact rfl; exact rfl; (first | exact rfl | with_reducible assumption | ((with_reducible apply intsF_at); omega) | ((with_reducible apply matF_at); omega) | ((with_reducible apply boolsF_at); omega) | assumption)))
  apply w_loop (fun k : Nat => ⟨(Ab.upd (Ab.upd (fun _ => .bot) 0 (.f (.sl t.length (intsF t)))) 3 (.f (iv (k : Nat)))), (fun _ => none), 0⟩) (fun k => k ≤ t.length ∧ ∀ j (h : j < t.length), j < k → 0 ≤ t[j] ∧ t[j] ≤ 1000000) (fun k => t.length - k) 0 (⟨Nat.zero_le _, fun j _ h => absurd h (Nat.not_lt_zero j)⟩) (gh_le ⟨le_upd rfl trivial (le_upd rfl trivial (le_nil _)), le_h0 _ _⟩)
  intro k ⟨hk, hall⟩
  by_cases hkc : k < t.length
  · by_cases hb : 0 ≤ t[k] ∧ t[k] ≤ 1000000
    · have P : Summ Tryd.prog GG 43 [iv t[k]] (iv 0) := by
        have := PhotonsErr_s t[k]
        rwa [show withinB t[k] 0 1000000 = true by simp [withinB, hb]] at this
      repeat (first
    | (apply s_auto TY; exact rfl; exact rfl; exact rfl)
    | (apply s_cmpt; exact rfl; exact rfl; exact rfl; (first | assumption | omega))
    | (apply s_cmpf; exact rfl; exact rfl; exact rfl; (first | assumption | omega))
    | apply w_seq
    | apply w_region
    | apply s_nil
    | apply t_norm
    | apply t_exit
    | apply t_ret
    | apply k_hit
    | (apply k_miss; exact rfl)
    | apply k_norm
    | apply k_ret
    | apply w_block
    | apply w_exit
    | apply w_ret
    | apply w_skip
    | (apply w_condT; exact rfl; exact rfl)
    | (apply w_condF; exact rfl; exact rfl)
    | (apply s_cl (P); exact rfl; exact rfl; exact rfl; exact rfl; exact rfl)
    | (apply s_cond TY; exact rfl; exact rfl; exact rfl; (first | omega | exact ⟨by omega, by (first | with_reducible assumption | ((with_reducible apply intsF_ne); omega) | ((with_reducible apply laysF_ne); omega) | ((with_reducible apply celsF_ne); omega) | ((with_reducible apply rngsF_ne); omega) | ((with_reducible apply flasF_ne); omega) | ((with_reducible apply matF_ne); omega) | ((with_reducible apply boolsF_ne); omega) | exact nea (by simp <;> omega))⟩))
    | (apply s_idxz TY; exact rfl; exact rfl; exact rfl; (first | omega | exact ⟨by omega, by (first | with_reducible assumption | ((with_reducible apply intsF_ne); omega) | ((with_reducible apply laysF_ne); omega) | ((with_reducible apply celsF_ne); omega) | ((with_reducible apply rngsF_ne); omega) | ((with_reducible apply flasF_ne); omega) | ((with_reducible apply matF_ne); omega) | ((with_reducible apply boolsF_ne); omega) | exact nea (by simp <;> omega))⟩))
    | (apply s_ld TY; exact rfl; exact rfl; exact rfl; exact rfl; (first | exact rfl | with_reducible assumption | ((with_reducible apply intsF_at); omega) | ((with_reducible apply matF_at); omega) | ((with_reducible apply boolsF_at); omega) | assumption))
    | (apply s_lds TY; exact rfl; exact rfl; exact rfl; exact rfl; (first | with_reducible assumption | ((with_reducible apply laysF_sub); omega) | ((with_reducible apply celsF_sub); omega) | ((with_reducible apply rngsF_sub); omega) | ((with_reducible apply flasF_sub); omega) | exact rfl); exact rfl)
    | (apply s_ldr TY; exact rfl; exact rfl; exact rfl; exact rfl; exact rfl; (first | exact rfl | with_reducible assumption | ((with_reducible apply intsF_at); omega) | ((with_reducible apply matF_at); omega) | ((with_reducible apply boolsF_at); omega) | assumption)))
      refine ⟨k + 1, ⟨by omega, fun j hj hjk => ?_⟩, by omega, gh_le ⟨le_upd rfl trivial (le_upd rfl trivial (le_nil _)), le_h0 _ _⟩⟩
      by_cases e : j = k
      · subst e; exact hb
      · exact hall j hj (by omega)
    · have P : Summ Tryd.prog GG 43 [iv t[k]] (iv 2) := by
        have := PhotonsErr_s t[k]
        rwa [show withinB t[k] 0 1000000 = false by simp [withinB]; omega] at this
      rw [tabE_odd (by omega) (by omega) hkc hb]
      repeat (first
    | (apply s_auto TY; exact rfl; exact rfl; exact rfl)
    | (apply s_cmpt; exact rfl; exact rfl; exact rfl; (first | assumption | omega))
    | (apply s_cmpf; exact rfl; exact rfl; exact rfl; (first | assumption | omega))
    | apply w_seq
    | apply w_region
    | apply s_nil
    | apply t_norm
    | apply t_exit
    | apply t_ret
    | apply k_hit
    | (apply k_miss; exact rfl)
    | apply k_norm
    | apply k_ret
    | apply w_block
    | apply w_exit
    | apply w_ret
    | apply w_skip
    | (apply w_condT; exact rfl; exact rfl)
    | (apply w_condF; exact rfl; exact rfl)
    | (apply s_cl (P); exact rfl; exact rfl; exact rfl; exact rfl; exact rfl)
    | (apply s_cond TY; exact rfl; exact rfl; exact rfl; (first | omega | exact ⟨by omega, by (first | with_reducible assumption | ((with_reducible apply intsF_ne); omega) | ((with_reducible apply laysF_ne); omega) | ((with_reducible apply celsF_ne); omega) | ((with_reducible apply rngsF_ne); omega) | ((with_reducible apply flasF_ne); omega) | ((with_reducible apply matF_ne); omega) | ((with_reducible apply boolsF_ne); omega) | exact nea (by simp <;> omega))⟩))
    | (apply s_idxz TY; exact rfl; exact rfl; exact rfl; (first | omega | exact ⟨by omega, by (first | with_reducible assumption | ((with_reducible apply intsF_ne); omega) | ((with_reducible apply laysF_ne); omega) | ((with_reducible apply celsF_ne); omega) | ((with_reducible apply rngsF_ne); omega) | ((with_reducible apply flasF_ne); omega) | ((with_reducible apply matF_ne); omega) | ((with_reducible apply boolsF_ne); omega) | exact nea (by simp <;> omega))⟩))
    | (apply s_ld TY; exact rfl; exact rfl; exact rfl; exact rfl; (first | exact rfl | with_reducible assumption | ((with_reducible apply intsF_at); omega) | ((with_reducible apply matF_at); omega) | ((with_reducible apply boolsF_at); omega) | assumption))
    | (apply s_lds TY; exact rfl; exact rfl; exact rfl; exact rfl; (first | with_reducible assumption | ((with_reducible apply laysF_sub); omega) | ((with_reducible apply celsF_sub); omega) | ((with_reducible apply rngsF_sub); omega) | ((with_reducible apply flasF_sub); omega) | exact rfl); exact rfl)
    | (apply s_ldr TY; exact rfl; exact rfl; exact rfl; exact rfl; exact rfl; (first | exact rfl | with_reducible assumption | ((with_reducible apply intsF_at); omega) | ((with_reducible apply matF_at); omega) | ((with_reducible apply boolsF_at); omega) | assumption)))
      exact lv_ret (ret1 rfl (res_tmp rfl))
  · rw [tabE_zero.2 ⟨by omega, by omega, fun z hz => by
      obtain ⟨j, hj, rfl⟩ := List.getElem_of_mem hz
      exact hall j hj (by omega)⟩]
    repeat (first
    | (apply s_auto TY; exact rfl; exact rfl; exact rfl)
    | (apply s_cmpt; exact rfl; exact rfl; exact rfl; (first | assumption | omega))
    | (apply s_cmpf; exact rfl; exact rfl; exact rfl; (first | assumption | omega))
    | apply w_seq
    | apply w_region
    | apply s_nil
    | apply t_norm
    | apply t_exit
    | apply t_ret
    | apply k_hit
    | (apply k_miss; exact rfl)
    | apply k_norm
    | apply k_ret
    | apply w_block
    | apply w_exit
    | apply w_ret
    | apply w_skip
    | (apply w_condT; exact rfl; exact rfl)
    | (apply w_condF; exact rfl; exact rfl)
    | (apply s_cond TY; exact rfl; exact rfl; exact rfl; (first | omega | exact ⟨by omega, by (first | with_reducible assumption | ((with_reducible apply intsF_ne); omega) | ((with_reducible apply laysF_ne); omega) | ((with_reducible apply celsF_ne); omega) | ((with_reducible apply rngsF_ne); omega) | ((with_reducible apply flasF_ne); omega) | ((with_reducible apply matF_ne); omega) | ((with_reducible apply boolsF_ne); omega) | exact nea (by simp <;> omega))⟩))
    | (apply s_idxz TY; exact rfl; exact rfl; exact rfl; (first | omega | exact ⟨by omega, by (first | with_reducible assumption | ((with_reducible apply intsF_ne); omega) | ((with_reducible apply laysF_ne); omega) | ((with_reducible apply celsF_ne); omega) | ((with_reducible apply rngsF_ne); omega) | ((with_reducible apply flasF_ne); omega) | ((with_reducible apply matF_ne); omega) | ((with_reducible apply boolsF_ne); omega) | exact nea (by simp <;> omega))⟩))
    | (apply s_ld TY; exact rfl; exact rfl; exact rfl; exact rfl; (first | exact rfl | with_reducible assumption | ((with_reducible apply intsF_at); omega) | ((with_reducible apply matF_at); omega) | ((with_reducible apply boolsF_at); omega) | assumption))
    | (apply s_lds TY; exact rfl; exact rfl; exact rfl; exact rfl; (first | with_reducible assumption | ((with_reducible apply laysF_sub); omega) | ((with_reducible apply celsF_sub); omega) | ((with_reducible apply rngsF_sub); omega) | ((with_reducible apply flasF_sub); omega) | exact rfl); exact rfl)
    | (apply s_ldr TY; exact rfl; exact rfl; exact rfl; exact rfl; exact rfl; (first | exact rfl | with_reducible assumption | ((with_reducible apply intsF_at); omega) | ((with_reducible apply matF_at); omega) | ((with_reducible apply boolsF_at); omega) | assumption)))
    exact lv_ret (ret1 rfl (res_tmp rfl))
theorem layE_many {x : Grid} {l : List Int} (h : 40 < l.length) : layersErrE x l = 8 := by
  unfold layersErrE; rw [firstE_two, show decide ((l.length : Int) ≤ 40) = false from decide_eq_false (by omega)]; simp [unlessE]
theorem layE_odd {x : Grid} {l : List Int} (h : l.length ≤ 40) {k : Nat} (hk : k < l.length) (hb : ¬ (0 ≤ l[k] ∧ l[k] ≤ (x.layers.length : Int) - 1)) : layersErrE x l = 6 := by
  have e : layersB x l = true := List.any_eq_true.2 ⟨l[k], List.getElem_mem hk, by simp [withinB]; omega⟩
  unfold layersErrE; rw [firstE_two, show decide ((l.length : Int) ≤ 40) = true from decide_eq_true (by omega), e]; simp [unlessE]
set_option maxRecDepth 100000 in
theorem LayersErr_s (x : Grid) (l : List Int) (b : x.layers.length ≤ 1000000) : Summ Tryd.prog GG 41 [gridF x, .sl l.length (intsF l)] (iv (layersErrE x l)) := by
  refine summW Tryd.func41 rfl rfl 25 rfl (by simp) (fun M0 => ?_)
  by_cases h1 : 40 < l.length
  · rw [layE_many h1]
    repeat (first
    | (apply s_auto TY; exact rfl; exact rfl; exact rfl)
    | (apply s_cmpt; exact rfl; exact rfl; exact rfl; (first | assumption | omega))
    | (apply s_cmpf; exact rfl; exact rfl; exact rfl; (first | assumption | omega))
    | apply w_seq
    | apply w_region
    | (apply w_draw (id := 6) 8 rfl (by kernel_rfl))
    | apply s_nil
    | apply t_norm
    | apply t_exit
    | apply t_ret
    | apply k_hit
    | (apply k_miss; exact rfl)
    | apply k_norm
    | apply k_ret
    | apply w_block
    | apply w_exit
    | apply w_ret
    | apply w_skip
    | (apply w_condT; exact rfl; exact rfl)
    | (apply w_condF; exact rfl; exact rfl)
    | (apply s_cl1 (Within_t _ _ _); exact rfl; exact rfl; exact rfl; exact rfl; exact rfl; (first | assumption | omega | decide))
    | (apply s_cl1 (Within_f _ _ _); exact rfl; exact rfl; exact rfl; exact rfl; exact rfl; (first | assumption | omega | decide))
    | (apply s_cl (Within_s _ _ _); exact rfl; exact rfl; exact rfl; exact rfl; exact rfl)
    | (apply s_cond TY; exact rfl; exact rfl; exact rfl; (first | omega | exact ⟨by omega, by (first | with_reducible assumption | ((with_reducible apply intsF_ne); omega) | ((with_reducible apply laysF_ne); omega) | ((with_reducible apply celsF_ne); omega) | ((with_reducible apply rngsF_ne); omega) | ((with_reducible apply flasF_ne); omega) | ((with_reducible apply matF_ne); omega) | ((with_reducible apply boolsF_ne); omega) | exact nea (by simp <;> omega))⟩))
    | (apply s_idxz TY; exact rfl; exact rfl; exact rfl; (first | omega | exact ⟨by omega, by (first | with_reducible assumption | ((with_reducible apply intsF_ne); omega) | ((with_reducible apply laysF_ne); omega) | ((with_reducible apply celsF_ne); omega) | ((with_reducible apply rngsF_ne); omega) | ((with_reducible apply flasF_ne); omega) | ((with_reducible apply matF_ne); omega) | ((with_reducible apply boolsF_ne); omega) | exact nea (by simp <;> omega))⟩))
    | (apply s_ld TY; exact rfl; exact rfl; exact rfl; exact rfl; (first | exact rfl | with_reducible assumption | ((with_reducible apply intsF_at); omega) | ((with_reducible apply matF_at); omega) | ((with_reducible apply boolsF_at); omega) | assumption))
    | (apply s_lds TY; exact rfl; exact rfl; exact rfl; exact rfl; (first | with_reducible assumption | ((with_reducible apply laysF_sub); omega) | ((with_reducible apply celsF_sub); omega) | ((with_reducible apply rngsF_sub); omega) | ((with_reducible apply flasF_sub); omega) | exact rfl); exact rfl)
    | (apply s_ldr TY; exact rfl; exact rfl; exact rfl; exact rfl; exact rfl; (first | exact rfl | with_reducible assumption | ((with_reducible apply intsF_at); omega) | ((with_reducible apply matF_at); omega) | ((with_reducible apply boolsF_at); omega) | assumption)))
    exact lv_ret (ret1 rfl (res_tmp rfl))
  repeat (first
    | (apply s_auto TY; exact rfl; exact rfl; exact rfl)
    | (apply s_cmpt; exact rfl; exact rfl; exact rfl; (first | assumption | omega))
    | (apply s_cmpf; exact rfl; exact rfl; exact rfl; (first | assumption | omega))
    | apply w_seq
    | apply w_region
    | (apply w_draw (id := 6) 8 rfl (by kernel_rfl))
    | apply s_nil
    | apply t_norm
    | apply t_exit
    | apply t_ret
    | apply k_hit
    | (apply k_miss; exact rfl)
    | apply k_norm
    | apply k_ret
    | apply w_block
    | apply w_exit
    | apply w_ret
    | apply w_skip
    | (apply w_condT; exact rfl; exact rfl)
    | (apply w_condF; exact rfl; exact rfl)
    | (apply s_cl1 (Within_t _ _ _); exact rfl; exact rfl; exact rfl; exact rfl; exact rfl; (first | assumption | omega | decide))
    | (apply s_cl1 (Within_f _ _ _); exact rfl; exact rfl; exact rfl; exact rfl; exact rfl; (first | assumption | omega | decide))
    | (apply s_cl (Within_s _ _ _); exact rfl; exact rfl; exact rfl; exact rfl; exact rfl)
    | (apply s_cond TY; exact rfl; exact rfl; exact rfl; (first | omega | exact ⟨by omega, by (first | with_reducible assumption | ((with_reducible apply intsF_ne); omega) | ((with_reducible apply laysF_ne); omega) | ((with_reducible apply celsF_ne); omega) | ((with_reducible apply rngsF_ne); omega) | ((with_reducible apply flasF_ne); omega) | ((with_reducible apply matF_ne); omega) | ((with_reducible apply boolsF_ne); omega) | exact nea (by simp <;> omega))⟩))
    | (apply s_idxz TY; exact rfl; exact rfl; exact rfl; (first | omega | exact ⟨by omega, by (first | with_reducible assumption | ((with_reducible apply intsF_ne); omega) | ((with_reducible apply laysF_ne); omega) | ((with_reducible apply celsF_ne); omega) | ((with_reducible apply rngsF_ne); omega) | ((with_reducible apply flasF_ne); omega) | ((with_reducible apply matF_ne); omega) | ((with_reducible apply boolsF_ne); omega) | exact nea (by simp <;> omega))⟩))
    | (apply s_ld TY; exact rfl; exact rfl; exact rfl; exact rfl; (first | exact rfl | with_reducible assumption | ((with_reducible apply intsF_at); omega) | ((with_reducible apply matF_at); omega) | ((with_reducible apply boolsF_at); omega) | assumption))
    | (apply s_lds TY; exact rfl; exact rfl; exact rfl; exact rfl; (first | with_reducible assumption | ((with_reducible apply laysF_sub); omega) | ((with_reducible apply celsF_sub); omega) | ((with_reducible apply rngsF_sub); omega) | ((with_reducible apply flasF_sub); omega) | exact rfl); exact rfl)
    | (apply s_ldr TY; exact rfl; exact rfl; exact rfl; exact rfl; exact rfl; (first | exact rfl | with_reducible assumption | ((with_reducible apply intsF_at); omega) | ((with_reducible apply matF_at); omega) | ((with_reducible apply boolsF_at); omega) | assumption)))
  apply w_loop (fun k : Nat => ⟨(Ab.upd (Ab.upd (Ab.upd (fun _ => .bot) 1 (.f (.sl l.length (intsF l)))) 2 (.f (.pt (gridL x) 0))) 5 (.f (iv (k : Nat)))), (fun _ => none), 0⟩) (fun k => k ≤ l.length ∧ ∀ j (h : j < l.length), j < k → 0 ≤ l[j] ∧ l[j] ≤ (x.layers.length : Int) - 1) (fun k => l.length - k) 0 (⟨Nat.zero_le _, fun j _ h => absurd h (Nat.not_lt_zero j)⟩) (gh_le ⟨le_upd rfl trivial (le_upd rfl trivial (le_upd rfl trivial (le_nil _))), le_h0 _ _⟩)
  intro k ⟨hk, hall⟩
  by_cases hkc : k < l.length
  · by_cases hb : 0 ≤ l[k] ∧ l[k] ≤ (x.layers.length : Int) - 1
    · repeat (first
    | (apply s_auto TY; exact rfl; exact rfl; exact rfl)
    | (apply s_cmpt; exact rfl; exact rfl; exact rfl; (first | assumption | omega))
    | (apply s_cmpf; exact rfl; exact rfl; exact rfl; (first | assumption | omega))
    | apply w_seq
    | apply w_region
    | (apply w_draw (id := 6) 8 rfl (by kernel_rfl))
    | apply s_nil
    | apply t_norm
    | apply t_exit
    | apply t_ret
    | apply k_hit
    | (apply k_miss; exact rfl)
    | apply k_norm
    | apply k_ret
    | apply w_block
    | apply w_exit
    | apply w_ret
    | apply w_skip
    | (apply w_condT; exact rfl; exact rfl)
    | (apply w_condF; exact rfl; exact rfl)
    | (apply s_cl1 (Within_t _ _ _); exact rfl; exact rfl; exact rfl; exact rfl; exact rfl; (first | assumption | omega | decide))
    | (apply s_cl1 (Within_f _ _ _); exact rfl; exact rfl; exact rfl; exact rfl; exact rfl; (first | assumption | omega | decide))
    | (apply s_cl (Within_s _ _ _); exact rfl; exact rfl; exact rfl; exact rfl; exact rfl)
    | (apply s_cond TY; exact rfl; exact rfl; exact rfl; (first | omega | exact ⟨by omega, by (first | with_reducible assumption | ((with_reducible apply intsF_ne); omega) | ((with_reducible apply laysF_ne); omega) | ((with_reducible apply celsF_ne); omega) | ((with_reducible apply rngsF_ne); omega) | ((with_reducible apply flasF_ne); omega) | ((with_reducible apply matF_ne); omega) | ((with_reducible apply boolsF_ne); omega) | exact nea (by simp <;> omega))⟩))
    | (apply s_idxz TY; exact rfl; exact rfl; exact rfl; (first | omega | exact ⟨by omega, by (first | with_reducible assumption | ((with_reducible apply intsF_ne); omega) | ((with_reducible apply laysF_ne); omega) | ((with_reducible apply celsF_ne); omega) | ((with_reducible apply rngsF_ne); omega) | ((with_reducible apply flasF_ne); omega) | ((with_reducible apply matF_ne); omega) | ((with_reducible apply boolsF_ne); omega) | exact nea (by simp <;> omega))⟩))
    | (apply s_ld TY; exact rfl; exact rfl; exact rfl; exact rfl; (first | exact rfl | with_reducible assumption | ((with_reducible apply intsF_at); omega) | ((with_reducible apply matF_at); omega) | ((with_reducible apply boolsF_at); omega) | assumption))
    | (apply s_lds TY; exact rfl; exact rfl; exact rfl; exact rfl; (first | with_reducible assumption | ((with_reducible apply laysF_sub); omega) | ((with_reducible apply celsF_sub); omega) | ((with_reducible apply rngsF_sub); omega) | ((with_reducible apply flasF_sub); omega) | exact rfl); exact rfl)
    | (apply s_ldr TY; exact rfl; exact rfl; exact rfl; exact rfl; exact rfl; (first | exact rfl | with_reducible assumption | ((with_reducible apply intsF_at); omega) | ((with_reducible apply matF_at); omega) | ((with_reducible apply boolsF_at); omega) | assumption)))
      refine ⟨k + 1, ⟨by omega, fun j hj hjk => ?_⟩, by omega, gh_le ⟨le_upd rfl trivial (le_upd rfl trivial (le_upd rfl trivial (le_nil _))), le_h0 _ _⟩⟩
      by_cases e : j = k
      · subst e; exact hb
      · exact hall j hj (by omega)
    · rw [layE_odd (by omega) hkc hb]
      repeat (first
    | (apply s_auto TY; exact rfl; exact rfl; exact rfl)
    | (apply s_cmpt; exact rfl; exact rfl; exact rfl; (first | assumption | omega))
    | (apply s_cmpf; exact rfl; exact rfl; exact rfl; (first | assumption | omega))
    | apply w_seq
    | apply w_region
    | (apply w_draw (id := 6) 8 rfl (by kernel_rfl))
    | apply s_nil
    | apply t_norm
    | apply t_exit
    | apply t_ret
    | apply k_hit
    | (apply k_miss; exact rfl)
    | apply k_norm
    | apply k_ret
    | apply w_block
    | apply w_exit
    | apply w_ret
    | apply w_skip
    | (apply w_condT; exact rfl; exact rfl)
    | (apply w_condF; exact rfl; exact rfl)
    | (apply s_cl1 (Within_t _ _ _); exact rfl; exact rfl; exact rfl; exact rfl; exact rfl; (first | assumption | omega | decide))
    | (apply s_cl1 (Within_f _ _ _); exact rfl; exact rfl; exact rfl; exact rfl; exact rfl; (first | assumption | omega | decide))
    | (apply s_cl (Within_s _ _ _); exact rfl; exact rfl; exact rfl; exact rfl; exact rfl)
    | (apply s_cond TY; exact rfl; exact rfl; exact rfl; (first | omega | exact ⟨by omega, by (first | with_reducible assumption | ((with_reducible apply intsF_ne); omega) | ((with_reducible apply laysF_ne); omega) | ((with_reducible apply celsF_ne); omega) | ((with_reducible apply rngsF_ne); omega) | ((with_reducible apply flasF_ne); omega) | ((with_reducible apply matF_ne); omega) | ((with_reducible apply boolsF_ne); omega) | exact nea (by simp <;> omega))⟩))
    | (apply s_idxz TY; exact rfl; exact rfl; exact rfl; (first | omega | exact ⟨by omega, by (first | with_reducible assumption | ((with_reducible apply intsF_ne); omega) | ((with_reducible apply laysF_ne); omega) | ((with_reducible apply celsF_ne); omega) | ((with_reducible apply rngsF_ne); omega) | ((with_reducible apply flasF_ne); omega) | ((with_reducible apply matF_ne); omega) | ((with_reducible apply boolsF_ne); omega) | exact nea (by simp <;> omega))⟩))
    | (apply s_ld TY; exact rfl; exact rfl; exact rfl; exact rfl; (first | exact rfl | with_reducible assumption | ((with_reducible apply intsF_at); omega) | ((with_reducible apply matF_at); omega) | ((with_reducible apply boolsF_at); omega) | assumption))
    | (apply s_lds TY; exact rfl; exact rfl; exact rfl; exact rfl; (first | with_reducible assumption | ((with_reducible apply laysF_sub); omega) | ((with_reducible apply celsF_sub); omega) | ((with_reducible apply rngsF_sub); omega) | ((with_reducible apply flasF_sub); omega) | exact rfl); exact rfl)
    | (apply s_ldr TY; exact rfl; exact rfl; exact rfl; exact rfl; exact rfl; (first | exact rfl | with_reducible assumption | ((with_reducible apply intsF_at); omega) | ((with_reducible apply matF_at); omega) | ((with_reducible apply boolsF_at); omega) | assumption)))
      exact lv_ret (ret1 rfl (res_tmp rfl))
  · rw [layersErrE_zero.2 ⟨by omega, fun z hz => by
      obtain ⟨j, hj, rfl⟩ := List.getElem_of_mem hz
      have := hall j hj (by omega)
      omega⟩]
    repeat (first
    | (apply s_auto TY; exact rfl; exact rfl; exact rfl)
    | (apply s_cmpt; exact rfl; exact rfl; exact rfl; (first | assumption | omega))
    | (apply s_cmpf; exact rfl; exact rfl; exact rfl; (first | assumption | omega))
    | apply w_seq
    | apply w_region
    | (apply w_draw (id := 6) 8 rfl (by kernel_rfl))
    | apply s_nil
    | apply t_norm
    | apply t_exit
    | apply t_ret
    | apply k_hit
    | (apply k_miss; exact rfl)
    | apply k_norm
    | apply k_ret
    | apply w_block
    | apply w_exit
    | apply w_ret
    | apply w_skip
    | (apply w_condT; exact rfl; exact rfl)
    | (apply w_condF; exact rfl; exact rfl)
    | (apply s_cl1 (Within_t _ _ _); exact rfl; exact rfl; exact rfl; exact rfl; exact rfl; (first | assumption | omega | decide))
    | (apply s_cl1 (Within_f _ _ _); exact rfl; exact rfl; exact rfl; exact rfl; exact rfl; (first | assumption | omega | decide))
    | (apply s_cl (Within_s _ _ _); exact rfl; exact rfl; exact rfl; exact rfl; exact rfl)
    | (apply s_cond TY; exact rfl; exact rfl; exact rfl; (first | omega | exact ⟨by omega, by (first | with_reducible assumption | ((with_reducible apply intsF_ne); omega) | ((with_reducible apply laysF_ne); omega) | ((with_reducible apply celsF_ne); omega) | ((with_reducible apply rngsF_ne); omega) | ((with_reducible apply flasF_ne); omega) | ((with_reducible apply matF_ne); omega) | ((with_reducible apply boolsF_ne); omega) | exact nea (by simp <;> omega))⟩))
    | (apply s_idxz TY; exact rfl; exact rfl; exact rfl; (first | omega | exact ⟨by omega, by (first | with_reducible assumption | ((with_reducible apply intsF_ne); omega) | ((with_reducible apply laysF_ne); omega) | ((with_reducible apply celsF_ne); omega) | ((with_reducible apply rngsF_ne); omega) | ((with_reducible apply flasF_ne); omega) | ((with_reducible apply matF_ne); omega) | ((with_reducible apply boolsF_ne); omega) | exact nea (by simp <;> omega))⟩))
    | (apply s_ld TY; exact rfl; exact rfl; exact rfl; exact rfl; (first | exact rfl | with_reducible assumption | ((with_reducible apply intsF_at); omega) | ((with_reducible apply matF_at); omega) | ((with_reducible apply boolsF_at); omega) | assumption))
    | (apply s_lds TY; exact rfl; exact rfl; exact rfl; exact rfl; (first | with_reducible assumption | ((with_reducible apply laysF_sub); omega) | ((with_reducible apply celsF_sub); omega) | ((with_reducible apply rngsF_sub); omega) | ((with_reducible apply flasF_sub); omega) | exact rfl); exact rfl)
    | (apply s_ldr TY; exact rfl; exact rfl; exact rfl; exact rfl; exact rfl; (first | exact rfl | with_reducible assumption | ((with_reducible apply intsF_at); omega) | ((with_reducible apply matF_at); omega) | ((with_reducible apply boolsF_at); omega) | assumption)))
    exact lv_ret (ret1 rfl (res_tmp rfl))
set_option maxRecDepth 100000 in
theorem Total_s (t : List Int) (hn : t.length ≤ 1000000) (nn : ∀ z ∈ t, 0 ≤ z) (hs : t.sum ≤ 1000000000) : Summ Tryd.prog GG 44 [.sl t.length (intsF t)] (iv t.sum) := by
  refine summW Tryd.func44 rfl rfl 18 rfl (by simp) (fun M0 => ?_)
  repeat (first
    | (apply s_auto TY; exact rfl; exact rfl; exact rfl)
    | (apply s_cmpt; exact rfl; exact rfl; exact rfl; (first | assumption | omega))
    | (apply s_cmpf; exact rfl; exact rfl; exact rfl; (first | assumption | omega))
    | apply w_seq
    | apply w_region
    | apply s_nil
    | apply t_norm
    | apply t_exit
    | apply t_ret
    | apply k_hit
    | (apply k_miss; exact rfl)
    | apply k_norm
    | apply k_ret
    | apply w_block
    | apply w_exit
    | apply w_ret
    | apply w_skip
    | (apply w_condT; exact rfl; exact rfl)
    | (apply w_condF; exact rfl; exact rfl)
    | (apply s_cond TY; exact rfl; exact rfl; exact rfl; (first | omega | exact ⟨by omega, by (first | with_reducible assumption | ((with_reducible apply intsF_ne); omega) | ((with_reducible apply laysF_ne); omega) | ((with_reducible apply celsF_ne); omega) | ((with_reducible apply rngsF_ne); omega) | ((with_reducible apply flasF_ne); omega) | ((with_reducible apply matF_ne); omega) | ((with_reducible apply boolsF_ne); omega) | exact nea (by simp <;> omega))⟩))
    | (apply s_idxz TY; exact rfl; exact rfl; exact rfl; (first | omega | exact ⟨by omega, by (first | with_reducible assumption | ((with_reducible apply intsF_ne); omega) | ((with_reducible apply laysF_ne); omega) | ((with_reducible apply celsF_ne); omega) | ((with_reducible apply rngsF_ne); omega) | ((with_reducible apply flasF_ne); omega) | ((with_reducible apply matF_ne); omega) | ((with_reducible apply boolsF_ne); omega) | exact nea (by simp <;> omega))⟩))
    | (apply s_ld TY; exact rfl; exact rfl; exact rfl; exact rfl; (first | exact rfl | with_reducible assumption | ((with_reducible apply intsF_at); omega) | ((with_reducible apply matF_at); omega) | ((with_reducible apply boolsF_at); omega) | assumption))
    | (apply s_lds TY; exact rfl; exact rfl; exact rfl; exact rfl; (first | with_reducible assumption | ((with_reducible apply laysF_sub); omega) | ((with_reducible apply celsF_sub); omega) | ((with_reducible apply rngsF_sub); omega) | ((with_reducible apply flasF_sub); omega) | exact rfl); exact rfl)
    | (apply s_ldr TY; exact rfl; exact rfl; exact rfl; exact rfl; exact rfl; (first | exact rfl | with_reducible assumption | ((with_reducible apply intsF_at); omega) | ((with_reducible apply matF_at); omega) | ((with_reducible apply boolsF_at); omega) | assumption)))
  apply w_loop (fun k : Nat => ⟨(Ab.upd (Ab.upd (Ab.upd (fun _ => .bot) 0 (.f (.sl t.length (intsF t)))) 3 (.f (iv (t.take k).sum))) 4 (.f (iv (k : Nat)))), (fun _ => none), 0⟩) (fun k => k ≤ t.length) (fun k => t.length - k) 0 (Nat.zero_le _) (gh_le ⟨le_upd rfl trivial (le_upd rfl trivial (le_upd rfl trivial (le_nil _))), le_h0 _ _⟩)
  intro k hk
  by_cases hkc : k < t.length
  · have e := take_sum_succ hkc
    rw [getD_get hkc] at e
    have s0 : 0 ≤ (t.take k).sum := sum_nonneg (fun z hz => nn z (List.mem_of_mem_take hz))
    have s1 := take_sum_le nn (k + 1)
    have s2 := nn _ (List.getElem_mem hkc)
    repeat (first
    | (apply s_auto TY; exact rfl; exact rfl; exact rfl)
    | (apply s_cmpt; exact rfl; exact rfl; exact rfl; (first | assumption | omega))
    | (apply s_cmpf; exact rfl; exact rfl; exact rfl; (first | assumption | omega))
    | apply w_seq
    | apply w_region
    | apply s_nil
    | apply t_norm
    | apply t_exit
    | apply t_ret
    | apply k_hit
    | (apply k_miss; exact rfl)
    | apply k_norm
    | apply k_ret
    | apply w_block
    | apply w_exit
    | apply w_ret
    | apply w_skip
    | (apply w_condT; exact rfl; exact rfl)
    | (apply w_condF; exact rfl; exact rfl)
    | (apply s_cond TY; exact rfl; exact rfl; exact rfl; (first | omega | exact ⟨by omega, by (first | with_reducible assumption | ((with_reducible apply intsF_ne); omega) | ((with_reducible apply laysF_ne); omega) | ((with_reducible apply celsF_ne); omega) | ((with_reducible apply rngsF_ne); omega) | ((with_reducible apply flasF_ne); omega) | ((with_reducible apply matF_ne); omega) | ((with_reducible apply boolsF_ne); omega) | exact nea (by simp <;> omega))⟩))
    | (apply s_idxz TY; exact rfl; exact rfl; exact rfl; (first | omega | exact ⟨by omega, by (first | with_reducible assumption | ((with_reducible apply intsF_ne); omega) | ((with_reducible apply laysF_ne); omega) | ((with_reducible apply celsF_ne); omega) | ((with_reducible apply rngsF_ne); omega) | ((with_reducible apply flasF_ne); omega) | ((with_reducible apply matF_ne); omega) | ((with_reducible apply boolsF_ne); omega) | exact nea (by simp <;> omega))⟩))
    | (apply s_ld TY; exact rfl; exact rfl; exact rfl; exact rfl; (first | exact rfl | with_reducible assumption | ((with_reducible apply intsF_at); omega) | ((with_reducible apply matF_at); omega) | ((with_reducible apply boolsF_at); omega) | assumption))
    | (apply s_lds TY; exact rfl; exact rfl; exact rfl; exact rfl; (first | with_reducible assumption | ((with_reducible apply laysF_sub); omega) | ((with_reducible apply celsF_sub); omega) | ((with_reducible apply rngsF_sub); omega) | ((with_reducible apply flasF_sub); omega) | exact rfl); exact rfl)
    | (apply s_ldr TY; exact rfl; exact rfl; exact rfl; exact rfl; exact rfl; (first | exact rfl | with_reducible assumption | ((with_reducible apply intsF_at); omega) | ((with_reducible apply matF_at); omega) | ((with_reducible apply boolsF_at); omega) | assumption)))
    exact ⟨k + 1, by omega, by omega, gh_le ⟨le_upd rfl trivial (le_upd (avi e) trivial (le_upd rfl trivial (le_nil _))), le_h0 _ _⟩⟩
  · repeat (first
    | (apply s_auto TY; exact rfl; exact rfl; exact rfl)
    | (apply s_cmpt; exact rfl; exact rfl; exact rfl; (first | assumption | omega))
    | (apply s_cmpf; exact rfl; exact rfl; exact rfl; (first | assumption | omega))
    | apply w_seq
    | apply w_region
    | apply s_nil
    | apply t_norm
    | apply t_exit
    | apply t_ret
    | apply k_hit
    | (apply k_miss; exact rfl)
    | apply k_norm
    | apply k_ret
    | apply w_block
    | apply w_exit
    | apply w_ret
    | apply w_skip
    | (apply w_condT; exact rfl; exact rfl)
    | (apply w_condF; exact rfl; exact rfl)
    | (apply s_cond TY; exact rfl; exact rfl; exact rfl; (first | omega | exact ⟨by omega, by (first | with_reducible assumption | ((with_reducible apply intsF_ne); omega) | ((with_reducible apply laysF_ne); omega) | ((with_reducible apply celsF_ne); omega) | ((with_reducible apply rngsF_ne); omega) | ((with_reducible apply flasF_ne); omega) | ((with_reducible apply matF_ne); omega) | ((with_reducible apply boolsF_ne); omega) | exact nea (by simp <;> omega))⟩))
    | (apply s_idxz TY; exact rfl; exact rfl; exact rfl; (first | omega | exact ⟨by omega, by (first | with_reducible assumption | ((with_reducible apply intsF_ne); omega) | ((with_reducible apply laysF_ne); omega) | ((with_reducible apply celsF_ne); omega) | ((with_reducible apply rngsF_ne); omega) | ((with_reducible apply flasF_ne); omega) | ((with_reducible apply matF_ne); omega) | ((with_reducible apply boolsF_ne); omega) | exact nea (by simp <;> omega))⟩))
    | (apply s_ld TY; exact rfl; exact rfl; exact rfl; exact rfl; (first | exact rfl | with_reducible assumption | ((with_reducible apply intsF_at); omega) | ((with_reducible apply matF_at); omega) | ((with_reducible apply boolsF_at); omega) | assumption))
    | (apply s_lds TY; exact rfl; exact rfl; exact rfl; exact rfl; (first | with_reducible assumption | ((with_reducible apply laysF_sub); omega) | ((with_reducible apply celsF_sub); omega) | ((with_reducible apply rngsF_sub); omega) | ((with_reducible apply flasF_sub); omega) | exact rfl); exact rfl)
    | (apply s_ldr TY; exact rfl; exact rfl; exact rfl; exact rfl; exact rfl; (first | exact rfl | with_reducible assumption | ((with_reducible apply intsF_at); omega) | ((with_reducible apply matF_at); omega) | ((with_reducible apply boolsF_at); omega) | assumption)))
    exact lv_ret (ret1 rfl (res_tmp (avi (by rw [List.take_of_length_le (by omega)]))))
theorem setI0 (s : List Int) (z : Int) : Ab.setAt (intsF s) 0 [iv z] = intsF (s.set 0 z) := setI s 0 z
set_option maxRecDepth 100000 in
theorem Beam_s (n : Int) : Summ Tryd.prog GG 45 [iv n] (.sl (beamL n).length (intsF (beamL n))) := by
  refine summW Tryd.func45 rfl rfl 9 rfl (by simp) (fun M0 => ?_)
  repeat (first
    | (apply s_auto TY; exact rfl; exact rfl; exact rfl)
    | apply w_seq
    | apply w_region
    | apply s_nil
    | apply t_norm
    | apply t_exit
    | apply t_ret
    | apply k_hit
    | (apply k_miss; exact rfl)
    | apply k_norm
    | apply k_ret
    | apply w_block
    | apply w_exit
    | apply w_ret
    | apply w_skip
    | (apply w_condT; exact rfl; exact rfl)
    | (apply w_condF; exact rfl; exact rfl)
    | (apply s_cond TY; exact rfl; exact rfl; exact rfl; (first | omega | exact ⟨by omega, by (first | with_reducible assumption | ((with_reducible apply intsF_ne); omega) | ((with_reducible apply laysF_ne); omega) | ((with_reducible apply celsF_ne); omega) | ((with_reducible apply rngsF_ne); omega) | ((with_reducible apply flasF_ne); omega) | ((with_reducible apply matF_ne); omega) | ((with_reducible apply boolsF_ne); omega) | exact nea (by simp <;> omega))⟩))
    | (apply s_idxz TY; exact rfl; exact rfl; exact rfl; (first | omega | exact ⟨by omega, by (first | with_reducible assumption | ((with_reducible apply intsF_ne); omega) | ((with_reducible apply laysF_ne); omega) | ((with_reducible apply celsF_ne); omega) | ((with_reducible apply rngsF_ne); omega) | ((with_reducible apply flasF_ne); omega) | ((with_reducible apply matF_ne); omega) | ((with_reducible apply boolsF_ne); omega) | exact nea (by simp <;> omega))⟩))
    | (apply s_store TY; exact rfl; exact rfl; exact rfl; exact rfl; exact rfl; exact rfl)
    | (apply s_storeR TY; exact rfl; exact rfl; exact rfl; exact rfl; exact rfl; (first | exact rfl | (simp [initF] <;> omega)))
    | (apply s_make TY; exact rfl; exact rfl; exact rfl; exact rfl; exact rfl; exact rfl; omega; omega; omega; omega))
  refine lv_ret (ret_gh (gh_row 0 rfl) ?_)
  refine ret1 rfl (res_tmp ?_)
  show AV.f (.sl 30 (Ab.setAt (initF [.int .i64 0] (30 * 1)) 0 [iv n])) = _
  rw [initF_ints, setI0, beamL_len]; rfl
set_option maxRecDepth 100000 in
theorem refSpread_s (x : Grid) (t l : List Int) (h : SpreadOk x t l) : Summ Tryd.prog GG 42 [gridF x, .sl t.length (intsF t), .sl l.length (intsF l)] (.sl t.length (intsF (spreadL x t l))) := by
  have n1 := h.n1; have n2 := h.n2; have l2 := h.l2
  refine summW Tryd.func42 rfl rfl 86 rfl (by simp) (fun M0 => ?_)
  repeat (first
    | (apply s_auto TY; exact rfl; exact rfl; exact rfl)
    | (apply s_cmpt; exact rfl; exact rfl; exact rfl; (first | assumption | omega))
    | (apply s_cmpf; exact rfl; exact rfl; exact rfl; (first | assumption | omega))
    | apply w_seq
    | apply w_region
    | (apply w_draw (id := 5) 9 rfl (by kernel_rfl))
    | (apply w_draw (id := 10) 12 rfl (by kernel_rfl))
    | apply s_nil
    | apply t_norm
    | apply t_exit
    | apply t_ret
    | apply k_hit
    | (apply k_miss; exact rfl)
    | apply k_norm
    | apply k_ret
    | apply w_block
    | apply w_exit
    | apply w_ret
    | apply w_skip
    | (apply w_condT; exact rfl; exact rfl)
    | (apply w_condF; exact rfl; exact rfl)
    | (apply s_cl1 (CopyInts_s _); exact rfl; exact rfl; exact rfl; exact rfl; exact rfl; (first | assumption | omega | decide))
    | (apply s_cond TY; exact rfl; exact rfl; exact rfl; (first | omega | exact ⟨by omega, by (first | with_reducible assumption | ((with_reducible apply intsF_ne); omega) | ((with_reducible apply laysF_ne); omega) | ((with_reducible apply celsF_ne); omega) | ((with_reducible apply rngsF_ne); omega) | ((with_reducible apply flasF_ne); omega) | ((with_reducible apply matF_ne); omega) | ((with_reducible apply boolsF_ne); omega) | exact nea (by simp <;> omega))⟩))
    | (apply s_idxz TY; exact rfl; exact rfl; exact rfl; (first | omega | exact ⟨by omega, by (first | with_reducible assumption | ((with_reducible apply intsF_ne); omega) | ((with_reducible apply laysF_ne); omega) | ((with_reducible apply celsF_ne); omega) | ((with_reducible apply rngsF_ne); omega) | ((with_reducible apply flasF_ne); omega) | ((with_reducible apply matF_ne); omega) | ((with_reducible apply boolsF_ne); omega) | exact nea (by simp <;> omega))⟩))
    | (apply s_ld TY; exact rfl; exact rfl; exact rfl; exact rfl; (first | exact rfl | with_reducible assumption | ((with_reducible apply intsF_at); omega) | ((with_reducible apply matF_at); omega) | ((with_reducible apply boolsF_at); omega) | assumption))
    | (apply s_lds TY; exact rfl; exact rfl; exact rfl; exact rfl; (first | with_reducible assumption | ((with_reducible apply laysF_sub); omega) | ((with_reducible apply celsF_sub); omega) | ((with_reducible apply rngsF_sub); omega) | ((with_reducible apply flasF_sub); omega) | exact rfl); exact rfl)
    | (apply s_ldr TY; exact rfl; exact rfl; exact rfl; exact rfl; exact rfl; (first | exact rfl | with_reducible assumption | ((with_reducible apply intsF_at); omega) | ((with_reducible apply matF_at); omega) | ((with_reducible apply boolsF_at); omega) | assumption))
    | (apply s_alloc TY; exact rfl; exact rfl; exact rfl)
    | (apply s_store TY; exact rfl; exact rfl; exact rfl; exact rfl; exact rfl; exact rfl)
    | (apply s_storeR TY; exact rfl; exact rfl; exact rfl; exact rfl; exact rfl; (first | exact rfl | (simp [intsF, setAt_length, initF] <;> omega)))
    | (apply s_make TY; exact rfl; exact rfl; exact rfl; exact rfl; exact rfl; exact rfl; omega; omega; omega; omega))
  apply w_loop (fun s : Nat => ⟨(Ab.upd (Ab.upd (Ab.upd (Ab.upd (fun _ => .bot) 2 (.f (.sl l.length (intsF l)))) 3 (.f (.pt (gridL x) 0))) 7 (.f (.sl t.length (intsF (spreadL x t (l.take s)))))) 8 (.f (iv (s : Nat)))), (fun _ => none), 0⟩) (fun s => s ≤ l.length) (fun s => l.length - s) 0 (Nat.zero_le _) (gh_le ⟨le_upd rfl trivial (le_upd rfl trivial (le_upd rfl trivial (le_upd rfl trivial (le_nil _)))), le_h0 _ _⟩)
  intro s hs
  by_cases hsc : s < l.length
  · have hz := h.lay _ (List.getElem_mem hsc)
    have h0 := hz.1
    have h1 := hz.2
    have hy := lay_at h0 h1
    have hv := layerAtI_v h.v h0 h1
    have T := h.tab s
    have hsn : spreadL x t (l.take (s + 1)) = spreadStep (layerAtI x l[s]) (spreadL x t (l.take s)) := by rw [intsF_tk' hsc, spreadL_snoc]
    obtain ⟨y, ey⟩ : ∃ y, y = layerAtI x l[s] := ⟨_, rfl⟩
    have hcur : ∃ cur, cur = spreadL x t (l.take s) := ⟨_, rfl⟩
    obtain ⟨cur, ec⟩ := hcur
    rw [← ey, ← ec] at hsn
    rw [← ec] at T
    rw [← ey] at hv hy
    rw [← ec]
    have hlen := T.len
    have ya : (laysF x.layers)[l[s].toNat * 3 + 1]? = some (iv y.loss) := by rw [hy]; exact flat_at (f := layF) (fun _ => rfl) (by omega) (by decide)
    have yb : (laysF x.layers)[l[s].toNat * 3 + 2]? = some (iv y.scatter) := by rw [hy]; exact flat_at (f := layF) (fun _ => rfl) (by omega) (by decide)
    have yc : ((laysF x.layers).drop (l[s].toNat * 3)).take 3 = layF y := by rw [hy]; exact flat_sub (f := layF) (fun _ => rfl) (by omega)
    clear ec ey
    repeat (first
    | (apply s_auto TY; exact rfl; exact rfl; exact rfl)
    | (apply s_cmpt; exact rfl; exact rfl; exact rfl; (first | assumption | omega))
    | (apply s_cmpf; exact rfl; exact rfl; exact rfl; (first | assumption | omega))
    | apply w_seq
    | apply w_region
    | (apply w_draw (id := 5) 9 rfl (by kernel_rfl))
    | (apply w_draw (id := 10) 12 rfl (by kernel_rfl))
    | apply s_nil
    | apply t_norm
    | apply t_exit
    | apply t_ret
    | apply k_hit
    | (apply k_miss; exact rfl)
    | apply k_norm
    | apply k_ret
    | apply w_block
    | apply w_exit
    | apply w_ret
    | apply w_skip
    | (apply w_condT; exact rfl; exact rfl)
    | (apply w_condF; exact rfl; exact rfl)
    | (apply s_cl1 (CopyInts_s _); exact rfl; exact rfl; exact rfl; exact rfl; exact rfl; (first | assumption | omega | decide))
    | (apply s_cond TY; exact rfl; exact rfl; exact rfl; (first | omega | exact ⟨by omega, by (first | with_reducible assumption | ((with_reducible apply intsF_ne); omega) | ((with_reducible apply laysF_ne); omega) | ((with_reducible apply celsF_ne); omega) | ((with_reducible apply rngsF_ne); omega) | ((with_reducible apply flasF_ne); omega) | ((with_reducible apply matF_ne); omega) | ((with_reducible apply boolsF_ne); omega) | exact nea (by simp <;> omega))⟩))
    | (apply s_idxz TY; exact rfl; exact rfl; exact rfl; (first | omega | exact ⟨by omega, by (first | with_reducible assumption | ((with_reducible apply intsF_ne); omega) | ((with_reducible apply laysF_ne); omega) | ((with_reducible apply celsF_ne); omega) | ((with_reducible apply rngsF_ne); omega) | ((with_reducible apply flasF_ne); omega) | ((with_reducible apply matF_ne); omega) | ((with_reducible apply boolsF_ne); omega) | exact nea (by simp <;> omega))⟩))
    | (apply s_ld TY; exact rfl; exact rfl; exact rfl; exact rfl; (first | exact rfl | with_reducible assumption | ((with_reducible apply intsF_at); omega) | ((with_reducible apply matF_at); omega) | ((with_reducible apply boolsF_at); omega) | assumption))
    | (apply s_lds TY; exact rfl; exact rfl; exact rfl; exact rfl; (first | with_reducible assumption | ((with_reducible apply laysF_sub); omega) | ((with_reducible apply celsF_sub); omega) | ((with_reducible apply rngsF_sub); omega) | ((with_reducible apply flasF_sub); omega) | exact rfl); exact rfl)
    | (apply s_ldr TY; exact rfl; exact rfl; exact rfl; exact rfl; exact rfl; (first | exact rfl | with_reducible assumption | ((with_reducible apply intsF_at); omega) | ((with_reducible apply matF_at); omega) | ((with_reducible apply boolsF_at); omega) | assumption))
    | (apply s_alloc TY; exact rfl; exact rfl; exact rfl)
    | (apply s_store TY; exact rfl; exact rfl; exact rfl; exact rfl; exact rfl; exact rfl)
    | (apply s_storeR TY; exact rfl; exact rfl; exact rfl; exact rfl; exact rfl; (first | exact rfl | (simp [intsF, setAt_length, initF] <;> omega)))
    | (apply s_make TY; exact rfl; exact rfl; exact rfl; exact rfl; exact rfl; exact rfl; omega; omega; omega; omega))
    apply w_loop (fun k : Nat => ⟨(Ab.upd (Ab.upd (Ab.upd (Ab.upd (Ab.upd (Ab.upd (Ab.upd (fun _ => .bot) 2 (.f (.sl l.length (intsF l)))) 3 (.f (.pt (gridL x) 0))) 7 (.f (.sl t.length (intsF cur)))) 8 (.f (iv (s : Nat)))) 9 (.bx 0 0)) 10 (.ow 1)) 11 (.f (iv (k : Nat)))), (Ab.upd (Ab.upd (fun _ => none) 0 (some (.box [.f (iv y.delay), .f (iv y.loss), .f (iv y.scatter)]))) 1 (some (.row 3 1 t.length (intsF (spreadTo y cur k))))), 2⟩) (fun k => k ≤ t.length) (fun k => t.length - k) 0 (Nat.zero_le _) (gh_le ⟨le_upd rfl trivial (le_upd rfl rfl (le_upd rfl rfl (le_upd rfl trivial (le_upd rfl trivial (le_upd rfl trivial (le_upd rfl trivial (le_nil _))))))), le_hupd (by rw [← hlen, initF_ints]; rfl) trivial (le_hupd rfl (fun y hy => by simp at hy; rcases hy with rfl | rfl | rfl <;> first | trivial | rfl) (le_h0 _ _))⟩)
    intro k hk
    by_cases hkc : k < t.length
    · have hkl : k < cur.length := by omega
      have TK := T.next hv k hk
      have TL := T.next hv (k + 1) hkc
      have tl := TK.len
      have b := binOk hv (T.bin hkl)
      have b1 := b.a; have b2 := b.b; have b3 := b.c; have b5 := b.e
      have b4 : 0 ≤ (cur[k] - cur[k] * y.loss / 1000) * y.scatter ∧ (cur[k] - cur[k] * y.loss / 1000) * y.scatter ≤ 1000000000000 := b.d
      have u2 : restOf y cur[k] = cur[k] - cur[k] * y.loss / 1000 := rfl
      have u3 : lateOf y cur[k] = restOf y cur[k] * y.scatter / 1000 := rfl
      have sk := TK.bin (k := k) (by omega)
      have jz := max_to k t.length (by omega)
      have jl : (if k + 1 < t.length then k + 1 else t.length - 1) < t.length := by split <;> omega
      have jb : 0 ≤ ((spreadTo y cur k).set k ((spreadTo y cur k)[k] + restOf y cur[k] - lateOf y cur[k])).getD (if k + 1 < t.length then k + 1 else t.length - 1) 0 ∧ ((spreadTo y cur k).set k ((spreadTo y cur k)[k] + restOf y cur[k] - lateOf y cur[k])).getD (if k + 1 < t.length then k + 1 else t.length - 1) 0 ≤ 2000000000 :=
        getD_mem0 (P := fun z => 0 ≤ z ∧ z ≤ 2000000000) (set_all (fun z hz => ⟨TK.nn z hz, by have := le_sum TK.nn hz; have := TK.sum; omega⟩) (by omega)) (by decide)
      have a3 : (Ab.setAt (intsF (spreadTo y cur k)) (k * 1) [iv ((spreadTo y cur k)[k] + restOf y cur[k] - lateOf y cur[k])])[(min ((k : Int) + 1) ((t.length : Int) - 1)).toNat * 1]? = some (iv (((spreadTo y cur k).set k ((spreadTo y cur k)[k] + restOf y cur[k] - lateOf y cur[k])).getD (if k + 1 < t.length then k + 1 else t.length - 1) 0)) := by
        rw [setI, jz]; exact atI' (by simp; omega)
      have HF : Ab.setAt (Ab.setAt (intsF (spreadTo y cur k)) (k * 1) [iv ((spreadTo y cur k)[k] + restOf y cur[k] - lateOf y cur[k])]) ((min ((k : Int) + 1) ((t.length : Int) - 1)).toNat * 1) [iv (((spreadTo y cur k).set k ((spreadTo y cur k)[k] + restOf y cur[k] - lateOf y cur[k])).getD (if k + 1 < t.length then k + 1 else t.length - 1) 0 + lateOf y cur[k])] = intsF (spreadTo y cur (k + 1)) := by
        rw [setI, jz, setI, spread_at hlen hkc (by rw [getD_get (by omega)]; omega) rfl]
      repeat (first
    | (apply s_auto TY; exact rfl; exact rfl; exact rfl)
    | (apply s_cmpt; exact rfl; exact rfl; exact rfl; (first | assumption | omega))
    | (apply s_cmpf; exact rfl; exact rfl; exact rfl; (first | assumption | omega))
    | apply w_seq
    | apply w_region
    | (apply w_draw (id := 5) 9 rfl (by kernel_rfl))
    | (apply w_draw (id := 10) 12 rfl (by kernel_rfl))
    | apply s_nil
    | apply t_norm
    | apply t_exit
    | apply t_ret
    | apply k_hit
    | (apply k_miss; exact rfl)
    | apply k_norm
    | apply k_ret
    | apply w_block
    | apply w_exit
    | apply w_ret
    | apply w_skip
    | (apply w_condT; exact rfl; exact rfl)
    | (apply w_condF; exact rfl; exact rfl)
    | (apply s_cl1 (CopyInts_s _); exact rfl; exact rfl; exact rfl; exact rfl; exact rfl; (first | assumption | omega | decide))
    | (apply s_cond TY; exact rfl; exact rfl; exact rfl; (first | omega | exact ⟨by omega, by (first | with_reducible assumption | ((with_reducible apply intsF_ne); omega) | ((with_reducible apply laysF_ne); omega) | ((with_reducible apply celsF_ne); omega) | ((with_reducible apply rngsF_ne); omega) | ((with_reducible apply flasF_ne); omega) | ((with_reducible apply matF_ne); omega) | ((with_reducible apply boolsF_ne); omega) | exact nea (by simp <;> omega))⟩))
    | (apply s_idxz TY; exact rfl; exact rfl; exact rfl; (first | omega | exact ⟨by omega, by (first | with_reducible assumption | ((with_reducible apply intsF_ne); omega) | ((with_reducible apply laysF_ne); omega) | ((with_reducible apply celsF_ne); omega) | ((with_reducible apply rngsF_ne); omega) | ((with_reducible apply flasF_ne); omega) | ((with_reducible apply matF_ne); omega) | ((with_reducible apply boolsF_ne); omega) | exact nea (by simp <;> omega))⟩))
    | (apply s_ld TY; exact rfl; exact rfl; exact rfl; exact rfl; (first | exact rfl | with_reducible assumption | ((with_reducible apply intsF_at); omega) | ((with_reducible apply matF_at); omega) | ((with_reducible apply boolsF_at); omega) | assumption))
    | (apply s_lds TY; exact rfl; exact rfl; exact rfl; exact rfl; (first | with_reducible assumption | ((with_reducible apply laysF_sub); omega) | ((with_reducible apply celsF_sub); omega) | ((with_reducible apply rngsF_sub); omega) | ((with_reducible apply flasF_sub); omega) | exact rfl); exact rfl)
    | (apply s_ldr TY; exact rfl; exact rfl; exact rfl; exact rfl; exact rfl; (first | exact rfl | with_reducible assumption | ((with_reducible apply intsF_at); omega) | ((with_reducible apply matF_at); omega) | ((with_reducible apply boolsF_at); omega) | assumption))
    | (apply s_alloc TY; exact rfl; exact rfl; exact rfl)
    | (apply s_store TY; exact rfl; exact rfl; exact rfl; exact rfl; exact rfl; exact rfl)
    | (apply s_storeR TY; exact rfl; exact rfl; exact rfl; exact rfl; exact rfl; (first | exact rfl | (simp [intsF, setAt_length] <;> omega)))
    | (apply s_make TY; exact rfl; exact rfl; exact rfl; exact rfl; exact rfl; exact rfl; omega; omega; omega; omega))
      exact ⟨k + 1, by omega, by omega, gh_le ⟨le_upd rfl trivial (le_upd rfl rfl (le_upd rfl rfl (le_upd rfl trivial (le_upd rfl trivial (le_upd rfl trivial (le_upd rfl trivial (le_nil _))))))), le_hupd (congrArg (fun z => some (Blk.row 3 1 t.length z)) HF) trivial (le_hupd rfl (fun y hy => by simp at hy; rcases hy with rfl | rfl | rfl <;> first | trivial | rfl) (le_h0 _ _))⟩⟩
    have hke : k = t.length := by omega
    subst hke
    repeat (first
    | (apply s_auto TY; exact rfl; exact rfl; exact rfl)
    | (apply s_cmpt; exact rfl; exact rfl; exact rfl; (first | assumption | omega))
    | (apply s_cmpf; exact rfl; exact rfl; exact rfl; (first | assumption | omega))
    | apply w_seq
    | apply w_region
    | (apply w_draw (id := 5) 9 rfl (by kernel_rfl))
    | (apply w_draw (id := 10) 12 rfl (by kernel_rfl))
    | apply s_nil
    | apply t_norm
    | apply t_exit
    | apply t_ret
    | apply k_hit
    | (apply k_miss; exact rfl)
    | apply k_norm
    | apply k_ret
    | apply w_block
    | apply w_exit
    | apply w_ret
    | apply w_skip
    | (apply w_condT; exact rfl; exact rfl)
    | (apply w_condF; exact rfl; exact rfl)
    | (apply s_cl1 (CopyInts_s _); exact rfl; exact rfl; exact rfl; exact rfl; exact rfl; (first | assumption | omega | decide))
    | (apply s_cond TY; exact rfl; exact rfl; exact rfl; (first | omega | exact ⟨by omega, by (first | with_reducible assumption | ((with_reducible apply intsF_ne); omega) | ((with_reducible apply laysF_ne); omega) | ((with_reducible apply celsF_ne); omega) | ((with_reducible apply rngsF_ne); omega) | ((with_reducible apply flasF_ne); omega) | ((with_reducible apply matF_ne); omega) | ((with_reducible apply boolsF_ne); omega) | exact nea (by simp <;> omega))⟩))
    | (apply s_idxz TY; exact rfl; exact rfl; exact rfl; (first | omega | exact ⟨by omega, by (first | with_reducible assumption | ((with_reducible apply intsF_ne); omega) | ((with_reducible apply laysF_ne); omega) | ((with_reducible apply celsF_ne); omega) | ((with_reducible apply rngsF_ne); omega) | ((with_reducible apply flasF_ne); omega) | ((with_reducible apply matF_ne); omega) | ((with_reducible apply boolsF_ne); omega) | exact nea (by simp <;> omega))⟩))
    | (apply s_ld TY; exact rfl; exact rfl; exact rfl; exact rfl; (first | exact rfl | with_reducible assumption | ((with_reducible apply intsF_at); omega) | ((with_reducible apply matF_at); omega) | ((with_reducible apply boolsF_at); omega) | assumption))
    | (apply s_lds TY; exact rfl; exact rfl; exact rfl; exact rfl; (first | with_reducible assumption | ((with_reducible apply laysF_sub); omega) | ((with_reducible apply celsF_sub); omega) | ((with_reducible apply rngsF_sub); omega) | ((with_reducible apply flasF_sub); omega) | exact rfl); exact rfl)
    | (apply s_ldr TY; exact rfl; exact rfl; exact rfl; exact rfl; exact rfl; (first | exact rfl | with_reducible assumption | ((with_reducible apply intsF_at); omega) | ((with_reducible apply matF_at); omega) | ((with_reducible apply boolsF_at); omega) | assumption))
    | (apply s_alloc TY; exact rfl; exact rfl; exact rfl)
    | (apply s_store TY; exact rfl; exact rfl; exact rfl; exact rfl; exact rfl; exact rfl)
    | (apply s_storeR TY; exact rfl; exact rfl; exact rfl; exact rfl; exact rfl; (first | exact rfl | (simp [intsF, setAt_length, initF] <;> omega)))
    | (apply s_make TY; exact rfl; exact rfl; exact rfl; exact rfl; exact rfl; exact rfl; omega; omega; omega; omega))
    refine ⟨s + 1, by omega, by omega, gh_trans (gh_row 1 rfl) ?_⟩
    exact gh_le ⟨le_upd rfl trivial (le_upd (congrArg (fun z => AV.f (.sl t.length (intsF z))) (hsn.trans (by rw [spreadStep, hlen]))) trivial (le_upd rfl trivial (le_upd rfl trivial (le_nil _)))), le_h0 _ _⟩
  have hse : s = l.length := by omega
  subst hse
  repeat (first
    | (apply s_auto TY; exact rfl; exact rfl; exact rfl)
    | (apply s_cmpt; exact rfl; exact rfl; exact rfl; (first | assumption | omega))
    | (apply s_cmpf; exact rfl; exact rfl; exact rfl; (first | assumption | omega))
    | apply w_seq
    | apply w_region
    | (apply w_draw (id := 5) 9 rfl (by kernel_rfl))
    | (apply w_draw (id := 10) 12 rfl (by kernel_rfl))
    | apply s_nil
    | apply t_norm
    | apply t_exit
    | apply t_ret
    | apply k_hit
    | (apply k_miss; exact rfl)
    | apply k_norm
    | apply k_ret
    | apply w_block
    | apply w_exit
    | apply w_ret
    | apply w_skip
    | (apply w_condT; exact rfl; exact rfl)
    | (apply w_condF; exact rfl; exact rfl)
    | (apply s_cl1 (CopyInts_s _); exact rfl; exact rfl; exact rfl; exact rfl; exact rfl; (first | assumption | omega | decide))
    | (apply s_cond TY; exact rfl; exact rfl; exact rfl; (first | omega | exact ⟨by omega, by (first | with_reducible assumption | ((with_reducible apply intsF_ne); omega) | ((with_reducible apply laysF_ne); omega) | ((with_reducible apply celsF_ne); omega) | ((with_reducible apply rngsF_ne); omega) | ((with_reducible apply flasF_ne); omega) | ((with_reducible apply matF_ne); omega) | ((with_reducible apply boolsF_ne); omega) | exact nea (by simp <;> omega))⟩))
    | (apply s_idxz TY; exact rfl; exact rfl; exact rfl; (first | omega | exact ⟨by omega, by (first | with_reducible assumption | ((with_reducible apply intsF_ne); omega) | ((with_reducible apply laysF_ne); omega) | ((with_reducible apply celsF_ne); omega) | ((with_reducible apply rngsF_ne); omega) | ((with_reducible apply flasF_ne); omega) | ((with_reducible apply matF_ne); omega) | ((with_reducible apply boolsF_ne); omega) | exact nea (by simp <;> omega))⟩))
    | (apply s_ld TY; exact rfl; exact rfl; exact rfl; exact rfl; (first | exact rfl | with_reducible assumption | ((with_reducible apply intsF_at); omega) | ((with_reducible apply matF_at); omega) | ((with_reducible apply boolsF_at); omega) | assumption))
    | (apply s_lds TY; exact rfl; exact rfl; exact rfl; exact rfl; (first | with_reducible assumption | ((with_reducible apply laysF_sub); omega) | ((with_reducible apply celsF_sub); omega) | ((with_reducible apply rngsF_sub); omega) | ((with_reducible apply flasF_sub); omega) | exact rfl); exact rfl)
    | (apply s_ldr TY; exact rfl; exact rfl; exact rfl; exact rfl; exact rfl; (first | exact rfl | with_reducible assumption | ((with_reducible apply intsF_at); omega) | ((with_reducible apply matF_at); omega) | ((with_reducible apply boolsF_at); omega) | assumption))
    | (apply s_alloc TY; exact rfl; exact rfl; exact rfl)
    | (apply s_store TY; exact rfl; exact rfl; exact rfl; exact rfl; exact rfl; exact rfl)
    | (apply s_storeR TY; exact rfl; exact rfl; exact rfl; exact rfl; exact rfl; (first | exact rfl | (simp [intsF, setAt_length, initF] <;> omega)))
    | (apply s_make TY; exact rfl; exact rfl; exact rfl; exact rfl; exact rfl; exact rfl; omega; omega; omega; omega))
  exact lv_ret (ret1 rfl (res_tmp (congrArg (fun z => AV.f (.sl t.length (intsF (spreadL x t z)))) (List.take_length))))
end Go.Proofs.YtienhiloecfgnaaDoor
