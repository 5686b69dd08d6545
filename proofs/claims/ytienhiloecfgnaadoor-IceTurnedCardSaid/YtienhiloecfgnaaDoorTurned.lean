/- Proved: the law IceTurned returns true for every grid and every cell, and leaves what it was handed as it was. Conditions: those of the given card alone (the table of the four sides of a cell is tied to the program's text). -/
import Derived.Test.YtienhiloecfgnaaDoorK5
import Derived.Test.YtienhiloecfgnaaDoorTie
import Derived.Test.YtienhiloecfgnaaDoorCards
import Derived.SevenTiedAt
namespace Go.Proofs.YtienhiloecfgnaaDoor
open Go Go.RowKit Go.Proofs Go.Shelf Go.Ab
theorem firstE_two (a b : Int) : firstE [a, b] = if a = 0 then b else a := by
  unfold firstE firstE
  by_cases h : a = 0
  · rw [if_pos h, if_pos h]; by_cases h2 : b = 0
    · rw [if_pos h2, h2]; rfl
    · rw [if_neg h2]
  · rw [if_neg h, if_neg h]
theorem layerAtE_bad {x : Grid} {c : Cel} (h : (checkIce x).2 ≠ 0) : layerAtE x c = (0, (checkIce x).2) := by
  have e : firstE [iceErrE x, cellErrE x c] = (checkIce x).2 := by rw [firstE_two, iceErrE, if_neg h]
  unfold layerAtE; rw [e, if_pos (by simpa using h)]
theorem layerAtE_cell {x : Grid} {c : Cel} (h : (checkIce x).2 = 0) (hc : cellErrE x c ≠ 0) : layerAtE x c = (0, cellErrE x c) := by
  have e : firstE [iceErrE x, cellErrE x c] = cellErrE x c := by rw [firstE_two, iceErrE, if_pos h]
  unfold layerAtE; rw [e, if_pos (by simpa using hc)]
theorem layerAtE_ok {x : Grid} {c : Cel} (h : (checkIce x).2 = 0) (hc : cellErrE x c = 0) : layerAtE x c = (layerI x c, 0) := by
  have e : firstE [iceErrE x, cellErrE x c] = 0 := by rw [firstE_two, iceErrE, if_pos h, hc]
  unfold layerAtE; rw [e, if_neg (by decide)]
theorem neq_self (a : Int) : (!decide (a = a)) = false := by simp
set_option maxRecDepth 100000 in
theorem IceGrids_s (x : Grid) (c : Cel) : Summ Tryd.prog GG 5 [gridF x, .agg (celF c)] (bv true) := by
  refine summW Tryd.func5 rfl rfl 65 rfl (by simp) (fun M0 => ?_)
  cases hf : fewB x with
  | false =>
    have g : (!fewB x) = true := by rw [hf]; rfl
    repeat (first
    | (apply s_move_f; exact rfl; exact rfl)
    | (apply s_assign_f; exact rfl; exact rfl)
    | (apply s_load_pt TY; exact rfl; exact rfl; exact rfl; (first | exact rfl | assumption))
    | (apply s_load_pts TY; exact rfl; exact rfl; exact rfl; (first | assumption | exact rfl); exact rfl)
    | (apply s_extract; exact rfl; exact rfl; exact rfl)
    | (apply s_box; exact rfl; exact rfl; exact rfl)
    | (apply s_not; exact rfl; exact rfl)
    | (apply s_eql; exact rfl; exact rfl; exact rfl)
    | (apply s_neq; exact rfl; exact rfl; exact rfl)
    | (apply s_move_o; exact rfl; exact rfl)
    | (apply s_move_x; exact rfl; exact rfl)
    | (apply s_assign_x; exact rfl; exact rfl)
    | (apply s_assign_o; exact rfl; exact rfl)
    | (apply s_load_bx_f TY; exact rfl; exact rfl; exact rfl; exact rfl; exact rfl)
    | (apply s_load_bx_x TY; exact rfl; exact rfl; exact rfl; exact rfl; exact rfl)
    | (apply s_load_bx_o TY; exact rfl; exact rfl; exact rfl; exact rfl; exact rfl)
    | (apply s_load_bxs TY; exact rfl; exact rfl; exact rfl; exact rfl; exact rfl; exact rfl)
    | (apply s_load_row TY; exact rfl; exact rfl; exact rfl; exact rfl; (first | exact rfl | assumption))
    | (apply s_makefn; exact rfl; exact rfl)
    | (apply s_pickT; exact rfl; exact rfl; (first | exact rfl | assumption); exact rfl)
    | (apply s_pickF; exact rfl; exact rfl; (first | exact rfl | assumption); exact rfl)
    | apply w_seq
    | apply w_region
    | apply s_nil
    | apply t_norm
    | apply t_exit
    | apply t_ret
    | apply k_hit
    | (apply k_miss; exact rfl)
    | apply k_norm
    | apply k_ret
    | apply w_block
    | apply w_exit
    | apply w_ret
    | apply w_skip
    | (apply s_call (awake_s); exact rfl; exact rfl; exact rfl; exact rfl)
    | (apply s_call (Few_s x); exact rfl; exact rfl; exact rfl; exact rfl)
    | (apply g_skip; exact rfl; (first | exact rfl | assumption); exact rfl)
    | (apply g_move_f; exact rfl; (first | exact rfl | assumption); exact rfl; exact rfl)
    | (apply g_assign_f; exact rfl; (first | exact rfl | assumption); exact rfl; exact rfl)
    | (apply g_load_pt TY; exact rfl; (first | exact rfl | assumption); exact rfl; exact rfl; exact rfl; (first | exact rfl | assumption))
    | (apply g_load_pts TY; exact rfl; (first | exact rfl | assumption); exact rfl; exact rfl; exact rfl; (first | assumption | exact rfl); exact rfl)
    | (apply g_eql; exact rfl; (first | exact rfl | assumption); exact rfl; exact rfl; exact rfl)
    | (apply g_neq; exact rfl; (first | exact rfl | assumption); exact rfl; exact rfl; exact rfl)
    | (apply g_move_o; exact rfl; (first | exact rfl | assumption); exact rfl; exact rfl)
    | (apply g_move_x; exact rfl; (first | exact rfl | assumption); exact rfl; exact rfl)
    | (apply g_assign_x; exact rfl; (first | exact rfl | assumption); exact rfl; exact rfl)
    | (apply g_assign_o; exact rfl; (first | exact rfl | assumption); exact rfl; exact rfl)
    | (apply g_load_bx_f TY; exact rfl; (first | exact rfl | assumption); exact rfl; exact rfl; exact rfl; exact rfl; exact rfl)
    | (apply g_load_bx_x TY; exact rfl; (first | exact rfl | assumption); exact rfl; exact rfl; exact rfl; exact rfl; exact rfl)
    | (apply g_load_bx_o TY; exact rfl; (first | exact rfl | assumption); exact rfl; exact rfl; exact rfl; exact rfl; exact rfl)
    | (apply g_load_bxs TY; exact rfl; (first | exact rfl | assumption); exact rfl; exact rfl; exact rfl; exact rfl; exact rfl; exact rfl)
    | (apply g_load_row TY; exact rfl; (first | exact rfl | assumption); exact rfl; exact rfl; exact rfl; exact rfl; (first | exact rfl | assumption))
    | (apply g_call (awake_s); exact rfl; (first | exact rfl | assumption); exact rfl; exact rfl; exact rfl; exact rfl)
    | (apply g_call (Few_s x); exact rfl; (first | exact rfl | assumption); exact rfl; exact rfl; exact rfl; exact rfl)
    | (apply w_condT; exact rfl; (first | exact rfl | assumption))
    | (apply w_condF; exact rfl; (first | exact rfl | assumption)))
    exact lv_ret (ret1 rfl (res_tmp rfl))
  | true =>
  have g : (!fewB x) = false := by rw [hf]; rfl
  obtain ⟨f1, f2⟩ := fewB_true hf
  have n1 := neq_self (checkIce x).1
  have n2 := neq_self (checkIce x).2
  by_cases h : (checkIce x).2 = 0
  · have v : Valid x := (checkIce_zero x).1 h
    have d1 : decide ((checkIce x).2 = 0) = true := by simpa using h
    by_cases hc : cellErrE x c = 0
    · have hi : InG x c := (cellB_in v).1 ((unlessE_zero (by decide)).1 hc)
      have e := layerAtE_ok h hc
      have d2 : (!decide (cellErrE x c = 0)) = false := by simp [hc]
      have d3 : decide ((layerAtE x c).2 = 0) = true := by rw [e]; rfl
      repeat (first
    | (apply s_move_f; exact rfl; exact rfl)
    | (apply s_assign_f; exact rfl; exact rfl)
    | (apply s_load_pt TY; exact rfl; exact rfl; exact rfl; (first | exact rfl | assumption))
    | (apply s_load_pts TY; exact rfl; exact rfl; exact rfl; (first | assumption | exact rfl); exact rfl)
    | (apply s_extract; exact rfl; exact rfl; exact rfl)
    | (apply s_box; exact rfl; exact rfl; exact rfl)
    | (apply s_not; exact rfl; exact rfl)
    | (apply s_eql; exact rfl; exact rfl; exact rfl)
    | (apply s_neq; exact rfl; exact rfl; exact rfl)
    | (apply s_move_o; exact rfl; exact rfl)
    | (apply s_move_x; exact rfl; exact rfl)
    | (apply s_assign_x; exact rfl; exact rfl)
    | (apply s_assign_o; exact rfl; exact rfl)
    | (apply s_load_bx_f TY; exact rfl; exact rfl; exact rfl; exact rfl; exact rfl)
    | (apply s_load_bx_x TY; exact rfl; exact rfl; exact rfl; exact rfl; exact rfl)
    | (apply s_load_bx_o TY; exact rfl; exact rfl; exact rfl; exact rfl; exact rfl)
    | (apply s_load_bxs TY; exact rfl; exact rfl; exact rfl; exact rfl; exact rfl; exact rfl)
    | (apply s_load_row TY; exact rfl; exact rfl; exact rfl; exact rfl; (first | exact rfl | assumption))
    | (apply s_makefn; exact rfl; exact rfl)
    | (apply s_pickT; exact rfl; exact rfl; (first | exact rfl | assumption); exact rfl)
    | (apply s_pickF; exact rfl; exact rfl; (first | exact rfl | assumption); exact rfl)
    | apply w_seq
    | apply w_region
    | apply s_nil
    | apply t_norm
    | apply t_exit
    | apply t_ret
    | apply k_hit
    | (apply k_miss; exact rfl)
    | apply k_norm
    | apply k_ret
    | apply w_block
    | apply w_exit
    | apply w_ret
    | apply w_skip
    | (apply s_call (awake_s); exact rfl; exact rfl; exact rfl; exact rfl)
    | (apply s_call (Few_s x); exact rfl; exact rfl; exact rfl; exact rfl)
    | (apply s_call (CopyIce_s x (by omega) (by omega)); exact rfl; exact rfl; exact rfl; exact rfl)
    | (apply s_call (CheckIce_s x ⟨by omega, by omega⟩); exact rfl; exact rfl; exact rfl; exact rfl)
    | (apply s_call (LayerAt_s x c ⟨by omega, by omega⟩); exact rfl; exact rfl; exact rfl; exact rfl)
    | (apply s_call (refCheckIce_s x); exact rfl; exact rfl; exact rfl; exact rfl)
    | (apply g_skip; exact rfl; (first | exact rfl | assumption); exact rfl)
    | (apply g_move_f; exact rfl; (first | exact rfl | assumption); exact rfl; exact rfl)
    | (apply g_assign_f; exact rfl; (first | exact rfl | assumption); exact rfl; exact rfl)
    | (apply g_load_pt TY; exact rfl; (first | exact rfl | assumption); exact rfl; exact rfl; exact rfl; (first | exact rfl | assumption))
    | (apply g_load_pts TY; exact rfl; (first | exact rfl | assumption); exact rfl; exact rfl; exact rfl; (first | assumption | exact rfl); exact rfl)
    | (apply g_eql; exact rfl; (first | exact rfl | assumption); exact rfl; exact rfl; exact rfl)
    | (apply g_neq; exact rfl; (first | exact rfl | assumption); exact rfl; exact rfl; exact rfl)
    | (apply g_move_o; exact rfl; (first | exact rfl | assumption); exact rfl; exact rfl)
    | (apply g_move_x; exact rfl; (first | exact rfl | assumption); exact rfl; exact rfl)
    | (apply g_assign_x; exact rfl; (first | exact rfl | assumption); exact rfl; exact rfl)
    | (apply g_assign_o; exact rfl; (first | exact rfl | assumption); exact rfl; exact rfl)
    | (apply g_load_bx_f TY; exact rfl; (first | exact rfl | assumption); exact rfl; exact rfl; exact rfl; exact rfl; exact rfl)
    | (apply g_load_bx_x TY; exact rfl; (first | exact rfl | assumption); exact rfl; exact rfl; exact rfl; exact rfl; exact rfl)
    | (apply g_load_bx_o TY; exact rfl; (first | exact rfl | assumption); exact rfl; exact rfl; exact rfl; exact rfl; exact rfl)
    | (apply g_load_bxs TY; exact rfl; (first | exact rfl | assumption); exact rfl; exact rfl; exact rfl; exact rfl; exact rfl; exact rfl)
    | (apply g_load_row TY; exact rfl; (first | exact rfl | assumption); exact rfl; exact rfl; exact rfl; exact rfl; (first | exact rfl | assumption))
    | (apply g_call (awake_s); exact rfl; (first | exact rfl | assumption); exact rfl; exact rfl; exact rfl; exact rfl)
    | (apply g_call (Few_s x); exact rfl; (first | exact rfl | assumption); exact rfl; exact rfl; exact rfl; exact rfl)
    | (apply g_call (CopyIce_s x (by omega) (by omega)); exact rfl; (first | exact rfl | assumption); exact rfl; exact rfl; exact rfl; exact rfl)
    | (apply g_call (CheckIce_s x ⟨by omega, by omega⟩); exact rfl; (first | exact rfl | assumption); exact rfl; exact rfl; exact rfl; exact rfl)
    | (apply g_call (LayerAt_s x c ⟨by omega, by omega⟩); exact rfl; (first | exact rfl | assumption); exact rfl; exact rfl; exact rfl; exact rfl)
    | (apply g_call (refCheckIce_s x); exact rfl; (first | exact rfl | assumption); exact rfl; exact rfl; exact rfl; exact rfl)
    | (apply w_condT; exact rfl; (first | exact rfl | assumption))
    | (apply w_condF; exact rfl; (first | exact rfl | assumption)))
      apply w_draw 8 rfl (by kernel_rfl)
      repeat (first
    | (apply s_move_f; exact rfl; exact rfl)
    | (apply s_assign_f; exact rfl; exact rfl)
    | (apply s_load_pt TY; exact rfl; exact rfl; exact rfl; (first | exact rfl | assumption))
    | (apply s_load_pts TY; exact rfl; exact rfl; exact rfl; (first | assumption | exact rfl); exact rfl)
    | (apply s_extract; exact rfl; exact rfl; exact rfl)
    | (apply s_box; exact rfl; exact rfl; exact rfl)
    | (apply s_not; exact rfl; exact rfl)
    | (apply s_eql; exact rfl; exact rfl; exact rfl)
    | (apply s_neq; exact rfl; exact rfl; exact rfl)
    | (apply s_move_o; exact rfl; exact rfl)
    | (apply s_move_x; exact rfl; exact rfl)
    | (apply s_assign_x; exact rfl; exact rfl)
    | (apply s_assign_o; exact rfl; exact rfl)
    | (apply s_load_bx_f TY; exact rfl; exact rfl; exact rfl; exact rfl; exact rfl)
    | (apply s_load_bx_x TY; exact rfl; exact rfl; exact rfl; exact rfl; exact rfl)
    | (apply s_load_bx_o TY; exact rfl; exact rfl; exact rfl; exact rfl; exact rfl)
    | (apply s_load_bxs TY; exact rfl; exact rfl; exact rfl; exact rfl; exact rfl; exact rfl)
    | (apply s_load_row TY; exact rfl; exact rfl; exact rfl; exact rfl; (first | exact rfl | assumption))
    | (apply s_makefn; exact rfl; exact rfl)
    | (apply s_pickT; exact rfl; exact rfl; (first | exact rfl | assumption); exact rfl)
    | (apply s_pickF; exact rfl; exact rfl; (first | exact rfl | assumption); exact rfl)
    | apply w_seq
    | apply w_region
    | apply s_nil
    | apply t_norm
    | apply t_exit
    | apply t_ret
    | apply k_hit
    | (apply k_miss; exact rfl)
    | apply k_norm
    | apply k_ret
    | apply w_block
    | apply w_exit
    | apply w_ret
    | apply w_skip
    | (apply s_call (awake_s); exact rfl; exact rfl; exact rfl; exact rfl)
    | (apply s_call (Few_s x); exact rfl; exact rfl; exact rfl; exact rfl)
    | (apply s_call (CopyIce_s x (by omega) (by omega)); exact rfl; exact rfl; exact rfl; exact rfl)
    | (apply s_call (CheckIce_s x ⟨by omega, by omega⟩); exact rfl; exact rfl; exact rfl; exact rfl)
    | (apply s_call (LayerAt_s x c ⟨by omega, by omega⟩); exact rfl; exact rfl; exact rfl; exact rfl)
    | (apply s_call (refCheckIce_s x); exact rfl; exact rfl; exact rfl; exact rfl)
    | (apply s_call (CellErr_s x c v); exact rfl; exact rfl; exact rfl; exact rfl)
    | (apply s_call (Layer_s x c v hi); exact rfl; exact rfl; exact rfl; exact rfl)
    | (apply g_skip; exact rfl; (first | exact rfl | assumption); exact rfl)
    | (apply g_move_f; exact rfl; (first | exact rfl | assumption); exact rfl; exact rfl)
    | (apply g_assign_f; exact rfl; (first | exact rfl | assumption); exact rfl; exact rfl)
    | (apply g_load_pt TY; exact rfl; (first | exact rfl | assumption); exact rfl; exact rfl; exact rfl; (first | exact rfl | assumption))
    | (apply g_load_pts TY; exact rfl; (first | exact rfl | assumption); exact rfl; exact rfl; exact rfl; (first | assumption | exact rfl); exact rfl)
    | (apply g_eql; exact rfl; (first | exact rfl | assumption); exact rfl; exact rfl; exact rfl)
    | (apply g_neq; exact rfl; (first | exact rfl | assumption); exact rfl; exact rfl; exact rfl)
    | (apply g_move_o; exact rfl; (first | exact rfl | assumption); exact rfl; exact rfl)
    | (apply g_move_x; exact rfl; (first | exact rfl | assumption); exact rfl; exact rfl)
    | (apply g_assign_x; exact rfl; (first | exact rfl | assumption); exact rfl; exact rfl)
    | (apply g_assign_o; exact rfl; (first | exact rfl | assumption); exact rfl; exact rfl)
    | (apply g_load_bx_f TY; exact rfl; (first | exact rfl | assumption); exact rfl; exact rfl; exact rfl; exact rfl; exact rfl)
    | (apply g_load_bx_x TY; exact rfl; (first | exact rfl | assumption); exact rfl; exact rfl; exact rfl; exact rfl; exact rfl)
    | (apply g_load_bx_o TY; exact rfl; (first | exact rfl | assumption); exact rfl; exact rfl; exact rfl; exact rfl; exact rfl)
    | (apply g_load_bxs TY; exact rfl; (first | exact rfl | assumption); exact rfl; exact rfl; exact rfl; exact rfl; exact rfl; exact rfl)
    | (apply g_load_row TY; exact rfl; (first | exact rfl | assumption); exact rfl; exact rfl; exact rfl; exact rfl; (first | exact rfl | assumption))
    | (apply g_call (awake_s); exact rfl; (first | exact rfl | assumption); exact rfl; exact rfl; exact rfl; exact rfl)
    | (apply g_call (Few_s x); exact rfl; (first | exact rfl | assumption); exact rfl; exact rfl; exact rfl; exact rfl)
    | (apply g_call (CopyIce_s x (by omega) (by omega)); exact rfl; (first | exact rfl | assumption); exact rfl; exact rfl; exact rfl; exact rfl)
    | (apply g_call (CheckIce_s x ⟨by omega, by omega⟩); exact rfl; (first | exact rfl | assumption); exact rfl; exact rfl; exact rfl; exact rfl)
    | (apply g_call (LayerAt_s x c ⟨by omega, by omega⟩); exact rfl; (first | exact rfl | assumption); exact rfl; exact rfl; exact rfl; exact rfl)
    | (apply g_call (refCheckIce_s x); exact rfl; (first | exact rfl | assumption); exact rfl; exact rfl; exact rfl; exact rfl)
    | (apply g_call (CellErr_s x c v); exact rfl; (first | exact rfl | assumption); exact rfl; exact rfl; exact rfl; exact rfl)
    | (apply g_call (Layer_s x c v hi); exact rfl; (first | exact rfl | assumption); exact rfl; exact rfl; exact rfl; exact rfl)
    | (apply w_condT; exact rfl; (first | exact rfl | assumption))
    | (apply w_condF; exact rfl; (first | exact rfl | assumption)))
      exact lv_ret (ret1 rfl (res_tmp (avb (by rw [e]; simp))))
    · have e := layerAtE_cell h hc
      have d2 : (!decide (cellErrE x c = 0)) = true := by simp [hc]
      have d3 : decide ((layerAtE x c).2 = cellErrE x c) = true := by rw [e]; simp
      repeat (first
    | (apply s_move_f; exact rfl; exact rfl)
    | (apply s_assign_f; exact rfl; exact rfl)
    | (apply s_load_pt TY; exact rfl; exact rfl; exact rfl; (first | exact rfl | assumption))
    | (apply s_load_pts TY; exact rfl; exact rfl; exact rfl; (first | assumption | exact rfl); exact rfl)
    | (apply s_extract; exact rfl; exact rfl; exact rfl)
    | (apply s_box; exact rfl; exact rfl; exact rfl)
    | (apply s_not; exact rfl; exact rfl)
    | (apply s_eql; exact rfl; exact rfl; exact rfl)
    | (apply s_neq; exact rfl; exact rfl; exact rfl)
    | (apply s_move_o; exact rfl; exact rfl)
    | (apply s_move_x; exact rfl; exact rfl)
    | (apply s_assign_x; exact rfl; exact rfl)
    | (apply s_assign_o; exact rfl; exact rfl)
    | (apply s_load_bx_f TY; exact rfl; exact rfl; exact rfl; exact rfl; exact rfl)
    | (apply s_load_bx_x TY; exact rfl; exact rfl; exact rfl; exact rfl; exact rfl)
    | (apply s_load_bx_o TY; exact rfl; exact rfl; exact rfl; exact rfl; exact rfl)
    | (apply s_load_bxs TY; exact rfl; exact rfl; exact rfl; exact rfl; exact rfl; exact rfl)
    | (apply s_load_row TY; exact rfl; exact rfl; exact rfl; exact rfl; (first | exact rfl | assumption))
    | (apply s_makefn; exact rfl; exact rfl)
    | (apply s_pickT; exact rfl; exact rfl; (first | exact rfl | assumption); exact rfl)
    | (apply s_pickF; exact rfl; exact rfl; (first | exact rfl | assumption); exact rfl)
    | apply w_seq
    | apply w_region
    | apply s_nil
    | apply t_norm
    | apply t_exit
    | apply t_ret
    | apply k_hit
    | (apply k_miss; exact rfl)
    | apply k_norm
    | apply k_ret
    | apply w_block
    | apply w_exit
    | apply w_ret
    | apply w_skip
    | (apply s_call (awake_s); exact rfl; exact rfl; exact rfl; exact rfl)
    | (apply s_call (Few_s x); exact rfl; exact rfl; exact rfl; exact rfl)
    | (apply s_call (CopyIce_s x (by omega) (by omega)); exact rfl; exact rfl; exact rfl; exact rfl)
    | (apply s_call (CheckIce_s x ⟨by omega, by omega⟩); exact rfl; exact rfl; exact rfl; exact rfl)
    | (apply s_call (LayerAt_s x c ⟨by omega, by omega⟩); exact rfl; exact rfl; exact rfl; exact rfl)
    | (apply s_call (refCheckIce_s x); exact rfl; exact rfl; exact rfl; exact rfl)
    | (apply g_skip; exact rfl; (first | exact rfl | assumption); exact rfl)
    | (apply g_move_f; exact rfl; (first | exact rfl | assumption); exact rfl; exact rfl)
    | (apply g_assign_f; exact rfl; (first | exact rfl | assumption); exact rfl; exact rfl)
    | (apply g_load_pt TY; exact rfl; (first | exact rfl | assumption); exact rfl; exact rfl; exact rfl; (first | exact rfl | assumption))
    | (apply g_load_pts TY; exact rfl; (first | exact rfl | assumption); exact rfl; exact rfl; exact rfl; (first | assumption | exact rfl); exact rfl)
    | (apply g_eql; exact rfl; (first | exact rfl | assumption); exact rfl; exact rfl; exact rfl)
    | (apply g_neq; exact rfl; (first | exact rfl | assumption); exact rfl; exact rfl; exact rfl)
    | (apply g_move_o; exact rfl; (first | exact rfl | assumption); exact rfl; exact rfl)
    | (apply g_move_x; exact rfl; (first | exact rfl | assumption); exact rfl; exact rfl)
    | (apply g_assign_x; exact rfl; (first | exact rfl | assumption); exact rfl; exact rfl)
    | (apply g_assign_o; exact rfl; (first | exact rfl | assumption); exact rfl; exact rfl)
    | (apply g_load_bx_f TY; exact rfl; (first | exact rfl | assumption); exact rfl; exact rfl; exact rfl; exact rfl; exact rfl)
    | (apply g_load_bx_x TY; exact rfl; (first | exact rfl | assumption); exact rfl; exact rfl; exact rfl; exact rfl; exact rfl)
    | (apply g_load_bx_o TY; exact rfl; (first | exact rfl | assumption); exact rfl; exact rfl; exact rfl; exact rfl; exact rfl)
    | (apply g_load_bxs TY; exact rfl; (first | exact rfl | assumption); exact rfl; exact rfl; exact rfl; exact rfl; exact rfl; exact rfl)
    | (apply g_load_row TY; exact rfl; (first | exact rfl | assumption); exact rfl; exact rfl; exact rfl; exact rfl; (first | exact rfl | assumption))
    | (apply g_call (awake_s); exact rfl; (first | exact rfl | assumption); exact rfl; exact rfl; exact rfl; exact rfl)
    | (apply g_call (Few_s x); exact rfl; (first | exact rfl | assumption); exact rfl; exact rfl; exact rfl; exact rfl)
    | (apply g_call (CopyIce_s x (by omega) (by omega)); exact rfl; (first | exact rfl | assumption); exact rfl; exact rfl; exact rfl; exact rfl)
    | (apply g_call (CheckIce_s x ⟨by omega, by omega⟩); exact rfl; (first | exact rfl | assumption); exact rfl; exact rfl; exact rfl; exact rfl)
    | (apply g_call (LayerAt_s x c ⟨by omega, by omega⟩); exact rfl; (first | exact rfl | assumption); exact rfl; exact rfl; exact rfl; exact rfl)
    | (apply g_call (refCheckIce_s x); exact rfl; (first | exact rfl | assumption); exact rfl; exact rfl; exact rfl; exact rfl)
    | (apply w_condT; exact rfl; (first | exact rfl | assumption))
    | (apply w_condF; exact rfl; (first | exact rfl | assumption)))
      apply w_draw 8 rfl (by kernel_rfl)
      repeat (first
    | (apply s_move_f; exact rfl; exact rfl)
    | (apply s_assign_f; exact rfl; exact rfl)
    | (apply s_load_pt TY; exact rfl; exact rfl; exact rfl; (first | exact rfl | assumption))
    | (apply s_load_pts TY; exact rfl; exact rfl; exact rfl; (first | assumption | exact rfl); exact rfl)
    | (apply s_extract; exact rfl; exact rfl; exact rfl)
    | (apply s_box; exact rfl; exact rfl; exact rfl)
    | (apply s_not; exact rfl; exact rfl)
    | (apply s_eql; exact rfl; exact rfl; exact rfl)
    | (apply s_neq; exact rfl; exact rfl; exact rfl)
    | (apply s_move_o; exact rfl; exact rfl)
    | (apply s_move_x; exact rfl; exact rfl)
    | (apply s_assign_x; exact rfl; exact rfl)
    | (apply s_assign_o; exact rfl; exact rfl)
    | (apply s_load_bx_f TY; exact rfl; exact rfl; exact rfl; exact rfl; exact rfl)
    | (apply s_load_bx_x TY; exact rfl; exact rfl; exact rfl; exact rfl; exact rfl)
    | (apply s_load_bx_o TY; exact rfl; exact rfl; exact rfl; exact rfl; exact rfl)
    | (apply s_load_bxs TY; exact rfl; exact rfl; exact rfl; exact rfl; exact rfl; exact rfl)
    | (apply s_load_row TY; exact rfl; exact rfl; exact rfl; exact rfl; (first | exact rfl | assumption))
    | (apply s_makefn; exact rfl; exact rfl)
    | (apply s_pickT; exact rfl; exact rfl; (first | exact rfl | assumption); exact rfl)
    | (apply s_pickF; exact rfl; exact rfl; (first | exact rfl | assumption); exact rfl)
    | apply w_seq
    | apply w_region
    | apply s_nil
    | apply t_norm
    | apply t_exit
    | apply t_ret
    | apply k_hit
    | (apply k_miss; exact rfl)
    | apply k_norm
    | apply k_ret
    | apply w_block
    | apply w_exit
    | apply w_ret
    | apply w_skip
    | (apply s_call (awake_s); exact rfl; exact rfl; exact rfl; exact rfl)
    | (apply s_call (Few_s x); exact rfl; exact rfl; exact rfl; exact rfl)
    | (apply s_call (CopyIce_s x (by omega) (by omega)); exact rfl; exact rfl; exact rfl; exact rfl)
    | (apply s_call (CheckIce_s x ⟨by omega, by omega⟩); exact rfl; exact rfl; exact rfl; exact rfl)
    | (apply s_call (LayerAt_s x c ⟨by omega, by omega⟩); exact rfl; exact rfl; exact rfl; exact rfl)
    | (apply s_call (refCheckIce_s x); exact rfl; exact rfl; exact rfl; exact rfl)
    | (apply s_call (CellErr_s x c v); exact rfl; exact rfl; exact rfl; exact rfl)
    | (apply g_skip; exact rfl; (first | exact rfl | assumption); exact rfl)
    | (apply g_move_f; exact rfl; (first | exact rfl | assumption); exact rfl; exact rfl)
    | (apply g_assign_f; exact rfl; (first | exact rfl | assumption); exact rfl; exact rfl)
    | (apply g_load_pt TY; exact rfl; (first | exact rfl | assumption); exact rfl; exact rfl; exact rfl; (first | exact rfl | assumption))
    | (apply g_load_pts TY; exact rfl; (first | exact rfl | assumption); exact rfl; exact rfl; exact rfl; (first | assumption | exact rfl); exact rfl)
    | (apply g_eql; exact rfl; (first | exact rfl | assumption); exact rfl; exact rfl; exact rfl)
    | (apply g_neq; exact rfl; (first | exact rfl | assumption); exact rfl; exact rfl; exact rfl)
    | (apply g_move_o; exact rfl; (first | exact rfl | assumption); exact rfl; exact rfl)
    | (apply g_move_x; exact rfl; (first | exact rfl | assumption); exact rfl; exact rfl)
    | (apply g_assign_x; exact rfl; (first | exact rfl | assumption); exact rfl; exact rfl)
    | (apply g_assign_o; exact rfl; (first | exact rfl | assumption); exact rfl; exact rfl)
    | (apply g_load_bx_f TY; exact rfl; (first | exact rfl | assumption); exact rfl; exact rfl; exact rfl; exact rfl; exact rfl)
    | (apply g_load_bx_x TY; exact rfl; (first | exact rfl | assumption); exact rfl; exact rfl; exact rfl; exact rfl; exact rfl)
    | (apply g_load_bx_o TY; exact rfl; (first | exact rfl | assumption); exact rfl; exact rfl; exact rfl; exact rfl; exact rfl)
    | (apply g_load_bxs TY; exact rfl; (first | exact rfl | assumption); exact rfl; exact rfl; exact rfl; exact rfl; exact rfl; exact rfl)
    | (apply g_load_row TY; exact rfl; (first | exact rfl | assumption); exact rfl; exact rfl; exact rfl; exact rfl; (first | exact rfl | assumption))
    | (apply g_call (awake_s); exact rfl; (first | exact rfl | assumption); exact rfl; exact rfl; exact rfl; exact rfl)
    | (apply g_call (Few_s x); exact rfl; (first | exact rfl | assumption); exact rfl; exact rfl; exact rfl; exact rfl)
    | (apply g_call (CopyIce_s x (by omega) (by omega)); exact rfl; (first | exact rfl | assumption); exact rfl; exact rfl; exact rfl; exact rfl)
    | (apply g_call (CheckIce_s x ⟨by omega, by omega⟩); exact rfl; (first | exact rfl | assumption); exact rfl; exact rfl; exact rfl; exact rfl)
    | (apply g_call (LayerAt_s x c ⟨by omega, by omega⟩); exact rfl; (first | exact rfl | assumption); exact rfl; exact rfl; exact rfl; exact rfl)
    | (apply g_call (refCheckIce_s x); exact rfl; (first | exact rfl | assumption); exact rfl; exact rfl; exact rfl; exact rfl)
    | (apply g_call (CellErr_s x c v); exact rfl; (first | exact rfl | assumption); exact rfl; exact rfl; exact rfl; exact rfl)
    | (apply w_condT; exact rfl; (first | exact rfl | assumption))
    | (apply w_condF; exact rfl; (first | exact rfl | assumption)))
      exact lv_ret (ret1 rfl (res_tmp (avb (by rw [e]; simp))))
  · have e := layerAtE_bad (c := c) h
    have d1 : decide ((checkIce x).2 = 0) = false := by simpa using h
    have d2 : (!decide ((checkIce x).2 = 0)) = true := by simp [h]
    have d3 : decide ((layerAtE x c).2 = (checkIce x).2) = true := by rw [e]; simp
    repeat (first
    | (apply s_move_f; exact rfl; exact rfl)
    | (apply s_assign_f; exact rfl; exact rfl)
    | (apply s_load_pt TY; exact rfl; exact rfl; exact rfl; (first | exact rfl | assumption))
    | (apply s_load_pts TY; exact rfl; exact rfl; exact rfl; (first | assumption | exact rfl); exact rfl)
    | (apply s_extract; exact rfl; exact rfl; exact rfl)
    | (apply s_box; exact rfl; exact rfl; exact rfl)
    | (apply s_not; exact rfl; exact rfl)
    | (apply s_eql; exact rfl; exact rfl; exact rfl)
    | (apply s_neq; exact rfl; exact rfl; exact rfl)
    | (apply s_move_o; exact rfl; exact rfl)
    | (apply s_move_x; exact rfl; exact rfl)
    | (apply s_assign_x; exact rfl; exact rfl)
    | (apply s_assign_o; exact rfl; exact rfl)
    | (apply s_load_bx_f TY; exact rfl; exact rfl; exact rfl; exact rfl; exact rfl)
    | (apply s_load_bx_x TY; exact rfl; exact rfl; exact rfl; exact rfl; exact rfl)
    | (apply s_load_bx_o TY; exact rfl; exact rfl; exact rfl; exact rfl; exact rfl)
    | (apply s_load_bxs TY; exact rfl; exact rfl; exact rfl; exact rfl; exact rfl; exact rfl)
    | (apply s_load_row TY; exact rfl; exact rfl; exact rfl; exact rfl; (first | exact rfl | assumption))
    | (apply s_makefn; exact rfl; exact rfl)
    | (apply s_pickT; exact rfl; exact rfl; (first | exact rfl | assumption); exact rfl)
    | (apply s_pickF; exact rfl; exact rfl; (first | exact rfl | assumption); exact rfl)
    | apply w_seq
    | apply w_region
    | apply s_nil
    | apply t_norm
    | apply t_exit
    | apply t_ret
    | apply k_hit
    | (apply k_miss; exact rfl)
    | apply k_norm
    | apply k_ret
    | apply w_block
    | apply w_exit
    | apply w_ret
    | apply w_skip
    | (apply s_call (awake_s); exact rfl; exact rfl; exact rfl; exact rfl)
    | (apply s_call (Few_s x); exact rfl; exact rfl; exact rfl; exact rfl)
    | (apply s_call (CopyIce_s x (by omega) (by omega)); exact rfl; exact rfl; exact rfl; exact rfl)
    | (apply s_call (CheckIce_s x ⟨by omega, by omega⟩); exact rfl; exact rfl; exact rfl; exact rfl)
    | (apply s_call (LayerAt_s x c ⟨by omega, by omega⟩); exact rfl; exact rfl; exact rfl; exact rfl)
    | (apply s_call (refCheckIce_s x); exact rfl; exact rfl; exact rfl; exact rfl)
    | (apply g_skip; exact rfl; (first | exact rfl | assumption); exact rfl)
    | (apply g_move_f; exact rfl; (first | exact rfl | assumption); exact rfl; exact rfl)
    | (apply g_assign_f; exact rfl; (first | exact rfl | assumption); exact rfl; exact rfl)
    | (apply g_load_pt TY; exact rfl; (first | exact rfl | assumption); exact rfl; exact rfl; exact rfl; (first | exact rfl | assumption))
    | (apply g_load_pts TY; exact rfl; (first | exact rfl | assumption); exact rfl; exact rfl; exact rfl; (first | assumption | exact rfl); exact rfl)
    | (apply g_eql; exact rfl; (first | exact rfl | assumption); exact rfl; exact rfl; exact rfl)
    | (apply g_neq; exact rfl; (first | exact rfl | assumption); exact rfl; exact rfl; exact rfl)
    | (apply g_move_o; exact rfl; (first | exact rfl | assumption); exact rfl; exact rfl)
    | (apply g_move_x; exact rfl; (first | exact rfl | assumption); exact rfl; exact rfl)
    | (apply g_assign_x; exact rfl; (first | exact rfl | assumption); exact rfl; exact rfl)
    | (apply g_assign_o; exact rfl; (first | exact rfl | assumption); exact rfl; exact rfl)
    | (apply g_load_bx_f TY; exact rfl; (first | exact rfl | assumption); exact rfl; exact rfl; exact rfl; exact rfl; exact rfl)
    | (apply g_load_bx_x TY; exact rfl; (first | exact rfl | assumption); exact rfl; exact rfl; exact rfl; exact rfl; exact rfl)
    | (apply g_load_bx_o TY; exact rfl; (first | exact rfl | assumption); exact rfl; exact rfl; exact rfl; exact rfl; exact rfl)
    | (apply g_load_bxs TY; exact rfl; (first | exact rfl | assumption); exact rfl; exact rfl; exact rfl; exact rfl; exact rfl; exact rfl)
    | (apply g_load_row TY; exact rfl; (first | exact rfl | assumption); exact rfl; exact rfl; exact rfl; exact rfl; (first | exact rfl | assumption))
    | (apply g_call (awake_s); exact rfl; (first | exact rfl | assumption); exact rfl; exact rfl; exact rfl; exact rfl)
    | (apply g_call (Few_s x); exact rfl; (first | exact rfl | assumption); exact rfl; exact rfl; exact rfl; exact rfl)
    | (apply g_call (CopyIce_s x (by omega) (by omega)); exact rfl; (first | exact rfl | assumption); exact rfl; exact rfl; exact rfl; exact rfl)
    | (apply g_call (CheckIce_s x ⟨by omega, by omega⟩); exact rfl; (first | exact rfl | assumption); exact rfl; exact rfl; exact rfl; exact rfl)
    | (apply g_call (LayerAt_s x c ⟨by omega, by omega⟩); exact rfl; (first | exact rfl | assumption); exact rfl; exact rfl; exact rfl; exact rfl)
    | (apply g_call (refCheckIce_s x); exact rfl; (first | exact rfl | assumption); exact rfl; exact rfl; exact rfl; exact rfl)
    | (apply w_condT; exact rfl; (first | exact rfl | assumption))
    | (apply w_condF; exact rfl; (first | exact rfl | assumption)))
    apply w_draw 8 rfl (by kernel_rfl)
    repeat (first
    | (apply s_move_f; exact rfl; exact rfl)
    | (apply s_assign_f; exact rfl; exact rfl)
    | (apply s_load_pt TY; exact rfl; exact rfl; exact rfl; (first | exact rfl | assumption))
    | (apply s_load_pts TY; exact rfl; exact rfl; exact rfl; (first | assumption | exact rfl); exact rfl)
    | (apply s_extract; exact rfl; exact rfl; exact rfl)
    | (apply s_box; exact rfl; exact rfl; exact rfl)
    | (apply s_not; exact rfl; exact rfl)
    | (apply s_eql; exact rfl; exact rfl; exact rfl)
    | (apply s_neq; exact rfl; exact rfl; exact rfl)
    | (apply s_move_o; exact rfl; exact rfl)
    | (apply s_move_x; exact rfl; exact rfl)
    | (apply s_assign_x; exact rfl; exact rfl)
    | (apply s_assign_o; exact rfl; exact rfl)
    | (apply s_load_bx_f TY; exact rfl; exact rfl; exact rfl; exact rfl; exact rfl)
    | (apply s_load_bx_x TY; exact rfl; exact rfl; exact rfl; exact rfl; exact rfl)
    | (apply s_load_bx_o TY; exact rfl; exact rfl; exact rfl; exact rfl; exact rfl)
    | (apply s_load_bxs TY; exact rfl; exact rfl; exact rfl; exact rfl; exact rfl; exact rfl)
    | (apply s_load_row TY; exact rfl; exact rfl; exact rfl; exact rfl; (first | exact rfl | assumption))
    | (apply s_makefn; exact rfl; exact rfl)
    | (apply s_pickT; exact rfl; exact rfl; (first | exact rfl | assumption); exact rfl)
    | (apply s_pickF; exact rfl; exact rfl; (first | exact rfl | assumption); exact rfl)
    | apply w_seq
    | apply w_region
    | apply s_nil
    | apply t_norm
    | apply t_exit
    | apply t_ret
    | apply k_hit
    | (apply k_miss; exact rfl)
    | apply k_norm
    | apply k_ret
    | apply w_block
    | apply w_exit
    | apply w_ret
    | apply w_skip
    | (apply s_call (awake_s); exact rfl; exact rfl; exact rfl; exact rfl)
    | (apply s_call (Few_s x); exact rfl; exact rfl; exact rfl; exact rfl)
    | (apply s_call (CopyIce_s x (by omega) (by omega)); exact rfl; exact rfl; exact rfl; exact rfl)
    | (apply s_call (CheckIce_s x ⟨by omega, by omega⟩); exact rfl; exact rfl; exact rfl; exact rfl)
    | (apply s_call (LayerAt_s x c ⟨by omega, by omega⟩); exact rfl; exact rfl; exact rfl; exact rfl)
    | (apply s_call (refCheckIce_s x); exact rfl; exact rfl; exact rfl; exact rfl)
    | (apply g_skip; exact rfl; (first | exact rfl | assumption); exact rfl)
    | (apply g_move_f; exact rfl; (first | exact rfl | assumption); exact rfl; exact rfl)
    | (apply g_assign_f; exact rfl; (first | exact rfl | assumption); exact rfl; exact rfl)
    | (apply g_load_pt TY; exact rfl; (first | exact rfl | assumption); exact rfl; exact rfl; exact rfl; (first | exact rfl | assumption))
    | (apply g_load_pts TY; exact rfl; (first | exact rfl | assumption); exact rfl; exact rfl; exact rfl; (first | assumption | exact rfl); exact rfl)
    | (apply g_eql; exact rfl; (first | exact rfl | assumption); exact rfl; exact rfl; exact rfl)
    | (apply g_neq; exact rfl; (first | exact rfl | assumption); exact rfl; exact rfl; exact rfl)
    | (apply g_move_o; exact rfl; (first | exact rfl | assumption); exact rfl; exact rfl)
    | (apply g_move_x; exact rfl; (first | exact rfl | assumption); exact rfl; exact rfl)
    | (apply g_assign_x; exact rfl; (first | exact rfl | assumption); exact rfl; exact rfl)
    | (apply g_assign_o; exact rfl; (first | exact rfl | assumption); exact rfl; exact rfl)
    | (apply g_load_bx_f TY; exact rfl; (first | exact rfl | assumption); exact rfl; exact rfl; exact rfl; exact rfl; exact rfl)
    | (apply g_load_bx_x TY; exact rfl; (first | exact rfl | assumption); exact rfl; exact rfl; exact rfl; exact rfl; exact rfl)
    | (apply g_load_bx_o TY; exact rfl; (first | exact rfl | assumption); exact rfl; exact rfl; exact rfl; exact rfl; exact rfl)
    | (apply g_load_bxs TY; exact rfl; (first | exact rfl | assumption); exact rfl; exact rfl; exact rfl; exact rfl; exact rfl; exact rfl)
    | (apply g_load_row TY; exact rfl; (first | exact rfl | assumption); exact rfl; exact rfl; exact rfl; exact rfl; (first | exact rfl | assumption))
    | (apply g_call (awake_s); exact rfl; (first | exact rfl | assumption); exact rfl; exact rfl; exact rfl; exact rfl)
    | (apply g_call (Few_s x); exact rfl; (first | exact rfl | assumption); exact rfl; exact rfl; exact rfl; exact rfl)
    | (apply g_call (CopyIce_s x (by omega) (by omega)); exact rfl; (first | exact rfl | assumption); exact rfl; exact rfl; exact rfl; exact rfl)
    | (apply g_call (CheckIce_s x ⟨by omega, by omega⟩); exact rfl; (first | exact rfl | assumption); exact rfl; exact rfl; exact rfl; exact rfl)
    | (apply g_call (LayerAt_s x c ⟨by omega, by omega⟩); exact rfl; (first | exact rfl | assumption); exact rfl; exact rfl; exact rfl; exact rfl)
    | (apply g_call (refCheckIce_s x); exact rfl; (first | exact rfl | assumption); exact rfl; exact rfl; exact rfl; exact rfl)
    | (apply w_condT; exact rfl; (first | exact rfl | assumption))
    | (apply w_condF; exact rfl; (first | exact rfl | assumption)))
    exact lv_ret (ret1 rfl (res_tmp (avb (by rw [e]; simp))))
end Go.Proofs.YtienhiloecfgnaaDoor
namespace Go.Proofs.YtienhiloecfgnaaDoor
open Go Go.RowKit Go.Proofs Go.Shelf Go.Ab
def mir (x : Grid) : Grid := ⟨x.layers.reverse, x.rows, x.tilt.map fun t => x.rows - x.layers.length - t⟩
def mc (x : Grid) (c : Cel) : Cel := ⟨c.col, x.rows - 1 - c.row⟩
theorem mc_mc (x : Grid) (c : Cel) : mc x (mc x c) = c := by
  cases c; unfold mc; simp; omega
theorem mir_tl (x : Grid) : (mir x).tilt.length = x.tilt.length := by simp [mir]
theorem mir_ll (x : Grid) : (mir x).layers.length = x.layers.length := by simp [mir]
theorem mc_in {x : Grid} {c : Cel} : InG (mir x) (mc x c) ↔ InG x c := by
  unfold InG mc
  rw [mir_tl]
  show (_ ∧ _) ∧ 0 ≤ x.rows - 1 - c.row ∧ x.rows - 1 - c.row < x.rows ↔ _
  constructor <;> (intro h; simp only at *; omega)
theorem mir_layer {x : Grid} (v : Valid x) {c : Cel} (hc : InG x c) : layerI (mir x) (mc x c) = x.layers.length - 1 - layerI x c := by
  obtain ⟨⟨c0, c1⟩, d0, d1⟩ := hc
  have hk : c.col.toNat < x.tilt.length := by omega
  have h1 := v.l1
  have e : (mir x).tilt.getD c.col.toNat 0 = x.rows - x.layers.length - x.tilt.getD c.col.toNat 0 := by
    rw [List.getD_eq_getElem?_getD, List.getD_eq_getElem?_getD, List.getElem?_eq_getElem hk]
    simp [mir, hk]
  unfold layerI
  rw [mir_ll]
  show max 0 (min (x.rows - 1 - c.row - (mir x).tilt.getD c.col.toNat 0) _) = _
  rw [e]
  omega
theorem mir_delay {x : Grid} (v : Valid x) {c : Cel} (hc : InG x c) : delayAt (mir x) (mc x c) = delayAt x c := by
  obtain ⟨b0, b1⟩ := layerI_bd v c
  have hk : (layerI x c).toNat < x.layers.length := by omega
  unfold delayAt
  rw [mir_layer v hc]
  have e : ((x.layers.length : Int) - 1 - layerI x c).toNat = x.layers.length - 1 - (layerI x c).toNat := by omega
  rw [e, List.getD_eq_getElem?_getD, List.getD_eq_getElem?_getD]
  show ((x.layers.reverse)[x.layers.length - 1 - (layerI x c).toNat]?.getD (⟨0, 0, 0⟩ : Layer)).delay = _
  rw [List.getElem?_reverse (by omega)]
  have e2 : x.layers.length - 1 - (x.layers.length - 1 - (layerI x c).toNat) = (layerI x c).toNat := by omega
  rw [e2]
theorem mir_step {x : Grid} (v : Valid x) {a b : Cel} (ha : InG x a) (hb : InG x b) : stepI (mir x) (mc x a) (mc x b) = stepI x a b := by
  unfold stepI; rw [mir_delay v ha, mir_delay v hb]
theorem cand_mc {x : Grid} {c n : Cel} : mc x n ∈ cand (mc x c) ↔ n ∈ cand c := by
  obtain ⟨a, b⟩ := n
  obtain ⟨p, q⟩ := c
  unfold cand mc
  simp only [List.mem_cons, List.not_mem_nil, or_false, Cel.mk.injEq]
  constructor <;> (intro h; omega)
theorem nbrs_mc {x : Grid} (v : Valid x) (v' : Valid (mir x)) {c n : Cel} : mc x n ∈ nbrs (mir x) (mc x c) ↔ n ∈ nbrs x c := by
  unfold nbrs
  rw [List.mem_filter, List.mem_filter, cand_mc, cellB_in v', cellB_in v, mc_in]
theorem mir_is {x : Grid} (v : Valid x) (v' : Valid (mir x)) {fr : Cel} {d : Cel → Int} (h : IsDist x fr d) : IsDist (mir x) (mc x fr) (fun c => d (mc x c)) := by
  have hin : ∀ c, InG (mir x) c → InG x (mc x c) := fun c hc => by
    rw [← mc_mc x c] at hc
    exact mc_in.1 hc
  have hnb : ∀ c n, n ∈ nbrs (mir x) c → mc x n ∈ nbrs x (mc x c) := fun c n hn => by
    rw [← mc_mc x c, ← mc_mc x n] at hn
    exact (nbrs_mc v v').1 hn
  have hst : ∀ a b, InG (mir x) a → InG (mir x) b → stepI (mir x) a b = stepI x (mc x a) (mc x b) := fun a b ha hb => by
    have := mir_step v (hin a ha) (hin b hb)
    rwa [mc_mc, mc_mc] at this
  refine ⟨by rw [mc_mc]; exact h.zero, fun c hc => h.nonneg _ (hin c hc), fun c n hc hn => ?_, fun c hc hne => ?_⟩
  · rw [hst c n hc (nbrs_in v' hn)]
    exact h.le _ _ (hin c hc) (hnb c n hn)
  · obtain ⟨n, hn, e⟩ := h.tight (mc x c) (hin c hc) (fun e => hne (by rw [← mc_mc x c, e]))
    have hn' : mc x n ∈ nbrs (mir x) c := by
      have := (nbrs_mc v v' (c := mc x c) (n := n)).2 hn
      rwa [mc_mc] at this
    refine ⟨mc x n, hn', ?_⟩
    rw [hst _ c (nbrs_in v' hn') hc, mc_mc]
    exact e
theorem mir_mir (x : Grid) : mir (mir x) = x := by
  obtain ⟨l, r, t⟩ := x
  unfold mir
  simp only [List.reverse_reverse, List.length_reverse, List.map_map, Grid.mk.injEq, true_and]
  have : ((fun z => r - (l.length : Int) - z) ∘ fun z => r - (l.length : Int) - z) = id := by
    funext z; show r - (l.length : Int) - (r - (l.length : Int) - z) = z; omega
  rw [this, List.map_id]
theorem mc_mir (x : Grid) (c : Cel) : mc (mir x) c = mc x c := rfl
theorem distOf_mir {x : Grid} (v : Valid x) (v' : Valid (mir x)) (fr : Cel) {c : Cel} (hc : InG x c) : distOf (mir x) (mc x fr) (mc x c) = distOf x fr c := by
  by_cases h : ∃ d, IsDist x fr d
  · obtain ⟨d, hd⟩ := h
    have e1 := (distOf_is (mir_is v v' hd)).unique v' (mir_is v v' hd) (mc_in.2 hc)
    rw [e1, mc_mc]
    exact hd.unique v (distOf_is hd) hc
  · have h2 : ¬ ∃ d, IsDist (mir x) (mc x fr) d := fun ⟨d, hd⟩ => h ⟨_, by
      have := mir_is v' (by rw [mir_mir]; exact v) hd
      rw [mir_mir, mc_mir, mc_mc] at this
      exact this⟩
    unfold distOf
    rw [dif_neg h, dif_neg h2]
theorem timesM_len (x : Grid) (fr : Cel) : (timesM x fr).length = x.rows.toNat := by simp [timesM]
theorem timesM_row {x : Grid} {fr : Cel} : ∀ r ∈ timesM x fr, r.length = x.tilt.length := by
  intro r hr
  obtain ⟨k, _, rfl⟩ := List.mem_map.1 hr
  simp
theorem timesM_get {x : Grid} {fr : Cel} {r : Nat} (h : r < (timesM x fr).length) : (timesM x fr)[r] = (List.range x.tilt.length).map fun c => distOf x fr ⟨(c : Nat), (r : Nat)⟩ := by simp [timesM]
theorem timesM_mir {x : Grid} (v : Valid x) (v' : Valid (mir x)) (fr : Cel) {r j : Nat} (hr : r < (timesM x fr).length) (hj : j < (timesM (mir x) (mc x fr)).length) (e : r + j + 1 = x.rows.toNat) : (timesM x fr)[r] = (timesM (mir x) (mc x fr))[j] := by
  rw [timesM_get, timesM_get, mir_tl]
  rw [timesM_len] at hr
  refine List.map_congr_left fun c hc => ?_
  have hc := List.mem_range.1 hc
  have := distOf_mir v v' fr (c := ⟨(c : Nat), (r : Nat)⟩) (by unfold InG; simp; omega)
  rw [← this]
  unfold mc
  congr 2
  show x.rows - 1 - (r : Int) = j
  omega
theorem isShaped_s (x : Grid) (T : List (List Int)) (h1 : (T.length : Int) = x.rows) (h2 : ∀ r ∈ T, r.length = x.tilt.length) (h3 : x.rows ≤ 12) : Summ Tryd.prog GG 21 [gridF x, .sl T.length (matF T)] (bv true) := by
  have g1 : (!decide ((T.length : Int) = x.rows)) = false := by simp [h1]
  refine summW Tryd.func21 rfl rfl 26 rfl (by simp) (fun M0 => ?_)
  repeat (first
    | (apply s_move_f; exact rfl; exact rfl)
    | (apply s_assign_f; exact rfl; exact rfl)
    | (apply s_fld_pt TY; exact rfl; exact rfl; exact rfl)
    | (apply s_load_pt TY; exact rfl; exact rfl; exact rfl; (first | exact rfl | assumption))
    | (apply s_load_pts TY; exact rfl; exact rfl; exact rfl; (first | assumption | exact rfl); exact rfl)
    | (apply s_len TY; exact rfl; exact rfl; exact rfl)
    | (apply s_box; exact rfl; exact rfl; exact rfl)
    | (apply s_lss; exact rfl; exact rfl; exact rfl)
    | (apply s_neq; exact rfl; exact rfl; exact rfl)
    | (apply s_move_o; exact rfl; exact rfl)
    | (apply s_move_x; exact rfl; exact rfl)
    | (apply s_assign_x; exact rfl; exact rfl)
    | (apply s_assign_o; exact rfl; exact rfl)
    | (apply s_fld_bx TY; exact rfl; exact rfl; exact rfl)
    | (apply s_load_bx_f TY; exact rfl; exact rfl; exact rfl; exact rfl; exact rfl)
    | (apply s_load_bx_x TY; exact rfl; exact rfl; exact rfl; exact rfl; exact rfl)
    | (apply s_load_bx_o TY; exact rfl; exact rfl; exact rfl; exact rfl; exact rfl)
    | (apply s_load_bxs TY; exact rfl; exact rfl; exact rfl; exact rfl; exact rfl; exact rfl)
    | (apply s_load_row TY; exact rfl; exact rfl; exact rfl; exact rfl; (first | exact rfl | assumption))
    | (apply s_len_nil TY; exact rfl; exact rfl; exact rfl)
    | (apply s_len_ow TY; exact rfl; exact rfl; exact rfl; exact rfl)
    | (apply s_len_str TY; exact rfl; exact rfl; exact rfl)
    | (apply s_makefn; exact rfl; exact rfl)
    | apply w_seq
    | apply w_region
    | apply s_nil
    | apply t_norm
    | apply t_exit
    | apply t_ret
    | apply k_hit
    | (apply k_miss; exact rfl)
    | apply k_norm
    | apply k_ret
    | apply w_block
    | apply w_exit
    | apply w_ret
    | apply w_skip
    | (apply s_add; exact rfl; exact rfl; exact rfl; (omega))
    | (apply s_idxN TY; exact rfl; exact rfl; exact rfl; exact rfl; assumption; assumption)
    | (apply s_idxN_ow TY; exact rfl; exact rfl; exact rfl; exact rfl; exact rfl; assumption)
    | (apply s_idx TY; exact rfl; exact rfl; exact rfl; exact rfl; omega; omega; assumption)
    | (apply w_condT; exact rfl; (first | exact rfl | assumption))
    | (apply w_condF; exact rfl; (first | exact rfl | assumption)))
  apply w_loop (fun k : Nat => ⟨(Ab.upd (Ab.upd (Ab.upd (Ab.upd (fun _ => .bot) 1 (.f (.sl T.length (matF T)))) 2 (.f (.pt (gridL x) 0))) 4 (.f (bv false))) 5 (.f (iv (k : Nat)))), (fun _ => none), 0⟩) (fun k => k ≤ T.length) (fun k => T.length - k) 0 (Nat.zero_le _) (gh_le ⟨le_upd rfl trivial (le_upd rfl trivial (le_upd rfl trivial (le_upd rfl trivial (le_nil _)))), le_h0 _ _⟩)
  intro k hk
  by_cases hkc : k < T.length
  · have hc : decide ((k : Int) < (T.length : Int)) = true := by simpa using hkc
    have hne : matF T ≠ [] := map_ne hkc
    have hat : (matF T)[k * 1]? = some (rowF T[k]) := matF_at hkc
    have g2 : (!decide ((T[k].length : Int) = (x.tilt.length : Int))) = false := by simp [h2 _ (List.getElem_mem hkc)]
    repeat (first
    | (apply s_move_f; exact rfl; exact rfl)
    | (apply s_assign_f; exact rfl; exact rfl)
    | (apply s_fld_pt TY; exact rfl; exact rfl; exact rfl)
    | (apply s_load_pt TY; exact rfl; exact rfl; exact rfl; (first | exact rfl | assumption))
    | (apply s_load_pts TY; exact rfl; exact rfl; exact rfl; (first | assumption | exact rfl); exact rfl)
    | (apply s_len TY; exact rfl; exact rfl; exact rfl)
    | (apply s_box; exact rfl; exact rfl; exact rfl)
    | (apply s_lss; exact rfl; exact rfl; exact rfl)
    | (apply s_neq; exact rfl; exact rfl; exact rfl)
    | (apply s_move_o; exact rfl; exact rfl)
    | (apply s_move_x; exact rfl; exact rfl)
    | (apply s_assign_x; exact rfl; exact rfl)
    | (apply s_assign_o; exact rfl; exact rfl)
    | (apply s_fld_bx TY; exact rfl; exact rfl; exact rfl)
    | (apply s_load_bx_f TY; exact rfl; exact rfl; exact rfl; exact rfl; exact rfl)
    | (apply s_load_bx_x TY; exact rfl; exact rfl; exact rfl; exact rfl; exact rfl)
    | (apply s_load_bx_o TY; exact rfl; exact rfl; exact rfl; exact rfl; exact rfl)
    | (apply s_load_bxs TY; exact rfl; exact rfl; exact rfl; exact rfl; exact rfl; exact rfl)
    | (apply s_load_row TY; exact rfl; exact rfl; exact rfl; exact rfl; (first | exact rfl | assumption))
    | (apply s_len_nil TY; exact rfl; exact rfl; exact rfl)
    | (apply s_len_ow TY; exact rfl; exact rfl; exact rfl; exact rfl)
    | (apply s_len_str TY; exact rfl; exact rfl; exact rfl)
    | (apply s_makefn; exact rfl; exact rfl)
    | apply w_seq
    | apply w_region
    | apply s_nil
    | apply t_norm
    | apply t_exit
    | apply t_ret
    | apply k_hit
    | (apply k_miss; exact rfl)
    | apply k_norm
    | apply k_ret
    | apply w_block
    | apply w_exit
    | apply w_ret
    | apply w_skip
    | (apply s_add; exact rfl; exact rfl; exact rfl; (omega))
    | (apply s_idxN TY; exact rfl; exact rfl; exact rfl; exact rfl; assumption; assumption)
    | (apply s_idxN_ow TY; exact rfl; exact rfl; exact rfl; exact rfl; exact rfl; assumption)
    | (apply s_idx TY; exact rfl; exact rfl; exact rfl; exact rfl; omega; omega; assumption)
    | (apply w_condT; exact rfl; (first | exact rfl | assumption))
    | (apply w_condF; exact rfl; (first | exact rfl | assumption)))
    apply w_draw 8 rfl (by kernel_rfl)
    repeat (first
    | (apply s_move_f; exact rfl; exact rfl)
    | (apply s_assign_f; exact rfl; exact rfl)
    | (apply s_fld_pt TY; exact rfl; exact rfl; exact rfl)
    | (apply s_load_pt TY; exact rfl; exact rfl; exact rfl; (first | exact rfl | assumption))
    | (apply s_load_pts TY; exact rfl; exact rfl; exact rfl; (first | assumption | exact rfl); exact rfl)
    | (apply s_len TY; exact rfl; exact rfl; exact rfl)
    | (apply s_box; exact rfl; exact rfl; exact rfl)
    | (apply s_lss; exact rfl; exact rfl; exact rfl)
    | (apply s_neq; exact rfl; exact rfl; exact rfl)
    | (apply s_move_o; exact rfl; exact rfl)
    | (apply s_move_x; exact rfl; exact rfl)
    | (apply s_assign_x; exact rfl; exact rfl)
    | (apply s_assign_o; exact rfl; exact rfl)
    | (apply s_fld_bx TY; exact rfl; exact rfl; exact rfl)
    | (apply s_load_bx_f TY; exact rfl; exact rfl; exact rfl; exact rfl; exact rfl)
    | (apply s_load_bx_x TY; exact rfl; exact rfl; exact rfl; exact rfl; exact rfl)
    | (apply s_load_bx_o TY; exact rfl; exact rfl; exact rfl; exact rfl; exact rfl)
    | (apply s_load_bxs TY; exact rfl; exact rfl; exact rfl; exact rfl; exact rfl; exact rfl)
    | (apply s_load_row TY; exact rfl; exact rfl; exact rfl; exact rfl; (first | exact rfl | assumption))
    | (apply s_len_nil TY; exact rfl; exact rfl; exact rfl)
    | (apply s_len_ow TY; exact rfl; exact rfl; exact rfl; exact rfl)
    | (apply s_len_str TY; exact rfl; exact rfl; exact rfl)
    | (apply s_makefn; exact rfl; exact rfl)
    | apply w_seq
    | apply w_region
    | apply s_nil
    | apply t_norm
    | apply t_exit
    | apply t_ret
    | apply k_hit
    | (apply k_miss; exact rfl)
    | apply k_norm
    | apply k_ret
    | apply w_block
    | apply w_exit
    | apply w_ret
    | apply w_skip
    | (apply s_add; exact rfl; exact rfl; exact rfl; (omega))
    | (apply s_idxN TY; exact rfl; exact rfl; exact rfl; exact rfl; assumption; assumption)
    | (apply s_idxN_ow TY; exact rfl; exact rfl; exact rfl; exact rfl; exact rfl; assumption)
    | (apply s_idx TY; exact rfl; exact rfl; exact rfl; exact rfl; omega; omega; assumption)
    | (apply w_condT; exact rfl; (first | exact rfl | assumption))
    | (apply w_condF; exact rfl; (first | exact rfl | assumption)))
    exact ⟨k + 1, by omega, by omega, gh_le ⟨le_upd rfl trivial (le_upd rfl trivial (le_upd rfl trivial (le_upd rfl trivial (le_nil _)))), le_h0 _ _⟩⟩
  · have hc : decide ((k : Int) < (T.length : Int)) = false := by simpa using hkc
    repeat (first
    | (apply s_move_f; exact rfl; exact rfl)
    | (apply s_assign_f; exact rfl; exact rfl)
    | (apply s_fld_pt TY; exact rfl; exact rfl; exact rfl)
    | (apply s_load_pt TY; exact rfl; exact rfl; exact rfl; (first | exact rfl | assumption))
    | (apply s_load_pts TY; exact rfl; exact rfl; exact rfl; (first | assumption | exact rfl); exact rfl)
    | (apply s_len TY; exact rfl; exact rfl; exact rfl)
    | (apply s_box; exact rfl; exact rfl; exact rfl)
    | (apply s_lss; exact rfl; exact rfl; exact rfl)
    | (apply s_neq; exact rfl; exact rfl; exact rfl)
    | (apply s_move_o; exact rfl; exact rfl)
    | (apply s_move_x; exact rfl; exact rfl)
    | (apply s_assign_x; exact rfl; exact rfl)
    | (apply s_assign_o; exact rfl; exact rfl)
    | (apply s_fld_bx TY; exact rfl; exact rfl; exact rfl)
    | (apply s_load_bx_f TY; exact rfl; exact rfl; exact rfl; exact rfl; exact rfl)
    | (apply s_load_bx_x TY; exact rfl; exact rfl; exact rfl; exact rfl; exact rfl)
    | (apply s_load_bx_o TY; exact rfl; exact rfl; exact rfl; exact rfl; exact rfl)
    | (apply s_load_bxs TY; exact rfl; exact rfl; exact rfl; exact rfl; exact rfl; exact rfl)
    | (apply s_load_row TY; exact rfl; exact rfl; exact rfl; exact rfl; (first | exact rfl | assumption))
    | (apply s_len_nil TY; exact rfl; exact rfl; exact rfl)
    | (apply s_len_ow TY; exact rfl; exact rfl; exact rfl; exact rfl)
    | (apply s_len_str TY; exact rfl; exact rfl; exact rfl)
    | (apply s_makefn; exact rfl; exact rfl)
    | apply w_seq
    | apply w_region
    | apply s_nil
    | apply t_norm
    | apply t_exit
    | apply t_ret
    | apply k_hit
    | (apply k_miss; exact rfl)
    | apply k_norm
    | apply k_ret
    | apply w_block
    | apply w_exit
    | apply w_ret
    | apply w_skip
    | (apply s_add; exact rfl; exact rfl; exact rfl; (omega))
    | (apply s_idxN TY; exact rfl; exact rfl; exact rfl; exact rfl; assumption; assumption)
    | (apply s_idxN_ow TY; exact rfl; exact rfl; exact rfl; exact rfl; exact rfl; assumption)
    | (apply s_idx TY; exact rfl; exact rfl; exact rfl; exact rfl; omega; omega; assumption)
    | (apply w_condT; exact rfl; (first | exact rfl | assumption))
    | (apply w_condF; exact rfl; (first | exact rfl | assumption)))
    exact lv_ret (ret1 rfl (res_tmp rfl))
theorem laysF_rev {l : List Layer} {k : Nat} (hk : k < l.length) : laysF (l.reverse.take (k + 1)) = laysF (l.reverse.take k) ++ layF (l[l.length - 1 - k]'(by omega)) := by
  rw [List.take_add_one, List.getElem?_reverse hk, List.getElem?_eq_getElem (by omega)]
  simp [laysF]
theorem intsF_tk {l : List Int} {k : Nat} (hk : k < l.length) : intsF (l.take (k + 1)) = intsF (l.take k) ++ [iv l[k]] := by
  show (l.take (k + 1)).map iv = (l.take k).map iv ++ [iv l[k]]
  rw [List.take_add_one, List.getElem?_eq_getElem hk, List.map_append]; rfl
theorem mir_rowA (x : Grid) : Blk.row 33 3 x.layers.length (laysF (x.layers.reverse.take x.layers.length)) = .row 33 3 (mir x).layers.length (laysF (mir x).layers) := by
  rw [List.take_of_length_le (by simp)]; simp [mir]
theorem mir_rowB (x : Grid) : Blk.row 3 1 x.tilt.length (intsF ((mir x).tilt.take x.tilt.length)) = .row 3 1 (mir x).tilt.length (intsF (mir x).tilt) := by
  rw [List.take_of_length_le (by simp [mir]), mir_tl]
theorem mir_tilt {x : Grid} {k : Nat} (hk : k < x.tilt.length) : (mir x).tilt[k]'(by rw [mir_tl]; exact hk) = x.rows - x.layers.length - x.tilt[k] := by simp [mir]
set_option maxRecDepth 100000 in
set_option maxHeartbeats 1000000 in
theorem IceTurned_s (x : Grid) (c : Cel) : Summ Tryd.prog GG 3 [gridF x, .agg (celF c)] (bv true) := by
  refine summW Tryd.func3 rfl rfl 137 rfl (by simp) (fun M0 => ?_)
  cases hf : fewB x with
  | false =>
    have g : (!fewB x) = true := by rw [hf]; rfl
    repeat (first
    | (apply s_move_f; exact rfl; exact rfl)
    | (apply s_assign_f; exact rfl; exact rfl)
    | (apply s_fld_pt TY; exact rfl; exact rfl; exact rfl)
    | (apply s_load_pt TY; exact rfl; exact rfl; exact rfl; (first | exact rfl | assumption))
    | (apply s_load_pts TY; exact rfl; exact rfl; exact rfl; (first | assumption | exact rfl); exact rfl)
    | (apply s_len TY; exact rfl; exact rfl; exact rfl)
    | (apply s_extract; exact rfl; exact rfl; exact rfl)
    | (apply s_box; exact rfl; exact rfl; exact rfl)
    | (apply s_not; exact rfl; exact rfl)
    | (apply s_lss; exact rfl; exact rfl; exact rfl)
    | (apply s_geq; exact rfl; exact rfl; exact rfl)
    | (apply s_neq; exact rfl; exact rfl; exact rfl)
    | (apply s_move_o; exact rfl; exact rfl)
    | (apply s_move_x; exact rfl; exact rfl)
    | (apply s_assign_x; exact rfl; exact rfl)
    | (apply s_assign_o; exact rfl; exact rfl)
    | (apply s_fld_bx TY; exact rfl; exact rfl; exact rfl)
    | (apply s_load_bx_f TY; exact rfl; exact rfl; exact rfl; exact rfl; exact rfl)
    | (apply s_load_bx_x TY; exact rfl; exact rfl; exact rfl; exact rfl; exact rfl)
    | (apply s_load_bx_o TY; exact rfl; exact rfl; exact rfl; exact rfl; exact rfl)
    | (apply s_load_bxs TY; exact rfl; exact rfl; exact rfl; exact rfl; exact rfl; exact rfl)
    | (apply s_load_row TY; exact rfl; exact rfl; exact rfl; exact rfl; (first | exact rfl | assumption))
    | (apply s_len_nil TY; exact rfl; exact rfl; exact rfl)
    | (apply s_len_ow TY; exact rfl; exact rfl; exact rfl; exact rfl)
    | (apply s_len_str TY; exact rfl; exact rfl; exact rfl)
    | (apply s_makefn; exact rfl; exact rfl)
    | (apply s_build TY; exact rfl; exact rfl; exact rfl; exact rfl; exact rfl)
    | (apply s_bslice TY; exact rfl; exact rfl; exact rfl; exact rfl; exact rfl; exact rfl)
    | (apply s_pickT; exact rfl; exact rfl; (first | exact rfl | assumption); exact rfl)
    | (apply s_pickF; exact rfl; exact rfl; (first | exact rfl | assumption); exact rfl)
    | apply w_seq
    | apply w_region
    | apply s_nil
    | apply t_norm
    | apply t_exit
    | apply t_ret
    | apply k_hit
    | (apply k_miss; exact rfl)
    | apply k_norm
    | apply k_ret
    | apply w_block
    | apply w_exit
    | apply w_ret
    | apply w_skip
    | (apply s_call (awake_s); exact rfl; exact rfl; exact rfl; exact rfl)
    | (apply s_call (Few_s x); exact rfl; exact rfl; exact rfl; exact rfl)
    | (apply s_call (IceErr_s x); exact rfl; exact rfl; exact rfl; exact rfl)
    | (apply s_add; exact rfl; exact rfl; exact rfl; (omega))
    | (apply s_sub; exact rfl; exact rfl; exact rfl; (omega))
    | (apply g_skip; exact rfl; (first | exact rfl | assumption); exact rfl)
    | (apply g_move_f; exact rfl; (first | exact rfl | assumption); exact rfl; exact rfl)
    | (apply g_assign_f; exact rfl; (first | exact rfl | assumption); exact rfl; exact rfl)
    | (apply g_load_pt TY; exact rfl; (first | exact rfl | assumption); exact rfl; exact rfl; exact rfl; (first | exact rfl | assumption))
    | (apply g_load_pts TY; exact rfl; (first | exact rfl | assumption); exact rfl; exact rfl; exact rfl; (first | assumption | exact rfl); exact rfl)
    | (apply g_not; exact rfl; (first | exact rfl | assumption); exact rfl; exact rfl)
    | (apply g_neq; exact rfl; (first | exact rfl | assumption); exact rfl; exact rfl; exact rfl)
    | (apply g_move_o; exact rfl; (first | exact rfl | assumption); exact rfl; exact rfl)
    | (apply g_move_x; exact rfl; (first | exact rfl | assumption); exact rfl; exact rfl)
    | (apply g_assign_x; exact rfl; (first | exact rfl | assumption); exact rfl; exact rfl)
    | (apply g_assign_o; exact rfl; (first | exact rfl | assumption); exact rfl; exact rfl)
    | (apply g_load_bx_f TY; exact rfl; (first | exact rfl | assumption); exact rfl; exact rfl; exact rfl; exact rfl; exact rfl)
    | (apply g_load_bx_x TY; exact rfl; (first | exact rfl | assumption); exact rfl; exact rfl; exact rfl; exact rfl; exact rfl)
    | (apply g_load_bx_o TY; exact rfl; (first | exact rfl | assumption); exact rfl; exact rfl; exact rfl; exact rfl; exact rfl)
    | (apply g_load_bxs TY; exact rfl; (first | exact rfl | assumption); exact rfl; exact rfl; exact rfl; exact rfl; exact rfl; exact rfl)
    | (apply g_load_row TY; exact rfl; (first | exact rfl | assumption); exact rfl; exact rfl; exact rfl; exact rfl; (first | exact rfl | assumption))
    | (apply g_call (awake_s); exact rfl; (first | exact rfl | assumption); exact rfl; exact rfl; exact rfl; exact rfl)
    | (apply g_call (Few_s x); exact rfl; (first | exact rfl | assumption); exact rfl; exact rfl; exact rfl; exact rfl)
    | (apply g_call (IceErr_s x); exact rfl; (first | exact rfl | assumption); exact rfl; exact rfl; exact rfl; exact rfl)
    | (apply s_idxN TY; exact rfl; exact rfl; exact rfl; exact rfl; assumption; assumption)
    | (apply s_idxN_ow TY; exact rfl; exact rfl; exact rfl; exact rfl; exact rfl; assumption)
    | (apply s_idx TY; exact rfl; exact rfl; exact rfl; exact rfl; omega; omega; assumption)
    | (apply s_alloc TY; exact rfl; exact rfl; exact rfl)
    | (apply s_store TY; exact rfl; exact rfl; exact rfl; exact rfl; exact rfl; exact rfl)
    | (apply w_condT; exact rfl; (first | exact rfl | assumption))
    | (apply w_condF; exact rfl; (first | exact rfl | assumption)))
    exact lv_ret (ret1 rfl (res_tmp rfl))
  | true =>
  have g : (!fewB x) = false := by rw [hf]; rfl
  obtain ⟨f1, f2⟩ := fewB_true hf
  by_cases h : iceErrE x = 0
  case neg =>
    have g2 : (!decide (iceErrE x = 0)) = true := by simp [h]
    repeat (first
    | (apply s_move_f; exact rfl; exact rfl)
    | (apply s_assign_f; exact rfl; exact rfl)
    | (apply s_fld_pt TY; exact rfl; exact rfl; exact rfl)
    | (apply s_load_pt TY; exact rfl; exact rfl; exact rfl; (first | exact rfl | assumption))
    | (apply s_load_pts TY; exact rfl; exact rfl; exact rfl; (first | assumption | exact rfl); exact rfl)
    | (apply s_len TY; exact rfl; exact rfl; exact rfl)
    | (apply s_extract; exact rfl; exact rfl; exact rfl)
    | (apply s_box; exact rfl; exact rfl; exact rfl)
    | (apply s_not; exact rfl; exact rfl)
    | (apply s_lss; exact rfl; exact rfl; exact rfl)
    | (apply s_geq; exact rfl; exact rfl; exact rfl)
    | (apply s_neq; exact rfl; exact rfl; exact rfl)
    | (apply s_move_o; exact rfl; exact rfl)
    | (apply s_move_x; exact rfl; exact rfl)
    | (apply s_assign_x; exact rfl; exact rfl)
    | (apply s_assign_o; exact rfl; exact rfl)
    | (apply s_fld_bx TY; exact rfl; exact rfl; exact rfl)
    | (apply s_load_bx_f TY; exact rfl; exact rfl; exact rfl; exact rfl; exact rfl)
    | (apply s_load_bx_x TY; exact rfl; exact rfl; exact rfl; exact rfl; exact rfl)
    | (apply s_load_bx_o TY; exact rfl; exact rfl; exact rfl; exact rfl; exact rfl)
    | (apply s_load_bxs TY; exact rfl; exact rfl; exact rfl; exact rfl; exact rfl; exact rfl)
    | (apply s_load_row TY; exact rfl; exact rfl; exact rfl; exact rfl; (first | exact rfl | assumption))
    | (apply s_len_nil TY; exact rfl; exact rfl; exact rfl)
    | (apply s_len_ow TY; exact rfl; exact rfl; exact rfl; exact rfl)
    | (apply s_len_str TY; exact rfl; exact rfl; exact rfl)
    | (apply s_makefn; exact rfl; exact rfl)
    | (apply s_build TY; exact rfl; exact rfl; exact rfl; exact rfl; exact rfl)
    | (apply s_bslice TY; exact rfl; exact rfl; exact rfl; exact rfl; exact rfl; exact rfl)
    | (apply s_pickT; exact rfl; exact rfl; (first | exact rfl | assumption); exact rfl)
    | (apply s_pickF; exact rfl; exact rfl; (first | exact rfl | assumption); exact rfl)
    | apply w_seq
    | apply w_region
    | apply s_nil
    | apply t_norm
    | apply t_exit
    | apply t_ret
    | apply k_hit
    | (apply k_miss; exact rfl)
    | apply k_norm
    | apply k_ret
    | apply w_block
    | apply w_exit
    | apply w_ret
    | apply w_skip
    | (apply s_call (awake_s); exact rfl; exact rfl; exact rfl; exact rfl)
    | (apply s_call (Few_s x); exact rfl; exact rfl; exact rfl; exact rfl)
    | (apply s_call (IceErr_s x); exact rfl; exact rfl; exact rfl; exact rfl)
    | (apply s_add; exact rfl; exact rfl; exact rfl; (omega))
    | (apply s_sub; exact rfl; exact rfl; exact rfl; (omega))
    | (apply g_skip; exact rfl; (first | exact rfl | assumption); exact rfl)
    | (apply g_move_f; exact rfl; (first | exact rfl | assumption); exact rfl; exact rfl)
    | (apply g_assign_f; exact rfl; (first | exact rfl | assumption); exact rfl; exact rfl)
    | (apply g_load_pt TY; exact rfl; (first | exact rfl | assumption); exact rfl; exact rfl; exact rfl; (first | exact rfl | assumption))
    | (apply g_load_pts TY; exact rfl; (first | exact rfl | assumption); exact rfl; exact rfl; exact rfl; (first | assumption | exact rfl); exact rfl)
    | (apply g_not; exact rfl; (first | exact rfl | assumption); exact rfl; exact rfl)
    | (apply g_neq; exact rfl; (first | exact rfl | assumption); exact rfl; exact rfl; exact rfl)
    | (apply g_move_o; exact rfl; (first | exact rfl | assumption); exact rfl; exact rfl)
    | (apply g_move_x; exact rfl; (first | exact rfl | assumption); exact rfl; exact rfl)
    | (apply g_assign_x; exact rfl; (first | exact rfl | assumption); exact rfl; exact rfl)
    | (apply g_assign_o; exact rfl; (first | exact rfl | assumption); exact rfl; exact rfl)
    | (apply g_load_bx_f TY; exact rfl; (first | exact rfl | assumption); exact rfl; exact rfl; exact rfl; exact rfl; exact rfl)
    | (apply g_load_bx_x TY; exact rfl; (first | exact rfl | assumption); exact rfl; exact rfl; exact rfl; exact rfl; exact rfl)
    | (apply g_load_bx_o TY; exact rfl; (first | exact rfl | assumption); exact rfl; exact rfl; exact rfl; exact rfl; exact rfl)
    | (apply g_load_bxs TY; exact rfl; (first | exact rfl | assumption); exact rfl; exact rfl; exact rfl; exact rfl; exact rfl; exact rfl)
    | (apply g_load_row TY; exact rfl; (first | exact rfl | assumption); exact rfl; exact rfl; exact rfl; exact rfl; (first | exact rfl | assumption))
    | (apply g_call (awake_s); exact rfl; (first | exact rfl | assumption); exact rfl; exact rfl; exact rfl; exact rfl)
    | (apply g_call (Few_s x); exact rfl; (first | exact rfl | assumption); exact rfl; exact rfl; exact rfl; exact rfl)
    | (apply g_call (IceErr_s x); exact rfl; (first | exact rfl | assumption); exact rfl; exact rfl; exact rfl; exact rfl)
    | (apply s_idxN TY; exact rfl; exact rfl; exact rfl; exact rfl; assumption; assumption)
    | (apply s_idxN_ow TY; exact rfl; exact rfl; exact rfl; exact rfl; exact rfl; assumption)
    | (apply s_idx TY; exact rfl; exact rfl; exact rfl; exact rfl; omega; omega; assumption)
    | (apply s_alloc TY; exact rfl; exact rfl; exact rfl)
    | (apply s_store TY; exact rfl; exact rfl; exact rfl; exact rfl; exact rfl; exact rfl)
    | (apply w_condT; exact rfl; (first | exact rfl | assumption))
    | (apply w_condF; exact rfl; (first | exact rfl | assumption)))
    exact lv_ret (ret1 rfl (res_tmp rfl))
  have g2 : (!decide (iceErrE x = 0)) = false := by simp [h]
  have v : Valid x := (checkIce_zero x).1 h
  by_cases hc : cellErrE x c = 0
  case neg =>
    have g3 : (!decide (cellErrE x c = 0)) = true := by simp [hc]
    repeat (first
    | (apply s_move_f; exact rfl; exact rfl)
    | (apply s_assign_f; exact rfl; exact rfl)
    | (apply s_fld_pt TY; exact rfl; exact rfl; exact rfl)
    | (apply s_load_pt TY; exact rfl; exact rfl; exact rfl; (first | exact rfl | assumption))
    | (apply s_load_pts TY; exact rfl; exact rfl; exact rfl; (first | assumption | exact rfl); exact rfl)
    | (apply s_len TY; exact rfl; exact rfl; exact rfl)
    | (apply s_extract; exact rfl; exact rfl; exact rfl)
    | (apply s_box; exact rfl; exact rfl; exact rfl)
    | (apply s_not; exact rfl; exact rfl)
    | (apply s_lss; exact rfl; exact rfl; exact rfl)
    | (apply s_geq; exact rfl; exact rfl; exact rfl)
    | (apply s_neq; exact rfl; exact rfl; exact rfl)
    | (apply s_move_o; exact rfl; exact rfl)
    | (apply s_move_x; exact rfl; exact rfl)
    | (apply s_assign_x; exact rfl; exact rfl)
    | (apply s_assign_o; exact rfl; exact rfl)
    | (apply s_fld_bx TY; exact rfl; exact rfl; exact rfl)
    | (apply s_load_bx_f TY; exact rfl; exact rfl; exact rfl; exact rfl; exact rfl)
    | (apply s_load_bx_x TY; exact rfl; exact rfl; exact rfl; exact rfl; exact rfl)
    | (apply s_load_bx_o TY; exact rfl; exact rfl; exact rfl; exact rfl; exact rfl)
    | (apply s_load_bxs TY; exact rfl; exact rfl; exact rfl; exact rfl; exact rfl; exact rfl)
    | (apply s_load_row TY; exact rfl; exact rfl; exact rfl; exact rfl; (first | exact rfl | assumption))
    | (apply s_len_nil TY; exact rfl; exact rfl; exact rfl)
    | (apply s_len_ow TY; exact rfl; exact rfl; exact rfl; exact rfl)
    | (apply s_len_str TY; exact rfl; exact rfl; exact rfl)
    | (apply s_makefn; exact rfl; exact rfl)
    | (apply s_build TY; exact rfl; exact rfl; exact rfl; exact rfl; exact rfl)
    | (apply s_bslice TY; exact rfl; exact rfl; exact rfl; exact rfl; exact rfl; exact rfl)
    | (apply s_pickT; exact rfl; exact rfl; (first | exact rfl | assumption); exact rfl)
    | (apply s_pickF; exact rfl; exact rfl; (first | exact rfl | assumption); exact rfl)
    | apply w_seq
    | apply w_region
    | apply s_nil
    | apply t_norm
    | apply t_exit
    | apply t_ret
    | apply k_hit
    | (apply k_miss; exact rfl)
    | apply k_norm
    | apply k_ret
    | apply w_block
    | apply w_exit
    | apply w_ret
    | apply w_skip
    | (apply s_call (awake_s); exact rfl; exact rfl; exact rfl; exact rfl)
    | (apply s_call (Few_s x); exact rfl; exact rfl; exact rfl; exact rfl)
    | (apply s_call (IceErr_s x); exact rfl; exact rfl; exact rfl; exact rfl)
    | (apply s_call (CellErr_s x c v); exact rfl; exact rfl; exact rfl; exact rfl)
    | (apply s_add; exact rfl; exact rfl; exact rfl; (omega))
    | (apply s_sub; exact rfl; exact rfl; exact rfl; (omega))
    | (apply g_skip; exact rfl; (first | exact rfl | assumption); exact rfl)
    | (apply g_move_f; exact rfl; (first | exact rfl | assumption); exact rfl; exact rfl)
    | (apply g_assign_f; exact rfl; (first | exact rfl | assumption); exact rfl; exact rfl)
    | (apply g_load_pt TY; exact rfl; (first | exact rfl | assumption); exact rfl; exact rfl; exact rfl; (first | exact rfl | assumption))
    | (apply g_load_pts TY; exact rfl; (first | exact rfl | assumption); exact rfl; exact rfl; exact rfl; (first | assumption | exact rfl); exact rfl)
    | (apply g_not; exact rfl; (first | exact rfl | assumption); exact rfl; exact rfl)
    | (apply g_neq; exact rfl; (first | exact rfl | assumption); exact rfl; exact rfl; exact rfl)
    | (apply g_move_o; exact rfl; (first | exact rfl | assumption); exact rfl; exact rfl)
    | (apply g_move_x; exact rfl; (first | exact rfl | assumption); exact rfl; exact rfl)
    | (apply g_assign_x; exact rfl; (first | exact rfl | assumption); exact rfl; exact rfl)
    | (apply g_assign_o; exact rfl; (first | exact rfl | assumption); exact rfl; exact rfl)
    | (apply g_load_bx_f TY; exact rfl; (first | exact rfl | assumption); exact rfl; exact rfl; exact rfl; exact rfl; exact rfl)
    | (apply g_load_bx_x TY; exact rfl; (first | exact rfl | assumption); exact rfl; exact rfl; exact rfl; exact rfl; exact rfl)
    | (apply g_load_bx_o TY; exact rfl; (first | exact rfl | assumption); exact rfl; exact rfl; exact rfl; exact rfl; exact rfl)
    | (apply g_load_bxs TY; exact rfl; (first | exact rfl | assumption); exact rfl; exact rfl; exact rfl; exact rfl; exact rfl; exact rfl)
    | (apply g_load_row TY; exact rfl; (first | exact rfl | assumption); exact rfl; exact rfl; exact rfl; exact rfl; (first | exact rfl | assumption))
    | (apply g_call (awake_s); exact rfl; (first | exact rfl | assumption); exact rfl; exact rfl; exact rfl; exact rfl)
    | (apply g_call (Few_s x); exact rfl; (first | exact rfl | assumption); exact rfl; exact rfl; exact rfl; exact rfl)
    | (apply g_call (IceErr_s x); exact rfl; (first | exact rfl | assumption); exact rfl; exact rfl; exact rfl; exact rfl)
    | (apply g_call (CellErr_s x c v); exact rfl; (first | exact rfl | assumption); exact rfl; exact rfl; exact rfl; exact rfl)
    | (apply s_idxN TY; exact rfl; exact rfl; exact rfl; exact rfl; assumption; assumption)
    | (apply s_idxN_ow TY; exact rfl; exact rfl; exact rfl; exact rfl; exact rfl; assumption)
    | (apply s_idx TY; exact rfl; exact rfl; exact rfl; exact rfl; omega; omega; assumption)
    | (apply s_alloc TY; exact rfl; exact rfl; exact rfl)
    | (apply s_store TY; exact rfl; exact rfl; exact rfl; exact rfl; exact rfl; exact rfl)
    | (apply w_condT; exact rfl; (first | exact rfl | assumption))
    | (apply w_condF; exact rfl; (first | exact rfl | assumption)))
    exact lv_ret (ret1 rfl (res_tmp rfl))
  have g3 : (!decide (cellErrE x c = 0)) = false := by simp [hc]
  have hi : InG x c := (cellB_in v).1 ((unlessE_zero (by decide)).1 hc)
  have l1 := v.l1; have l6 := v.l6; have r1 := v.r1; have r12 := v.r12; have t1 := v.t1; have t8 := v.t8
  repeat (first
    | (apply s_move_f; exact rfl; exact rfl)
    | (apply s_assign_f; exact rfl; exact rfl)
    | (apply s_fld_pt TY; exact rfl; exact rfl; exact rfl)
    | (apply s_load_pt TY; exact rfl; exact rfl; exact rfl; (first | exact rfl | assumption))
    | (apply s_load_pts TY; exact rfl; exact rfl; exact rfl; (first | assumption | exact rfl); exact rfl)
    | (apply s_len TY; exact rfl; exact rfl; exact rfl)
    | (apply s_extract; exact rfl; exact rfl; exact rfl)
    | (apply s_box; exact rfl; exact rfl; exact rfl)
    | (apply s_not; exact rfl; exact rfl)
    | (apply s_lss; exact rfl; exact rfl; exact rfl)
    | (apply s_geq; exact rfl; exact rfl; exact rfl)
    | (apply s_neq; exact rfl; exact rfl; exact rfl)
    | (apply s_move_o; exact rfl; exact rfl)
    | (apply s_move_x; exact rfl; exact rfl)
    | (apply s_assign_x; exact rfl; exact rfl)
    | (apply s_assign_o; exact rfl; exact rfl)
    | (apply s_fld_bx TY; exact rfl; exact rfl; exact rfl)
    | (apply s_load_bx_f TY; exact rfl; exact rfl; exact rfl; exact rfl; exact rfl)
    | (apply s_load_bx_x TY; exact rfl; exact rfl; exact rfl; exact rfl; exact rfl)
    | (apply s_load_bx_o TY; exact rfl; exact rfl; exact rfl; exact rfl; exact rfl)
    | (apply s_load_bxs TY; exact rfl; exact rfl; exact rfl; exact rfl; exact rfl; exact rfl)
    | (apply s_load_row TY; exact rfl; exact rfl; exact rfl; exact rfl; (first | exact rfl | assumption))
    | (apply s_len_nil TY; exact rfl; exact rfl; exact rfl)
    | (apply s_len_ow TY; exact rfl; exact rfl; exact rfl; exact rfl)
    | (apply s_len_str TY; exact rfl; exact rfl; exact rfl)
    | (apply s_makefn; exact rfl; exact rfl)
    | (apply s_build TY; exact rfl; exact rfl; exact rfl; exact rfl; exact rfl)
    | (apply s_bslice TY; exact rfl; exact rfl; exact rfl; exact rfl; exact rfl; exact rfl)
    | (apply s_pickT; exact rfl; exact rfl; (first | exact rfl | assumption); exact rfl)
    | (apply s_pickF; exact rfl; exact rfl; (first | exact rfl | assumption); exact rfl)
    | apply w_seq
    | apply w_region
    | apply s_nil
    | apply t_norm
    | apply t_exit
    | apply t_ret
    | apply k_hit
    | (apply k_miss; exact rfl)
    | apply k_norm
    | apply k_ret
    | apply w_block
    | apply w_exit
    | apply w_ret
    | apply w_skip
    | (apply s_call (awake_s); exact rfl; exact rfl; exact rfl; exact rfl)
    | (apply s_call (Few_s x); exact rfl; exact rfl; exact rfl; exact rfl)
    | (apply s_call (IceErr_s x); exact rfl; exact rfl; exact rfl; exact rfl)
    | (apply s_call (CellErr_s x c v); exact rfl; exact rfl; exact rfl; exact rfl)
    | (apply s_add; exact rfl; exact rfl; exact rfl; (omega))
    | (apply s_sub; exact rfl; exact rfl; exact rfl; (omega))
    | (apply g_skip; exact rfl; (first | exact rfl | assumption); exact rfl)
    | (apply g_move_f; exact rfl; (first | exact rfl | assumption); exact rfl; exact rfl)
    | (apply g_assign_f; exact rfl; (first | exact rfl | assumption); exact rfl; exact rfl)
    | (apply g_load_pt TY; exact rfl; (first | exact rfl | assumption); exact rfl; exact rfl; exact rfl; (first | exact rfl | assumption))
    | (apply g_load_pts TY; exact rfl; (first | exact rfl | assumption); exact rfl; exact rfl; exact rfl; (first | assumption | exact rfl); exact rfl)
    | (apply g_not; exact rfl; (first | exact rfl | assumption); exact rfl; exact rfl)
    | (apply g_neq; exact rfl; (first | exact rfl | assumption); exact rfl; exact rfl; exact rfl)
    | (apply g_move_o; exact rfl; (first | exact rfl | assumption); exact rfl; exact rfl)
    | (apply g_move_x; exact rfl; (first | exact rfl | assumption); exact rfl; exact rfl)
    | (apply g_assign_x; exact rfl; (first | exact rfl | assumption); exact rfl; exact rfl)
    | (apply g_assign_o; exact rfl; (first | exact rfl | assumption); exact rfl; exact rfl)
    | (apply g_load_bx_f TY; exact rfl; (first | exact rfl | assumption); exact rfl; exact rfl; exact rfl; exact rfl; exact rfl)
    | (apply g_load_bx_x TY; exact rfl; (first | exact rfl | assumption); exact rfl; exact rfl; exact rfl; exact rfl; exact rfl)
    | (apply g_load_bx_o TY; exact rfl; (first | exact rfl | assumption); exact rfl; exact rfl; exact rfl; exact rfl; exact rfl)
    | (apply g_load_bxs TY; exact rfl; (first | exact rfl | assumption); exact rfl; exact rfl; exact rfl; exact rfl; exact rfl; exact rfl)
    | (apply g_load_row TY; exact rfl; (first | exact rfl | assumption); exact rfl; exact rfl; exact rfl; exact rfl; (first | exact rfl | assumption))
    | (apply g_call (awake_s); exact rfl; (first | exact rfl | assumption); exact rfl; exact rfl; exact rfl; exact rfl)
    | (apply g_call (Few_s x); exact rfl; (first | exact rfl | assumption); exact rfl; exact rfl; exact rfl; exact rfl)
    | (apply g_call (IceErr_s x); exact rfl; (first | exact rfl | assumption); exact rfl; exact rfl; exact rfl; exact rfl)
    | (apply g_call (CellErr_s x c v); exact rfl; (first | exact rfl | assumption); exact rfl; exact rfl; exact rfl; exact rfl)
    | (apply s_idxN TY; exact rfl; exact rfl; exact rfl; exact rfl; assumption; assumption)
    | (apply s_idxN_ow TY; exact rfl; exact rfl; exact rfl; exact rfl; exact rfl; assumption)
    | (apply s_idx TY; exact rfl; exact rfl; exact rfl; exact rfl; omega; omega; assumption)
    | (apply s_alloc TY; exact rfl; exact rfl; exact rfl)
    | (apply s_store TY; exact rfl; exact rfl; exact rfl; exact rfl; exact rfl; exact rfl)
    | (apply w_condT; exact rfl; (first | exact rfl | assumption))
    | (apply w_condF; exact rfl; (first | exact rfl | assumption)))
  apply w_gh (gh_ownB 0 0 33 3 rfl rfl rfl)
  apply w_gh (gh_ownB 0 2 3 1 rfl rfl rfl)
  apply w_loop (fun k : Nat => ⟨(Ab.upd (Ab.upd (Ab.upd (Ab.upd (Ab.upd (fun _ => .bot) 2 (.f (.pt (gridL x) 0))) 3 (.f (.pt (celF c) 0))) 4 (.f (bv false))) 5 (.bx 0 0)) 6 (.f (iv ((x.layers.length : Int) - 1 - (k : Int))))), (Ab.upd (Ab.upd (Ab.upd (fun _ => none) 0 (some (.box [.ow 1, .f (iv x.rows), .ow 2]))) 1 (some (.row 33 3 k (laysF (x.layers.reverse.take k))))) 2 (some (.row 3 1 0 []))), 3⟩) (fun k => k ≤ x.layers.length) (fun k => x.layers.length - k) 0 (Nat.zero_le _) (gh_le ⟨le_upd (avi (by omega)) trivial (le_upd rfl rfl (le_upd rfl trivial (le_upd rfl trivial (le_upd rfl trivial (le_nil _))))), le_hupd rfl trivial (le_hupd rfl trivial (le_hupd rfl (fun y hy => by simp at hy; rcases hy with rfl | rfl | rfl <;> first | trivial | rfl) (le_h0 _ _)))⟩)
  intro k hk
  by_cases hkc : k < x.layers.length
  · have hcc : decide ((0 : Int) ≤ ((x.layers.length : Int) - 1 - (k : Int))) = true := decide_eq_true (by omega)
    have hz : ((x.layers.length : Int) - 1 - (k : Int)).toNat = x.layers.length - 1 - k := by omega
    have hne : laysF x.layers ≠ [] := flat_ne (f := layF) (s := 3) (fun _ => rfl) (by decide) hkc
    have hsub : ((laysF x.layers).drop (((x.layers.length : Int) - 1 - (k : Int)).toNat * 3)).take 3 = layF (x.layers[x.layers.length - 1 - k]'(by omega)) := by rw [hz]; exact flat_sub (f := layF) (fun _ => rfl) (by omega)
    repeat (first
    | (apply s_move_f; exact rfl; exact rfl)
    | (apply s_assign_f; exact rfl; exact rfl)
    | (apply s_fld_pt TY; exact rfl; exact rfl; exact rfl)
    | (apply s_load_pt TY; exact rfl; exact rfl; exact rfl; (first | exact rfl | assumption))
    | (apply s_load_pts TY; exact rfl; exact rfl; exact rfl; (first | assumption | exact rfl); exact rfl)
    | (apply s_len TY; exact rfl; exact rfl; exact rfl)
    | (apply s_extract; exact rfl; exact rfl; exact rfl)
    | (apply s_box; exact rfl; exact rfl; exact rfl)
    | (apply s_not; exact rfl; exact rfl)
    | (apply s_lss; exact rfl; exact rfl; exact rfl)
    | (apply s_geq; exact rfl; exact rfl; exact rfl)
    | (apply s_neq; exact rfl; exact rfl; exact rfl)
    | (apply s_move_o; exact rfl; exact rfl)
    | (apply s_move_x; exact rfl; exact rfl)
    | (apply s_assign_x; exact rfl; exact rfl)
    | (apply s_assign_o; exact rfl; exact rfl)
    | (apply s_fld_bx TY; exact rfl; exact rfl; exact rfl)
    | (apply s_load_bx_f TY; exact rfl; exact rfl; exact rfl; exact rfl; exact rfl)
    | (apply s_load_bx_x TY; exact rfl; exact rfl; exact rfl; exact rfl; exact rfl)
    | (apply s_load_bx_o TY; exact rfl; exact rfl; exact rfl; exact rfl; exact rfl)
    | (apply s_load_bxs TY; exact rfl; exact rfl; exact rfl; exact rfl; exact rfl; exact rfl)
    | (apply s_load_row TY; exact rfl; exact rfl; exact rfl; exact rfl; (first | exact rfl | assumption))
    | (apply s_len_nil TY; exact rfl; exact rfl; exact rfl)
    | (apply s_len_ow TY; exact rfl; exact rfl; exact rfl; exact rfl)
    | (apply s_len_str TY; exact rfl; exact rfl; exact rfl)
    | (apply s_makefn; exact rfl; exact rfl)
    | (apply s_build TY; exact rfl; exact rfl; exact rfl; exact rfl; exact rfl)
    | (apply s_bslice TY; exact rfl; exact rfl; exact rfl; exact rfl; exact rfl; exact rfl)
    | (apply s_pickT; exact rfl; exact rfl; (first | exact rfl | assumption); exact rfl)
    | (apply s_pickF; exact rfl; exact rfl; (first | exact rfl | assumption); exact rfl)
    | apply w_seq
    | apply w_region
    | apply s_nil
    | apply t_norm
    | apply t_exit
    | apply t_ret
    | apply k_hit
    | (apply k_miss; exact rfl)
    | apply k_norm
    | apply k_ret
    | apply w_block
    | apply w_exit
    | apply w_ret
    | apply w_skip
    | (apply s_add; exact rfl; exact rfl; exact rfl; (omega))
    | (apply s_sub; exact rfl; exact rfl; exact rfl; (omega))
    | (apply g_skip; exact rfl; (first | exact rfl | assumption); exact rfl)
    | (apply g_move_f; exact rfl; (first | exact rfl | assumption); exact rfl; exact rfl)
    | (apply g_assign_f; exact rfl; (first | exact rfl | assumption); exact rfl; exact rfl)
    | (apply g_load_pt TY; exact rfl; (first | exact rfl | assumption); exact rfl; exact rfl; exact rfl; (first | exact rfl | assumption))
    | (apply g_load_pts TY; exact rfl; (first | exact rfl | assumption); exact rfl; exact rfl; exact rfl; (first | assumption | exact rfl); exact rfl)
    | (apply g_not; exact rfl; (first | exact rfl | assumption); exact rfl; exact rfl)
    | (apply g_neq; exact rfl; (first | exact rfl | assumption); exact rfl; exact rfl; exact rfl)
    | (apply g_move_o; exact rfl; (first | exact rfl | assumption); exact rfl; exact rfl)
    | (apply g_move_x; exact rfl; (first | exact rfl | assumption); exact rfl; exact rfl)
    | (apply g_assign_x; exact rfl; (first | exact rfl | assumption); exact rfl; exact rfl)
    | (apply g_assign_o; exact rfl; (first | exact rfl | assumption); exact rfl; exact rfl)
    | (apply g_load_bx_f TY; exact rfl; (first | exact rfl | assumption); exact rfl; exact rfl; exact rfl; exact rfl; exact rfl)
    | (apply g_load_bx_x TY; exact rfl; (first | exact rfl | assumption); exact rfl; exact rfl; exact rfl; exact rfl; exact rfl)
    | (apply g_load_bx_o TY; exact rfl; (first | exact rfl | assumption); exact rfl; exact rfl; exact rfl; exact rfl; exact rfl)
    | (apply g_load_bxs TY; exact rfl; (first | exact rfl | assumption); exact rfl; exact rfl; exact rfl; exact rfl; exact rfl; exact rfl)
    | (apply g_load_row TY; exact rfl; (first | exact rfl | assumption); exact rfl; exact rfl; exact rfl; exact rfl; (first | exact rfl | assumption))
    | (apply s_idxN TY; exact rfl; exact rfl; exact rfl; exact rfl; assumption; assumption)
    | (apply s_idxN_ow TY; exact rfl; exact rfl; exact rfl; exact rfl; exact rfl; assumption)
    | (apply s_idx TY; exact rfl; exact rfl; exact rfl; exact rfl; omega; omega; assumption)
    | (apply s_alloc TY; exact rfl; exact rfl; exact rfl)
    | (apply s_store TY; exact rfl; exact rfl; exact rfl; exact rfl; exact rfl; exact rfl)
    | (apply w_condT; exact rfl; (first | exact rfl | assumption))
    | (apply w_condF; exact rfl; (first | exact rfl | assumption)))
    apply w_draw 8 rfl (by kernel_rfl)
    repeat (first
    | (apply s_append TY; exact rfl; exact rfl; exact rfl; exact rfl; exact rfl; exact rfl; exact rfl; exact rfl; exact rfl; (unfold maxLen; omega); omega)
    | (apply s_move_f; exact rfl; exact rfl)
    | (apply s_assign_f; exact rfl; exact rfl)
    | (apply s_fld_pt TY; exact rfl; exact rfl; exact rfl)
    | (apply s_load_pt TY; exact rfl; exact rfl; exact rfl; (first | exact rfl | assumption))
    | (apply s_load_pts TY; exact rfl; exact rfl; exact rfl; (first | assumption | exact rfl); exact rfl)
    | (apply s_len TY; exact rfl; exact rfl; exact rfl)
    | (apply s_extract; exact rfl; exact rfl; exact rfl)
    | (apply s_box; exact rfl; exact rfl; exact rfl)
    | (apply s_not; exact rfl; exact rfl)
    | (apply s_lss; exact rfl; exact rfl; exact rfl)
    | (apply s_geq; exact rfl; exact rfl; exact rfl)
    | (apply s_neq; exact rfl; exact rfl; exact rfl)
    | (apply s_move_o; exact rfl; exact rfl)
    | (apply s_move_x; exact rfl; exact rfl)
    | (apply s_assign_x; exact rfl; exact rfl)
    | (apply s_assign_o; exact rfl; exact rfl)
    | (apply s_fld_bx TY; exact rfl; exact rfl; exact rfl)
    | (apply s_load_bx_f TY; exact rfl; exact rfl; exact rfl; exact rfl; exact rfl)
    | (apply s_load_bx_x TY; exact rfl; exact rfl; exact rfl; exact rfl; exact rfl)
    | (apply s_load_bx_o TY; exact rfl; exact rfl; exact rfl; exact rfl; exact rfl)
    | (apply s_load_bxs TY; exact rfl; exact rfl; exact rfl; exact rfl; exact rfl; exact rfl)
    | (apply s_load_row TY; exact rfl; exact rfl; exact rfl; exact rfl; (first | exact rfl | assumption))
    | (apply s_len_nil TY; exact rfl; exact rfl; exact rfl)
    | (apply s_len_ow TY; exact rfl; exact rfl; exact rfl; exact rfl)
    | (apply s_len_str TY; exact rfl; exact rfl; exact rfl)
    | (apply s_makefn; exact rfl; exact rfl)
    | (apply s_build TY; exact rfl; exact rfl; exact rfl; exact rfl; exact rfl)
    | (apply s_bslice TY; exact rfl; exact rfl; exact rfl; exact rfl; exact rfl; exact rfl)
    | (apply s_pickT; exact rfl; exact rfl; (first | exact rfl | assumption); exact rfl)
    | (apply s_pickF; exact rfl; exact rfl; (first | exact rfl | assumption); exact rfl)
    | apply w_seq
    | apply w_region
    | apply s_nil
    | apply t_norm
    | apply t_exit
    | apply t_ret
    | apply k_hit
    | (apply k_miss; exact rfl)
    | apply k_norm
    | apply k_ret
    | apply w_block
    | apply w_exit
    | apply w_ret
    | apply w_skip
    | (apply s_add; exact rfl; exact rfl; exact rfl; (omega))
    | (apply s_sub; exact rfl; exact rfl; exact rfl; (omega))
    | (apply g_skip; exact rfl; (first | exact rfl | assumption); exact rfl)
    | (apply g_move_f; exact rfl; (first | exact rfl | assumption); exact rfl; exact rfl)
    | (apply g_assign_f; exact rfl; (first | exact rfl | assumption); exact rfl; exact rfl)
    | (apply g_load_pt TY; exact rfl; (first | exact rfl | assumption); exact rfl; exact rfl; exact rfl; (first | exact rfl | assumption))
    | (apply g_load_pts TY; exact rfl; (first | exact rfl | assumption); exact rfl; exact rfl; exact rfl; (first | assumption | exact rfl); exact rfl)
    | (apply g_not; exact rfl; (first | exact rfl | assumption); exact rfl; exact rfl)
    | (apply g_neq; exact rfl; (first | exact rfl | assumption); exact rfl; exact rfl; exact rfl)
    | (apply g_move_o; exact rfl; (first | exact rfl | assumption); exact rfl; exact rfl)
    | (apply g_move_x; exact rfl; (first | exact rfl | assumption); exact rfl; exact rfl)
    | (apply g_assign_x; exact rfl; (first | exact rfl | assumption); exact rfl; exact rfl)
    | (apply g_assign_o; exact rfl; (first | exact rfl | assumption); exact rfl; exact rfl)
    | (apply g_load_bx_f TY; exact rfl; (first | exact rfl | assumption); exact rfl; exact rfl; exact rfl; exact rfl; exact rfl)
    | (apply g_load_bx_x TY; exact rfl; (first | exact rfl | assumption); exact rfl; exact rfl; exact rfl; exact rfl; exact rfl)
    | (apply g_load_bx_o TY; exact rfl; (first | exact rfl | assumption); exact rfl; exact rfl; exact rfl; exact rfl; exact rfl)
    | (apply g_load_bxs TY; exact rfl; (first | exact rfl | assumption); exact rfl; exact rfl; exact rfl; exact rfl; exact rfl; exact rfl)
    | (apply g_load_row TY; exact rfl; (first | exact rfl | assumption); exact rfl; exact rfl; exact rfl; exact rfl; (first | exact rfl | assumption))
    | (apply s_idxN TY; exact rfl; exact rfl; exact rfl; exact rfl; assumption; assumption)
    | (apply s_idxN_ow TY; exact rfl; exact rfl; exact rfl; exact rfl; exact rfl; assumption)
    | (apply s_idx TY; exact rfl; exact rfl; exact rfl; exact rfl; omega; omega; assumption)
    | (apply s_alloc TY; exact rfl; exact rfl; exact rfl)
    | (apply s_store TY; exact rfl; exact rfl; exact rfl; exact rfl; exact rfl; exact rfl)
    | (apply w_condT; exact rfl; (first | exact rfl | assumption))
    | (apply w_condF; exact rfl; (first | exact rfl | assumption)))
    exact ⟨k + 1, by omega, by omega, gh_le ⟨le_upd (avi (by omega)) trivial (le_upd rfl rfl (le_upd rfl trivial (le_upd rfl trivial (le_upd rfl trivial (le_nil _))))), le_hupd rfl trivial (le_hupd (by rw [laysF_rev hkc]; rfl) trivial (le_hupd rfl (fun y hy => by simp at hy; rcases hy with rfl | rfl | rfl <;> first | trivial | rfl) (le_h0 _ _)))⟩⟩
  have hcc : decide ((0 : Int) ≤ ((x.layers.length : Int) - 1 - (k : Int))) = false := decide_eq_false (by omega)
  have hke : k = x.layers.length := by omega
  subst hke
  repeat (first
    | (apply s_move_f; exact rfl; exact rfl)
    | (apply s_assign_f; exact rfl; exact rfl)
    | (apply s_fld_pt TY; exact rfl; exact rfl; exact rfl)
    | (apply s_load_pt TY; exact rfl; exact rfl; exact rfl; (first | exact rfl | assumption))
    | (apply s_load_pts TY; exact rfl; exact rfl; exact rfl; (first | assumption | exact rfl); exact rfl)
    | (apply s_len TY; exact rfl; exact rfl; exact rfl)
    | (apply s_extract; exact rfl; exact rfl; exact rfl)
    | (apply s_box; exact rfl; exact rfl; exact rfl)
    | (apply s_not; exact rfl; exact rfl)
    | (apply s_lss; exact rfl; exact rfl; exact rfl)
    | (apply s_geq; exact rfl; exact rfl; exact rfl)
    | (apply s_neq; exact rfl; exact rfl; exact rfl)
    | (apply s_move_o; exact rfl; exact rfl)
    | (apply s_move_x; exact rfl; exact rfl)
    | (apply s_assign_x; exact rfl; exact rfl)
    | (apply s_assign_o; exact rfl; exact rfl)
    | (apply s_fld_bx TY; exact rfl; exact rfl; exact rfl)
    | (apply s_load_bx_f TY; exact rfl; exact rfl; exact rfl; exact rfl; exact rfl)
    | (apply s_load_bx_x TY; exact rfl; exact rfl; exact rfl; exact rfl; exact rfl)
    | (apply s_load_bx_o TY; exact rfl; exact rfl; exact rfl; exact rfl; exact rfl)
    | (apply s_load_bxs TY; exact rfl; exact rfl; exact rfl; exact rfl; exact rfl; exact rfl)
    | (apply s_load_row TY; exact rfl; exact rfl; exact rfl; exact rfl; (first | exact rfl | assumption))
    | (apply s_len_nil TY; exact rfl; exact rfl; exact rfl)
    | (apply s_len_ow TY; exact rfl; exact rfl; exact rfl; exact rfl)
    | (apply s_len_str TY; exact rfl; exact rfl; exact rfl)
    | (apply s_makefn; exact rfl; exact rfl)
    | (apply s_build TY; exact rfl; exact rfl; exact rfl; exact rfl; exact rfl)
    | (apply s_bslice TY; exact rfl; exact rfl; exact rfl; exact rfl; exact rfl; exact rfl)
    | (apply s_pickT; exact rfl; exact rfl; (first | exact rfl | assumption); exact rfl)
    | (apply s_pickF; exact rfl; exact rfl; (first | exact rfl | assumption); exact rfl)
    | apply w_seq
    | apply w_region
    | apply s_nil
    | apply t_norm
    | apply t_exit
    | apply t_ret
    | apply k_hit
    | (apply k_miss; exact rfl)
    | apply k_norm
    | apply k_ret
    | apply w_block
    | apply w_exit
    | apply w_ret
    | apply w_skip
    | (apply s_add; exact rfl; exact rfl; exact rfl; (omega))
    | (apply s_sub; exact rfl; exact rfl; exact rfl; (omega))
    | (apply g_skip; exact rfl; (first | exact rfl | assumption); exact rfl)
    | (apply g_move_f; exact rfl; (first | exact rfl | assumption); exact rfl; exact rfl)
    | (apply g_assign_f; exact rfl; (first | exact rfl | assumption); exact rfl; exact rfl)
    | (apply g_load_pt TY; exact rfl; (first | exact rfl | assumption); exact rfl; exact rfl; exact rfl; (first | exact rfl | assumption))
    | (apply g_load_pts TY; exact rfl; (first | exact rfl | assumption); exact rfl; exact rfl; exact rfl; (first | assumption | exact rfl); exact rfl)
    | (apply g_not; exact rfl; (first | exact rfl | assumption); exact rfl; exact rfl)
    | (apply g_neq; exact rfl; (first | exact rfl | assumption); exact rfl; exact rfl; exact rfl)
    | (apply g_move_o; exact rfl; (first | exact rfl | assumption); exact rfl; exact rfl)
    | (apply g_move_x; exact rfl; (first | exact rfl | assumption); exact rfl; exact rfl)
    | (apply g_assign_x; exact rfl; (first | exact rfl | assumption); exact rfl; exact rfl)
    | (apply g_assign_o; exact rfl; (first | exact rfl | assumption); exact rfl; exact rfl)
    | (apply g_load_bx_f TY; exact rfl; (first | exact rfl | assumption); exact rfl; exact rfl; exact rfl; exact rfl; exact rfl)
    | (apply g_load_bx_x TY; exact rfl; (first | exact rfl | assumption); exact rfl; exact rfl; exact rfl; exact rfl; exact rfl)
    | (apply g_load_bx_o TY; exact rfl; (first | exact rfl | assumption); exact rfl; exact rfl; exact rfl; exact rfl; exact rfl)
    | (apply g_load_bxs TY; exact rfl; (first | exact rfl | assumption); exact rfl; exact rfl; exact rfl; exact rfl; exact rfl; exact rfl)
    | (apply g_load_row TY; exact rfl; (first | exact rfl | assumption); exact rfl; exact rfl; exact rfl; exact rfl; (first | exact rfl | assumption))
    | (apply s_idxN TY; exact rfl; exact rfl; exact rfl; exact rfl; assumption; assumption)
    | (apply s_idxN_ow TY; exact rfl; exact rfl; exact rfl; exact rfl; exact rfl; assumption)
    | (apply s_idx TY; exact rfl; exact rfl; exact rfl; exact rfl; omega; omega; assumption)
    | (apply s_alloc TY; exact rfl; exact rfl; exact rfl)
    | (apply s_store TY; exact rfl; exact rfl; exact rfl; exact rfl; exact rfl; exact rfl)
    | (apply w_condT; exact rfl; (first | exact rfl | assumption))
    | (apply w_condF; exact rfl; (first | exact rfl | assumption)))
  clear hk hkc hcc
  apply w_loop (fun k : Nat => ⟨(Ab.upd (Ab.upd (Ab.upd (Ab.upd (Ab.upd (fun _ => .bot) 2 (.f (.pt (gridL x) 0))) 3 (.f (.pt (celF c) 0))) 4 (.f (bv false))) 5 (.bx 0 0)) 7 (.f (iv (k : Nat)))), (Ab.upd (Ab.upd (Ab.upd (fun _ => none) 0 (some (.box [.ow 1, .f (iv x.rows), .ow 2]))) 1 (some (.row 33 3 (mir x).layers.length (laysF (mir x).layers)))) 2 (some (.row 3 1 k (intsF ((mir x).tilt.take k))))), 3⟩) (fun k => k ≤ x.tilt.length) (fun k => x.tilt.length - k) 0 (Nat.zero_le _) (gh_le ⟨le_upd rfl trivial (le_upd rfl rfl (le_upd rfl trivial (le_upd rfl trivial (le_upd rfl trivial (le_nil _))))), le_hupd rfl trivial (le_hupd (congrArg some (mir_rowA x)) trivial (le_hupd rfl (fun y hy => by simp at hy; rcases hy with rfl | rfl | rfl <;> first | trivial | rfl) (le_h0 _ _)))⟩)
  intro k hk
  by_cases hkc : k < x.tilt.length
  · have hcc : decide ((k : Int) < (x.tilt.length : Int)) = true := by simpa using hkc
    have hne : intsF x.tilt ≠ [] := map_ne hkc
    have hat : (intsF x.tilt)[k * 1]? = some (iv x.tilt[k]) := map_at hkc
    have hb := v.til _ (List.getElem_mem hkc)
    have hkm : k < (mir x).tilt.length := by rw [mir_tl]; exact hkc
    repeat (first
    | (apply s_move_f; exact rfl; exact rfl)
    | (apply s_assign_f; exact rfl; exact rfl)
    | (apply s_fld_pt TY; exact rfl; exact rfl; exact rfl)
    | (apply s_load_pt TY; exact rfl; exact rfl; exact rfl; (first | exact rfl | assumption))
    | (apply s_load_pts TY; exact rfl; exact rfl; exact rfl; (first | assumption | exact rfl); exact rfl)
    | (apply s_len TY; exact rfl; exact rfl; exact rfl)
    | (apply s_extract; exact rfl; exact rfl; exact rfl)
    | (apply s_box; exact rfl; exact rfl; exact rfl)
    | (apply s_not; exact rfl; exact rfl)
    | (apply s_lss; exact rfl; exact rfl; exact rfl)
    | (apply s_geq; exact rfl; exact rfl; exact rfl)
    | (apply s_neq; exact rfl; exact rfl; exact rfl)
    | (apply s_move_o; exact rfl; exact rfl)
    | (apply s_move_x; exact rfl; exact rfl)
    | (apply s_assign_x; exact rfl; exact rfl)
    | (apply s_assign_o; exact rfl; exact rfl)
    | (apply s_fld_bx TY; exact rfl; exact rfl; exact rfl)
    | (apply s_load_bx_f TY; exact rfl; exact rfl; exact rfl; exact rfl; exact rfl)
    | (apply s_load_bx_x TY; exact rfl; exact rfl; exact rfl; exact rfl; exact rfl)
    | (apply s_load_bx_o TY; exact rfl; exact rfl; exact rfl; exact rfl; exact rfl)
    | (apply s_load_bxs TY; exact rfl; exact rfl; exact rfl; exact rfl; exact rfl; exact rfl)
    | (apply s_load_row TY; exact rfl; exact rfl; exact rfl; exact rfl; (first | exact rfl | assumption))
    | (apply s_len_nil TY; exact rfl; exact rfl; exact rfl)
    | (apply s_len_ow TY; exact rfl; exact rfl; exact rfl; exact rfl)
    | (apply s_len_str TY; exact rfl; exact rfl; exact rfl)
    | (apply s_makefn; exact rfl; exact rfl)
    | (apply s_build TY; exact rfl; exact rfl; exact rfl; exact rfl; exact rfl)
    | (apply s_bslice TY; exact rfl; exact rfl; exact rfl; exact rfl; exact rfl; exact rfl)
    | (apply s_pickT; exact rfl; exact rfl; (first | exact rfl | assumption); exact rfl)
    | (apply s_pickF; exact rfl; exact rfl; (first | exact rfl | assumption); exact rfl)
    | apply w_seq
    | apply w_region
    | apply s_nil
    | apply t_norm
    | apply t_exit
    | apply t_ret
    | apply k_hit
    | (apply k_miss; exact rfl)
    | apply k_norm
    | apply k_ret
    | apply w_block
    | apply w_exit
    | apply w_ret
    | apply w_skip
    | (apply s_add; exact rfl; exact rfl; exact rfl; (omega))
    | (apply s_sub; exact rfl; exact rfl; exact rfl; (omega))
    | (apply g_skip; exact rfl; (first | exact rfl | assumption); exact rfl)
    | (apply g_move_f; exact rfl; (first | exact rfl | assumption); exact rfl; exact rfl)
    | (apply g_assign_f; exact rfl; (first | exact rfl | assumption); exact rfl; exact rfl)
    | (apply g_load_pt TY; exact rfl; (first | exact rfl | assumption); exact rfl; exact rfl; exact rfl; (first | exact rfl | assumption))
    | (apply g_load_pts TY; exact rfl; (first | exact rfl | assumption); exact rfl; exact rfl; exact rfl; (first | assumption | exact rfl); exact rfl)
    | (apply g_not; exact rfl; (first | exact rfl | assumption); exact rfl; exact rfl)
    | (apply g_neq; exact rfl; (first | exact rfl | assumption); exact rfl; exact rfl; exact rfl)
    | (apply g_move_o; exact rfl; (first | exact rfl | assumption); exact rfl; exact rfl)
    | (apply g_move_x; exact rfl; (first | exact rfl | assumption); exact rfl; exact rfl)
    | (apply g_assign_x; exact rfl; (first | exact rfl | assumption); exact rfl; exact rfl)
    | (apply g_assign_o; exact rfl; (first | exact rfl | assumption); exact rfl; exact rfl)
    | (apply g_load_bx_f TY; exact rfl; (first | exact rfl | assumption); exact rfl; exact rfl; exact rfl; exact rfl; exact rfl)
    | (apply g_load_bx_x TY; exact rfl; (first | exact rfl | assumption); exact rfl; exact rfl; exact rfl; exact rfl; exact rfl)
    | (apply g_load_bx_o TY; exact rfl; (first | exact rfl | assumption); exact rfl; exact rfl; exact rfl; exact rfl; exact rfl)
    | (apply g_load_bxs TY; exact rfl; (first | exact rfl | assumption); exact rfl; exact rfl; exact rfl; exact rfl; exact rfl; exact rfl)
    | (apply g_load_row TY; exact rfl; (first | exact rfl | assumption); exact rfl; exact rfl; exact rfl; exact rfl; (first | exact rfl | assumption))
    | (apply s_idxN TY; exact rfl; exact rfl; exact rfl; exact rfl; assumption; assumption)
    | (apply s_idxN_ow TY; exact rfl; exact rfl; exact rfl; exact rfl; exact rfl; assumption)
    | (apply s_idx TY; exact rfl; exact rfl; exact rfl; exact rfl; omega; omega; assumption)
    | (apply s_alloc TY; exact rfl; exact rfl; exact rfl)
    | (apply s_store TY; exact rfl; exact rfl; exact rfl; exact rfl; exact rfl; exact rfl)
    | (apply w_condT; exact rfl; (first | exact rfl | assumption))
    | (apply w_condF; exact rfl; (first | exact rfl | assumption)))
    apply w_draw 15 rfl (by kernel_rfl)
    repeat (first
    | (apply s_append TY; exact rfl; exact rfl; exact rfl; exact rfl; exact rfl; exact rfl; exact rfl; exact rfl; exact rfl; (unfold maxLen; omega); omega)
    | (apply s_move_f; exact rfl; exact rfl)
    | (apply s_assign_f; exact rfl; exact rfl)
    | (apply s_fld_pt TY; exact rfl; exact rfl; exact rfl)
    | (apply s_load_pt TY; exact rfl; exact rfl; exact rfl; (first | exact rfl | assumption))
    | (apply s_load_pts TY; exact rfl; exact rfl; exact rfl; (first | assumption | exact rfl); exact rfl)
    | (apply s_len TY; exact rfl; exact rfl; exact rfl)
    | (apply s_extract; exact rfl; exact rfl; exact rfl)
    | (apply s_box; exact rfl; exact rfl; exact rfl)
    | (apply s_not; exact rfl; exact rfl)
    | (apply s_lss; exact rfl; exact rfl; exact rfl)
    | (apply s_geq; exact rfl; exact rfl; exact rfl)
    | (apply s_neq; exact rfl; exact rfl; exact rfl)
    | (apply s_move_o; exact rfl; exact rfl)
    | (apply s_move_x; exact rfl; exact rfl)
    | (apply s_assign_x; exact rfl; exact rfl)
    | (apply s_assign_o; exact rfl; exact rfl)
    | (apply s_fld_bx TY; exact rfl; exact rfl; exact rfl)
    | (apply s_load_bx_f TY; exact rfl; exact rfl; exact rfl; exact rfl; exact rfl)
    | (apply s_load_bx_x TY; exact rfl; exact rfl; exact rfl; exact rfl; exact rfl)
    | (apply s_load_bx_o TY; exact rfl; exact rfl; exact rfl; exact rfl; exact rfl)
    | (apply s_load_bxs TY; exact rfl; exact rfl; exact rfl; exact rfl; exact rfl; exact rfl)
    | (apply s_load_row TY; exact rfl; exact rfl; exact rfl; exact rfl; (first | exact rfl | assumption))
    | (apply s_len_nil TY; exact rfl; exact rfl; exact rfl)
    | (apply s_len_ow TY; exact rfl; exact rfl; exact rfl; exact rfl)
    | (apply s_len_str TY; exact rfl; exact rfl; exact rfl)
    | (apply s_makefn; exact rfl; exact rfl)
    | (apply s_build TY; exact rfl; exact rfl; exact rfl; exact rfl; exact rfl)
    | (apply s_bslice TY; exact rfl; exact rfl; exact rfl; exact rfl; exact rfl; exact rfl)
    | (apply s_pickT; exact rfl; exact rfl; (first | exact rfl | assumption); exact rfl)
    | (apply s_pickF; exact rfl; exact rfl; (first | exact rfl | assumption); exact rfl)
    | apply w_seq
    | apply w_region
    | apply s_nil
    | apply t_norm
    | apply t_exit
    | apply t_ret
    | apply k_hit
    | (apply k_miss; exact rfl)
    | apply k_norm
    | apply k_ret
    | apply w_block
    | apply w_exit
    | apply w_ret
    | apply w_skip
    | (apply s_add; exact rfl; exact rfl; exact rfl; (omega))
    | (apply s_sub; exact rfl; exact rfl; exact rfl; (omega))
    | (apply g_skip; exact rfl; (first | exact rfl | assumption); exact rfl)
    | (apply g_move_f; exact rfl; (first | exact rfl | assumption); exact rfl; exact rfl)
    | (apply g_assign_f; exact rfl; (first | exact rfl | assumption); exact rfl; exact rfl)
    | (apply g_load_pt TY; exact rfl; (first | exact rfl | assumption); exact rfl; exact rfl; exact rfl; (first | exact rfl | assumption))
    | (apply g_load_pts TY; exact rfl; (first | exact rfl | assumption); exact rfl; exact rfl; exact rfl; (first | assumption | exact rfl); exact rfl)
    | (apply g_not; exact rfl; (first | exact rfl | assumption); exact rfl; exact rfl)
    | (apply g_neq; exact rfl; (first | exact rfl | assumption); exact rfl; exact rfl; exact rfl)
    | (apply g_move_o; exact rfl; (first | exact rfl | assumption); exact rfl; exact rfl)
    | (apply g_move_x; exact rfl; (first | exact rfl | assumption); exact rfl; exact rfl)
    | (apply g_assign_x; exact rfl; (first | exact rfl | assumption); exact rfl; exact rfl)
    | (apply g_assign_o; exact rfl; (first | exact rfl | assumption); exact rfl; exact rfl)
    | (apply g_load_bx_f TY; exact rfl; (first | exact rfl | assumption); exact rfl; exact rfl; exact rfl; exact rfl; exact rfl)
    | (apply g_load_bx_x TY; exact rfl; (first | exact rfl | assumption); exact rfl; exact rfl; exact rfl; exact rfl; exact rfl)
    | (apply g_load_bx_o TY; exact rfl; (first | exact rfl | assumption); exact rfl; exact rfl; exact rfl; exact rfl; exact rfl)
    | (apply g_load_bxs TY; exact rfl; (first | exact rfl | assumption); exact rfl; exact rfl; exact rfl; exact rfl; exact rfl; exact rfl)
    | (apply g_load_row TY; exact rfl; (first | exact rfl | assumption); exact rfl; exact rfl; exact rfl; exact rfl; (first | exact rfl | assumption))
    | (apply s_idxN TY; exact rfl; exact rfl; exact rfl; exact rfl; assumption; assumption)
    | (apply s_idxN_ow TY; exact rfl; exact rfl; exact rfl; exact rfl; exact rfl; assumption)
    | (apply s_idx TY; exact rfl; exact rfl; exact rfl; exact rfl; omega; omega; assumption)
    | (apply s_alloc TY; exact rfl; exact rfl; exact rfl)
    | (apply s_store TY; exact rfl; exact rfl; exact rfl; exact rfl; exact rfl; exact rfl)
    | (apply w_condT; exact rfl; (first | exact rfl | assumption))
    | (apply w_condF; exact rfl; (first | exact rfl | assumption)))
    exact ⟨k + 1, by omega, by omega, gh_le ⟨le_upd rfl trivial (le_upd rfl rfl (le_upd rfl trivial (le_upd rfl trivial (le_upd rfl trivial (le_nil _))))), le_hupd (by rw [intsF_tk hkm, mir_tilt hkc]; rfl) trivial (le_hupd rfl trivial (le_hupd rfl (fun y hy => by simp at hy; rcases hy with rfl | rfl | rfl <;> first | trivial | rfl) (le_h0 _ _)))⟩⟩
  have hcc : decide ((k : Int) < (x.tilt.length : Int)) = false := by simpa using hkc
  have hke : k = x.tilt.length := by omega
  subst hke
  repeat (first
    | (apply s_move_f; exact rfl; exact rfl)
    | (apply s_assign_f; exact rfl; exact rfl)
    | (apply s_fld_pt TY; exact rfl; exact rfl; exact rfl)
    | (apply s_load_pt TY; exact rfl; exact rfl; exact rfl; (first | exact rfl | assumption))
    | (apply s_load_pts TY; exact rfl; exact rfl; exact rfl; (first | assumption | exact rfl); exact rfl)
    | (apply s_len TY; exact rfl; exact rfl; exact rfl)
    | (apply s_extract; exact rfl; exact rfl; exact rfl)
    | (apply s_box; exact rfl; exact rfl; exact rfl)
    | (apply s_not; exact rfl; exact rfl)
    | (apply s_lss; exact rfl; exact rfl; exact rfl)
    | (apply s_geq; exact rfl; exact rfl; exact rfl)
    | (apply s_neq; exact rfl; exact rfl; exact rfl)
    | (apply s_move_o; exact rfl; exact rfl)
    | (apply s_move_x; exact rfl; exact rfl)
    | (apply s_assign_x; exact rfl; exact rfl)
    | (apply s_assign_o; exact rfl; exact rfl)
    | (apply s_fld_bx TY; exact rfl; exact rfl; exact rfl)
    | (apply s_load_bx_f TY; exact rfl; exact rfl; exact rfl; exact rfl; exact rfl)
    | (apply s_load_bx_x TY; exact rfl; exact rfl; exact rfl; exact rfl; exact rfl)
    | (apply s_load_bx_o TY; exact rfl; exact rfl; exact rfl; exact rfl; exact rfl)
    | (apply s_load_bxs TY; exact rfl; exact rfl; exact rfl; exact rfl; exact rfl; exact rfl)
    | (apply s_load_row TY; exact rfl; exact rfl; exact rfl; exact rfl; (first | exact rfl | assumption))
    | (apply s_len_nil TY; exact rfl; exact rfl; exact rfl)
    | (apply s_len_ow TY; exact rfl; exact rfl; exact rfl; exact rfl)
    | (apply s_len_str TY; exact rfl; exact rfl; exact rfl)
    | (apply s_makefn; exact rfl; exact rfl)
    | (apply s_build TY; exact rfl; exact rfl; exact rfl; exact rfl; exact rfl)
    | (apply s_bslice TY; exact rfl; exact rfl; exact rfl; exact rfl; exact rfl; exact rfl)
    | (apply s_pickT; exact rfl; exact rfl; (first | exact rfl | assumption); exact rfl)
    | (apply s_pickF; exact rfl; exact rfl; (first | exact rfl | assumption); exact rfl)
    | apply w_seq
    | apply w_region
    | apply s_nil
    | apply t_norm
    | apply t_exit
    | apply t_ret
    | apply k_hit
    | (apply k_miss; exact rfl)
    | apply k_norm
    | apply k_ret
    | apply w_block
    | apply w_exit
    | apply w_ret
    | apply w_skip
    | (apply s_add; exact rfl; exact rfl; exact rfl; (omega))
    | (apply s_sub; exact rfl; exact rfl; exact rfl; (omega))
    | (apply g_skip; exact rfl; (first | exact rfl | assumption); exact rfl)
    | (apply g_move_f; exact rfl; (first | exact rfl | assumption); exact rfl; exact rfl)
    | (apply g_assign_f; exact rfl; (first | exact rfl | assumption); exact rfl; exact rfl)
    | (apply g_load_pt TY; exact rfl; (first | exact rfl | assumption); exact rfl; exact rfl; exact rfl; (first | exact rfl | assumption))
    | (apply g_load_pts TY; exact rfl; (first | exact rfl | assumption); exact rfl; exact rfl; exact rfl; (first | assumption | exact rfl); exact rfl)
    | (apply g_not; exact rfl; (first | exact rfl | assumption); exact rfl; exact rfl)
    | (apply g_neq; exact rfl; (first | exact rfl | assumption); exact rfl; exact rfl; exact rfl)
    | (apply g_move_o; exact rfl; (first | exact rfl | assumption); exact rfl; exact rfl)
    | (apply g_move_x; exact rfl; (first | exact rfl | assumption); exact rfl; exact rfl)
    | (apply g_assign_x; exact rfl; (first | exact rfl | assumption); exact rfl; exact rfl)
    | (apply g_assign_o; exact rfl; (first | exact rfl | assumption); exact rfl; exact rfl)
    | (apply g_load_bx_f TY; exact rfl; (first | exact rfl | assumption); exact rfl; exact rfl; exact rfl; exact rfl; exact rfl)
    | (apply g_load_bx_x TY; exact rfl; (first | exact rfl | assumption); exact rfl; exact rfl; exact rfl; exact rfl; exact rfl)
    | (apply g_load_bx_o TY; exact rfl; (first | exact rfl | assumption); exact rfl; exact rfl; exact rfl; exact rfl; exact rfl)
    | (apply g_load_bxs TY; exact rfl; (first | exact rfl | assumption); exact rfl; exact rfl; exact rfl; exact rfl; exact rfl; exact rfl)
    | (apply g_load_row TY; exact rfl; (first | exact rfl | assumption); exact rfl; exact rfl; exact rfl; exact rfl; (first | exact rfl | assumption))
    | (apply s_idxN TY; exact rfl; exact rfl; exact rfl; exact rfl; assumption; assumption)
    | (apply s_idxN_ow TY; exact rfl; exact rfl; exact rfl; exact rfl; exact rfl; assumption)
    | (apply s_idx TY; exact rfl; exact rfl; exact rfl; exact rfl; omega; omega; assumption)
    | (apply s_alloc TY; exact rfl; exact rfl; exact rfl)
    | (apply s_store TY; exact rfl; exact rfl; exact rfl; exact rfl; exact rfl; exact rfl)
    | (apply w_condT; exact rfl; (first | exact rfl | assumption))
    | (apply w_condF; exact rfl; (first | exact rfl | assumption)))
  clear hk hkc hcc
  refine s_ghost (st' := ⟨(Ab.upd (Ab.upd (Ab.upd (Ab.upd (fun _ => .bot) 2 (.f (.pt (gridL x) 0))) 3 (.f (.pt (celF c) 0))) 4 (.f (bv false))) 5 (.bx 0 0)), (Ab.upd (Ab.upd (Ab.upd (fun _ => none) 0 (some (.box [.ow 1, .f (iv x.rows), .ow 2]))) 1 (some (.row 33 3 (mir x).layers.length (laysF (mir x).layers)))) 2 (some (.row 3 1 (mir x).tilt.length (intsF (mir x).tilt)))), 3⟩) rfl (gh_le ⟨le_upd rfl rfl (le_upd rfl trivial (le_upd rfl trivial (le_upd rfl trivial (le_nil _)))), le_hupd (congrArg some (mir_rowB x)) trivial (le_hupd rfl trivial (le_hupd rfl (fun y hy => by simp at hy; rcases hy with rfl | rfl | rfl <;> first | trivial | rfl) (le_h0 _ _)))⟩) ?_
  apply s_ghost; exact rfl; exact gh_row 1 rfl
  apply s_ghost; exact rfl; exact gh_row 2 rfl
  by_cases h' : iceErrE (mir x) = 0
  case neg =>
    have g4 : (!decide (iceErrE (mir x) = 0)) = true := by simp [h']
    repeat (first
    | (apply s_move_f; exact rfl; exact rfl)
    | (apply s_assign_f; exact rfl; exact rfl)
    | (apply s_fld_pt TY; exact rfl; exact rfl; exact rfl)
    | (apply s_load_pt TY; exact rfl; exact rfl; exact rfl; (first | exact rfl | assumption))
    | (apply s_load_pts TY; exact rfl; exact rfl; exact rfl; (first | assumption | exact rfl); exact rfl)
    | (apply s_len TY; exact rfl; exact rfl; exact rfl)
    | (apply s_extract; exact rfl; exact rfl; exact rfl)
    | (apply s_box; exact rfl; exact rfl; exact rfl)
    | (apply s_not; exact rfl; exact rfl)
    | (apply s_lss; exact rfl; exact rfl; exact rfl)
    | (apply s_geq; exact rfl; exact rfl; exact rfl)
    | (apply s_neq; exact rfl; exact rfl; exact rfl)
    | (apply s_move_o; exact rfl; exact rfl)
    | (apply s_move_x; exact rfl; exact rfl)
    | (apply s_assign_x; exact rfl; exact rfl)
    | (apply s_assign_o; exact rfl; exact rfl)
    | (apply s_fld_bx TY; exact rfl; exact rfl; exact rfl)
    | (apply s_load_bx_f TY; exact rfl; exact rfl; exact rfl; exact rfl; exact rfl)
    | (apply s_load_bx_x TY; exact rfl; exact rfl; exact rfl; exact rfl; exact rfl)
    | (apply s_load_bx_o TY; exact rfl; exact rfl; exact rfl; exact rfl; exact rfl)
    | (apply s_load_bxs TY; exact rfl; exact rfl; exact rfl; exact rfl; exact rfl; exact rfl)
    | (apply s_load_row TY; exact rfl; exact rfl; exact rfl; exact rfl; (first | exact rfl | assumption))
    | (apply s_len_nil TY; exact rfl; exact rfl; exact rfl)
    | (apply s_len_ow TY; exact rfl; exact rfl; exact rfl; exact rfl)
    | (apply s_len_str TY; exact rfl; exact rfl; exact rfl)
    | (apply s_makefn; exact rfl; exact rfl)
    | (apply s_build TY; exact rfl; exact rfl; exact rfl; exact rfl; exact rfl)
    | (apply s_bslice TY; exact rfl; exact rfl; exact rfl; exact rfl; exact rfl; exact rfl)
    | (apply s_pickT; exact rfl; exact rfl; (first | exact rfl | assumption); exact rfl)
    | (apply s_pickF; exact rfl; exact rfl; (first | exact rfl | assumption); exact rfl)
    | apply w_seq
    | apply w_region
    | apply s_nil
    | apply t_norm
    | apply t_exit
    | apply t_ret
    | apply k_hit
    | (apply k_miss; exact rfl)
    | apply k_norm
    | apply k_ret
    | apply w_block
    | apply w_exit
    | apply w_ret
    | apply w_skip
    | (apply s_call (IceErr_s (mir x)); exact rfl; exact rfl; exact rfl; exact rfl)
    | (apply s_add; exact rfl; exact rfl; exact rfl; (omega))
    | (apply s_sub; exact rfl; exact rfl; exact rfl; (omega))
    | (apply g_skip; exact rfl; (first | exact rfl | assumption); exact rfl)
    | (apply g_move_f; exact rfl; (first | exact rfl | assumption); exact rfl; exact rfl)
    | (apply g_assign_f; exact rfl; (first | exact rfl | assumption); exact rfl; exact rfl)
    | (apply g_load_pt TY; exact rfl; (first | exact rfl | assumption); exact rfl; exact rfl; exact rfl; (first | exact rfl | assumption))
    | (apply g_load_pts TY; exact rfl; (first | exact rfl | assumption); exact rfl; exact rfl; exact rfl; (first | assumption | exact rfl); exact rfl)
    | (apply g_not; exact rfl; (first | exact rfl | assumption); exact rfl; exact rfl)
    | (apply g_neq; exact rfl; (first | exact rfl | assumption); exact rfl; exact rfl; exact rfl)
    | (apply g_move_o; exact rfl; (first | exact rfl | assumption); exact rfl; exact rfl)
    | (apply g_move_x; exact rfl; (first | exact rfl | assumption); exact rfl; exact rfl)
    | (apply g_assign_x; exact rfl; (first | exact rfl | assumption); exact rfl; exact rfl)
    | (apply g_assign_o; exact rfl; (first | exact rfl | assumption); exact rfl; exact rfl)
    | (apply g_load_bx_f TY; exact rfl; (first | exact rfl | assumption); exact rfl; exact rfl; exact rfl; exact rfl; exact rfl)
    | (apply g_load_bx_x TY; exact rfl; (first | exact rfl | assumption); exact rfl; exact rfl; exact rfl; exact rfl; exact rfl)
    | (apply g_load_bx_o TY; exact rfl; (first | exact rfl | assumption); exact rfl; exact rfl; exact rfl; exact rfl; exact rfl)
    | (apply g_load_bxs TY; exact rfl; (first | exact rfl | assumption); exact rfl; exact rfl; exact rfl; exact rfl; exact rfl; exact rfl)
    | (apply g_load_row TY; exact rfl; (first | exact rfl | assumption); exact rfl; exact rfl; exact rfl; exact rfl; (first | exact rfl | assumption))
    | (apply g_call (IceErr_s (mir x)); exact rfl; (first | exact rfl | assumption); exact rfl; exact rfl; exact rfl; exact rfl)
    | (apply s_idxN TY; exact rfl; exact rfl; exact rfl; exact rfl; assumption; assumption)
    | (apply s_idxN_ow TY; exact rfl; exact rfl; exact rfl; exact rfl; exact rfl; assumption)
    | (apply s_idx TY; exact rfl; exact rfl; exact rfl; exact rfl; omega; omega; assumption)
    | (apply s_alloc TY; exact rfl; exact rfl; exact rfl)
    | (apply s_store TY; exact rfl; exact rfl; exact rfl; exact rfl; exact rfl; exact rfl)
    | (apply w_condT; exact rfl; (first | exact rfl | assumption))
    | (apply w_condF; exact rfl; (first | exact rfl | assumption)))
    exact lv_ret (ret1 rfl (res_tmp rfl))
  have g4 : (!decide (iceErrE (mir x) = 0)) = false := by simp [h']
  have v' : Valid (mir x) := (checkIce_zero _).1 h'
  have hi' : InG (mir x) (mc x c) := mc_in.2 hi
  have ml := mir_ll x
  have mt := mir_tl x
  have T1 : Summ Tryd.prog GG 19 [gridF x, .agg (celF c)] (.tup [.sl (timesM x c).length (matF (timesM x c)), iv 0]) := by
    have := TimesFrom_s x c ⟨by omega, by omega⟩
    have e : fromE x c = 0 := fromE_zero.2 ⟨v, hi⟩
    rw [timesR, e, if_neg (by decide)] at this
    exact this
  have T2 : Summ Tryd.prog GG 19 [gridF (mir x), .agg (celF (mc x c))] (.tup [.sl (timesM (mir x) (mc x c)).length (matF (timesM (mir x) (mc x c))), iv 0]) := by
    have := TimesFrom_s (mir x) (mc x c) ⟨by omega, by omega⟩
    have e : fromE (mir x) (mc x c) = 0 := fromE_zero.2 ⟨v', hi'⟩
    rw [timesR, e, if_neg (by decide)] at this
    exact this
  have tl := timesM_len x c
  have ul : (timesM (mir x) (mc x c)).length = x.rows.toNat := timesM_len (mir x) (mc x c)
  obtain ⟨⟨c0, c1⟩, d0, d1⟩ := hi
  repeat (first
    | (apply s_move_f; exact rfl; exact rfl)
    | (apply s_assign_f; exact rfl; exact rfl)
    | (apply s_fld_pt TY; exact rfl; exact rfl; exact rfl)
    | (apply s_load_pt TY; exact rfl; exact rfl; exact rfl; (first | exact rfl | assumption))
    | (apply s_load_pts TY; exact rfl; exact rfl; exact rfl; (first | assumption | exact rfl); exact rfl)
    | (apply s_len TY; exact rfl; exact rfl; exact rfl)
    | (apply s_extract; exact rfl; exact rfl; exact rfl)
    | (apply s_box; exact rfl; exact rfl; exact rfl)
    | (apply s_not; exact rfl; exact rfl)
    | (apply s_lss; exact rfl; exact rfl; exact rfl)
    | (apply s_geq; exact rfl; exact rfl; exact rfl)
    | (apply s_neq; exact rfl; exact rfl; exact rfl)
    | (apply s_move_o; exact rfl; exact rfl)
    | (apply s_move_x; exact rfl; exact rfl)
    | (apply s_assign_x; exact rfl; exact rfl)
    | (apply s_assign_o; exact rfl; exact rfl)
    | (apply s_fld_bx TY; exact rfl; exact rfl; exact rfl)
    | (apply s_load_bx_f TY; exact rfl; exact rfl; exact rfl; exact rfl; exact rfl)
    | (apply s_load_bx_x TY; exact rfl; exact rfl; exact rfl; exact rfl; exact rfl)
    | (apply s_load_bx_o TY; exact rfl; exact rfl; exact rfl; exact rfl; exact rfl)
    | (apply s_load_bxs TY; exact rfl; exact rfl; exact rfl; exact rfl; exact rfl; exact rfl)
    | (apply s_load_row TY; exact rfl; exact rfl; exact rfl; exact rfl; (first | exact rfl | assumption))
    | (apply s_len_nil TY; exact rfl; exact rfl; exact rfl)
    | (apply s_len_ow TY; exact rfl; exact rfl; exact rfl; exact rfl)
    | (apply s_len_str TY; exact rfl; exact rfl; exact rfl)
    | (apply s_makefn; exact rfl; exact rfl)
    | (apply s_build TY; exact rfl; exact rfl; exact rfl; exact rfl; exact rfl)
    | (apply s_bslice TY; exact rfl; exact rfl; exact rfl; exact rfl; exact rfl; exact rfl)
    | (apply s_pickT; exact rfl; exact rfl; (first | exact rfl | assumption); exact rfl)
    | (apply s_pickF; exact rfl; exact rfl; (first | exact rfl | assumption); exact rfl)
    | apply w_seq
    | apply w_region
    | apply s_nil
    | apply t_norm
    | apply t_exit
    | apply t_ret
    | apply k_hit
    | (apply k_miss; exact rfl)
    | apply k_norm
    | apply k_ret
    | apply w_block
    | apply w_exit
    | apply w_ret
    | apply w_skip
    | (apply s_call (IceErr_s (mir x)); exact rfl; exact rfl; exact rfl; exact rfl)
    | (apply s_add; exact rfl; exact rfl; exact rfl; (omega))
    | (apply s_sub; exact rfl; exact rfl; exact rfl; (omega))
    | (apply g_skip; exact rfl; (first | exact rfl | assumption); exact rfl)
    | (apply g_move_f; exact rfl; (first | exact rfl | assumption); exact rfl; exact rfl)
    | (apply g_assign_f; exact rfl; (first | exact rfl | assumption); exact rfl; exact rfl)
    | (apply g_load_pt TY; exact rfl; (first | exact rfl | assumption); exact rfl; exact rfl; exact rfl; (first | exact rfl | assumption))
    | (apply g_load_pts TY; exact rfl; (first | exact rfl | assumption); exact rfl; exact rfl; exact rfl; (first | assumption | exact rfl); exact rfl)
    | (apply g_not; exact rfl; (first | exact rfl | assumption); exact rfl; exact rfl)
    | (apply g_neq; exact rfl; (first | exact rfl | assumption); exact rfl; exact rfl; exact rfl)
    | (apply g_move_o; exact rfl; (first | exact rfl | assumption); exact rfl; exact rfl)
    | (apply g_move_x; exact rfl; (first | exact rfl | assumption); exact rfl; exact rfl)
    | (apply g_assign_x; exact rfl; (first | exact rfl | assumption); exact rfl; exact rfl)
    | (apply g_assign_o; exact rfl; (first | exact rfl | assumption); exact rfl; exact rfl)
    | (apply g_load_bx_f TY; exact rfl; (first | exact rfl | assumption); exact rfl; exact rfl; exact rfl; exact rfl; exact rfl)
    | (apply g_load_bx_x TY; exact rfl; (first | exact rfl | assumption); exact rfl; exact rfl; exact rfl; exact rfl; exact rfl)
    | (apply g_load_bx_o TY; exact rfl; (first | exact rfl | assumption); exact rfl; exact rfl; exact rfl; exact rfl; exact rfl)
    | (apply g_load_bxs TY; exact rfl; (first | exact rfl | assumption); exact rfl; exact rfl; exact rfl; exact rfl; exact rfl; exact rfl)
    | (apply g_load_row TY; exact rfl; (first | exact rfl | assumption); exact rfl; exact rfl; exact rfl; exact rfl; (first | exact rfl | assumption))
    | (apply g_call (IceErr_s (mir x)); exact rfl; (first | exact rfl | assumption); exact rfl; exact rfl; exact rfl; exact rfl)
    | (apply s_idxN TY; exact rfl; exact rfl; exact rfl; exact rfl; assumption; assumption)
    | (apply s_idxN_ow TY; exact rfl; exact rfl; exact rfl; exact rfl; exact rfl; assumption)
    | (apply s_idx TY; exact rfl; exact rfl; exact rfl; exact rfl; omega; omega; assumption)
    | (apply s_alloc TY; exact rfl; exact rfl; exact rfl)
    | (apply s_store TY; exact rfl; exact rfl; exact rfl; exact rfl; exact rfl; exact rfl)
    | (apply w_condT; exact rfl; (first | exact rfl | assumption))
    | (apply w_condF; exact rfl; (first | exact rfl | assumption)))
  apply w_draw 8 rfl (by kernel_rfl)
  repeat (first
    | (apply s_move_f; exact rfl; exact rfl)
    | (apply s_assign_f; exact rfl; exact rfl)
    | (apply s_fld_pt TY; exact rfl; exact rfl; exact rfl)
    | (apply s_load_pt TY; exact rfl; exact rfl; exact rfl; (first | exact rfl | assumption))
    | (apply s_load_pts TY; exact rfl; exact rfl; exact rfl; (first | assumption | exact rfl); exact rfl)
    | (apply s_len TY; exact rfl; exact rfl; exact rfl)
    | (apply s_extract; exact rfl; exact rfl; exact rfl)
    | (apply s_box; exact rfl; exact rfl; exact rfl)
    | (apply s_not; exact rfl; exact rfl)
    | (apply s_lss; exact rfl; exact rfl; exact rfl)
    | (apply s_geq; exact rfl; exact rfl; exact rfl)
    | (apply s_neq; exact rfl; exact rfl; exact rfl)
    | (apply s_move_o; exact rfl; exact rfl)
    | (apply s_move_x; exact rfl; exact rfl)
    | (apply s_assign_x; exact rfl; exact rfl)
    | (apply s_assign_o; exact rfl; exact rfl)
    | (apply s_fld_bx TY; exact rfl; exact rfl; exact rfl)
    | (apply s_load_bx_f TY; exact rfl; exact rfl; exact rfl; exact rfl; exact rfl)
    | (apply s_load_bx_x TY; exact rfl; exact rfl; exact rfl; exact rfl; exact rfl)
    | (apply s_load_bx_o TY; exact rfl; exact rfl; exact rfl; exact rfl; exact rfl)
    | (apply s_load_bxs TY; exact rfl; exact rfl; exact rfl; exact rfl; exact rfl; exact rfl)
    | (apply s_load_row TY; exact rfl; exact rfl; exact rfl; exact rfl; (first | exact rfl | assumption))
    | (apply s_len_nil TY; exact rfl; exact rfl; exact rfl)
    | (apply s_len_ow TY; exact rfl; exact rfl; exact rfl; exact rfl)
    | (apply s_len_str TY; exact rfl; exact rfl; exact rfl)
    | (apply s_makefn; exact rfl; exact rfl)
    | (apply s_build TY; exact rfl; exact rfl; exact rfl; exact rfl; exact rfl)
    | (apply s_bslice TY; exact rfl; exact rfl; exact rfl; exact rfl; exact rfl; exact rfl)
    | (apply s_pickT; exact rfl; exact rfl; (first | exact rfl | assumption); exact rfl)
    | (apply s_pickF; exact rfl; exact rfl; (first | exact rfl | assumption); exact rfl)
    | apply w_seq
    | apply w_region
    | apply s_nil
    | apply t_norm
    | apply t_exit
    | apply t_ret
    | apply k_hit
    | (apply k_miss; exact rfl)
    | apply k_norm
    | apply k_ret
    | apply w_block
    | apply w_exit
    | apply w_ret
    | apply w_skip
    | (apply s_call (T1); exact rfl; exact rfl; exact rfl; exact rfl)
    | (apply s_call (CopyIce_s x (by omega) (by omega)); exact rfl; exact rfl; exact rfl; exact rfl)
    | (apply s_add; exact rfl; exact rfl; exact rfl; (omega))
    | (apply s_sub; exact rfl; exact rfl; exact rfl; (omega))
    | (apply g_skip; exact rfl; (first | exact rfl | assumption); exact rfl)
    | (apply g_move_f; exact rfl; (first | exact rfl | assumption); exact rfl; exact rfl)
    | (apply g_assign_f; exact rfl; (first | exact rfl | assumption); exact rfl; exact rfl)
    | (apply g_load_pt TY; exact rfl; (first | exact rfl | assumption); exact rfl; exact rfl; exact rfl; (first | exact rfl | assumption))
    | (apply g_load_pts TY; exact rfl; (first | exact rfl | assumption); exact rfl; exact rfl; exact rfl; (first | assumption | exact rfl); exact rfl)
    | (apply g_not; exact rfl; (first | exact rfl | assumption); exact rfl; exact rfl)
    | (apply g_neq; exact rfl; (first | exact rfl | assumption); exact rfl; exact rfl; exact rfl)
    | (apply g_move_o; exact rfl; (first | exact rfl | assumption); exact rfl; exact rfl)
    | (apply g_move_x; exact rfl; (first | exact rfl | assumption); exact rfl; exact rfl)
    | (apply g_assign_x; exact rfl; (first | exact rfl | assumption); exact rfl; exact rfl)
    | (apply g_assign_o; exact rfl; (first | exact rfl | assumption); exact rfl; exact rfl)
    | (apply g_load_bx_f TY; exact rfl; (first | exact rfl | assumption); exact rfl; exact rfl; exact rfl; exact rfl; exact rfl)
    | (apply g_load_bx_x TY; exact rfl; (first | exact rfl | assumption); exact rfl; exact rfl; exact rfl; exact rfl; exact rfl)
    | (apply g_load_bx_o TY; exact rfl; (first | exact rfl | assumption); exact rfl; exact rfl; exact rfl; exact rfl; exact rfl)
    | (apply g_load_bxs TY; exact rfl; (first | exact rfl | assumption); exact rfl; exact rfl; exact rfl; exact rfl; exact rfl; exact rfl)
    | (apply g_load_row TY; exact rfl; (first | exact rfl | assumption); exact rfl; exact rfl; exact rfl; exact rfl; (first | exact rfl | assumption))
    | (apply g_call (T1); exact rfl; (first | exact rfl | assumption); exact rfl; exact rfl; exact rfl; exact rfl)
    | (apply g_call (CopyIce_s x (by omega) (by omega)); exact rfl; (first | exact rfl | assumption); exact rfl; exact rfl; exact rfl; exact rfl)
    | (apply s_idxN TY; exact rfl; exact rfl; exact rfl; exact rfl; assumption; assumption)
    | (apply s_idxN_ow TY; exact rfl; exact rfl; exact rfl; exact rfl; exact rfl; assumption)
    | (apply s_idx TY; exact rfl; exact rfl; exact rfl; exact rfl; omega; omega; assumption)
    | (apply s_alloc TY; exact rfl; exact rfl; exact rfl)
    | (apply s_store TY; exact rfl; exact rfl; exact rfl; exact rfl; exact rfl; exact rfl)
    | (apply w_condT; exact rfl; (first | exact rfl | assumption))
    | (apply w_condF; exact rfl; (first | exact rfl | assumption)))
  apply w_draw 16 rfl (by kernel_rfl)
  have Sx := isShaped_s x (timesM x c) (by omega) timesM_row r12
  have Su := isShaped_s (mir x) (timesM (mir x) (mc x c)) (by show _ = x.rows; omega) timesM_row r12
  repeat (first
    | (apply s_move_f; exact rfl; exact rfl)
    | (apply s_assign_f; exact rfl; exact rfl)
    | (apply s_fld_pt TY; exact rfl; exact rfl; exact rfl)
    | (apply s_load_pt TY; exact rfl; exact rfl; exact rfl; (first | exact rfl | assumption))
    | (apply s_load_pts TY; exact rfl; exact rfl; exact rfl; (first | assumption | exact rfl); exact rfl)
    | (apply s_len TY; exact rfl; exact rfl; exact rfl)
    | (apply s_extract; exact rfl; exact rfl; exact rfl)
    | (apply s_box; exact rfl; exact rfl; exact rfl)
    | (apply s_not; exact rfl; exact rfl)
    | (apply s_lss; exact rfl; exact rfl; exact rfl)
    | (apply s_geq; exact rfl; exact rfl; exact rfl)
    | (apply s_neq; exact rfl; exact rfl; exact rfl)
    | (apply s_move_o; exact rfl; exact rfl)
    | (apply s_move_x; exact rfl; exact rfl)
    | (apply s_assign_x; exact rfl; exact rfl)
    | (apply s_assign_o; exact rfl; exact rfl)
    | (apply s_fld_bx TY; exact rfl; exact rfl; exact rfl)
    | (apply s_load_bx_f TY; exact rfl; exact rfl; exact rfl; exact rfl; exact rfl)
    | (apply s_load_bx_x TY; exact rfl; exact rfl; exact rfl; exact rfl; exact rfl)
    | (apply s_load_bx_o TY; exact rfl; exact rfl; exact rfl; exact rfl; exact rfl)
    | (apply s_load_bxs TY; exact rfl; exact rfl; exact rfl; exact rfl; exact rfl; exact rfl)
    | (apply s_load_row TY; exact rfl; exact rfl; exact rfl; exact rfl; (first | exact rfl | assumption))
    | (apply s_len_nil TY; exact rfl; exact rfl; exact rfl)
    | (apply s_len_ow TY; exact rfl; exact rfl; exact rfl; exact rfl)
    | (apply s_len_str TY; exact rfl; exact rfl; exact rfl)
    | (apply s_makefn; exact rfl; exact rfl)
    | (apply s_build TY; exact rfl; exact rfl; exact rfl; exact rfl; exact rfl)
    | (apply s_bslice TY; exact rfl; exact rfl; exact rfl; exact rfl; exact rfl; exact rfl)
    | (apply s_pickT; exact rfl; exact rfl; (first | exact rfl | assumption); exact rfl)
    | (apply s_pickF; exact rfl; exact rfl; (first | exact rfl | assumption); exact rfl)
    | apply w_seq
    | apply w_region
    | apply s_nil
    | apply t_norm
    | apply t_exit
    | apply t_ret
    | apply k_hit
    | (apply k_miss; exact rfl)
    | apply k_norm
    | apply k_ret
    | apply w_block
    | apply w_exit
    | apply w_ret
    | apply w_skip
    | (apply s_call (T2); exact rfl; exact rfl; exact rfl; exact rfl)
    | (apply s_call (CopyIce_s (mir x) (by omega) (by omega)); exact rfl; exact rfl; exact rfl; exact rfl)
    | (apply s_call (Sx); exact rfl; exact rfl; exact rfl; exact rfl)
    | (apply s_call (Su); exact rfl; exact rfl; exact rfl; exact rfl)
    | (apply s_add; exact rfl; exact rfl; exact rfl; (omega))
    | (apply s_sub; exact rfl; exact rfl; exact rfl; (omega))
    | (apply g_skip; exact rfl; (first | exact rfl | assumption); exact rfl)
    | (apply g_move_f; exact rfl; (first | exact rfl | assumption); exact rfl; exact rfl)
    | (apply g_assign_f; exact rfl; (first | exact rfl | assumption); exact rfl; exact rfl)
    | (apply g_load_pt TY; exact rfl; (first | exact rfl | assumption); exact rfl; exact rfl; exact rfl; (first | exact rfl | assumption))
    | (apply g_load_pts TY; exact rfl; (first | exact rfl | assumption); exact rfl; exact rfl; exact rfl; (first | assumption | exact rfl); exact rfl)
    | (apply g_not; exact rfl; (first | exact rfl | assumption); exact rfl; exact rfl)
    | (apply g_neq; exact rfl; (first | exact rfl | assumption); exact rfl; exact rfl; exact rfl)
    | (apply g_move_o; exact rfl; (first | exact rfl | assumption); exact rfl; exact rfl)
    | (apply g_move_x; exact rfl; (first | exact rfl | assumption); exact rfl; exact rfl)
    | (apply g_assign_x; exact rfl; (first | exact rfl | assumption); exact rfl; exact rfl)
    | (apply g_assign_o; exact rfl; (first | exact rfl | assumption); exact rfl; exact rfl)
    | (apply g_load_bx_f TY; exact rfl; (first | exact rfl | assumption); exact rfl; exact rfl; exact rfl; exact rfl; exact rfl)
    | (apply g_load_bx_x TY; exact rfl; (first | exact rfl | assumption); exact rfl; exact rfl; exact rfl; exact rfl; exact rfl)
    | (apply g_load_bx_o TY; exact rfl; (first | exact rfl | assumption); exact rfl; exact rfl; exact rfl; exact rfl; exact rfl)
    | (apply g_load_bxs TY; exact rfl; (first | exact rfl | assumption); exact rfl; exact rfl; exact rfl; exact rfl; exact rfl; exact rfl)
    | (apply g_load_row TY; exact rfl; (first | exact rfl | assumption); exact rfl; exact rfl; exact rfl; exact rfl; (first | exact rfl | assumption))
    | (apply g_call (T2); exact rfl; (first | exact rfl | assumption); exact rfl; exact rfl; exact rfl; exact rfl)
    | (apply g_call (CopyIce_s (mir x) (by omega) (by omega)); exact rfl; (first | exact rfl | assumption); exact rfl; exact rfl; exact rfl; exact rfl)
    | (apply g_call (Sx); exact rfl; (first | exact rfl | assumption); exact rfl; exact rfl; exact rfl; exact rfl)
    | (apply g_call (Su); exact rfl; (first | exact rfl | assumption); exact rfl; exact rfl; exact rfl; exact rfl)
    | (apply s_idxN TY; exact rfl; exact rfl; exact rfl; exact rfl; assumption; assumption)
    | (apply s_idxN_ow TY; exact rfl; exact rfl; exact rfl; exact rfl; exact rfl; assumption)
    | (apply s_idx TY; exact rfl; exact rfl; exact rfl; exact rfl; omega; omega; assumption)
    | (apply s_alloc TY; exact rfl; exact rfl; exact rfl)
    | (apply s_store TY; exact rfl; exact rfl; exact rfl; exact rfl; exact rfl; exact rfl)
    | (apply w_condT; exact rfl; (first | exact rfl | assumption))
    | (apply w_condF; exact rfl; (first | exact rfl | assumption)))
  apply w_loop (fun k : Nat => ⟨(Ab.upd (Ab.upd (Ab.upd (Ab.upd (Ab.upd (fun _ => .bot) 2 (.f (.pt (gridL x) 0))) 4 (.f (bv false))) 8 (.f (.sl (timesM x c).length (matF (timesM x c))))) 10 (.f (.sl (timesM (mir x) (mc x c)).length (matF (timesM (mir x) (mc x c)))))) 12 (.f (iv (k : Nat)))), (fun _ => none), 0⟩) (fun k => k ≤ x.rows.toNat) (fun k => x.rows.toNat - k) 0 (Nat.zero_le _) (gh_le ⟨le_upd rfl trivial (le_upd rfl trivial (le_upd rfl trivial (le_upd rfl trivial (le_upd rfl trivial (le_nil _))))), le_h0 _ _⟩)
  intro k hk
  by_cases hkc : k < x.rows.toNat
  · have hcc : decide ((k : Int) < x.rows) = true := decide_eq_true (by omega)
    have hkT : k < (timesM x c).length := by omega
    have hjU : x.rows.toNat - 1 - k < (timesM (mir x) (mc x c)).length := by omega
    have hz : (x.rows - 1 - (k : Int)).toNat = x.rows.toNat - 1 - k := by omega
    have n1 : matF (timesM x c) ≠ [] := map_ne hkT
    have n2 : matF (timesM (mir x) (mc x c)) ≠ [] := map_ne hjU
    have a1 : (matF (timesM x c))[k * 1]? = some (rowF (timesM x c)[k]) := matF_at hkT
    have a2 : (matF (timesM (mir x) (mc x c)))[(x.rows - 1 - (k : Int)).toNat * 1]? = some (rowF ((timesM (mir x) (mc x c))[x.rows.toNat - 1 - k])) := by rw [hz]; exact matF_at hjU
    have heq := timesM_mir v v' c hkT hjU (by omega)
    have hl := timesM_row _ (List.getElem_mem hkT)
    have gd : (!decide ((timesM x c)[k] = (timesM (mir x) (mc x c))[x.rows.toNat - 1 - k])) = false := by simp [heq]
    have I1 := Ints_s (timesM x c)[k] (timesM (mir x) (mc x c))[x.rows.toNat - 1 - k] (by omega)
    repeat (first
    | (apply s_move_f; exact rfl; exact rfl)
    | (apply s_assign_f; exact rfl; exact rfl)
    | (apply s_fld_pt TY; exact rfl; exact rfl; exact rfl)
    | (apply s_load_pt TY; exact rfl; exact rfl; exact rfl; (first | exact rfl | assumption))
    | (apply s_load_pts TY; exact rfl; exact rfl; exact rfl; (first | assumption | exact rfl); exact rfl)
    | (apply s_len TY; exact rfl; exact rfl; exact rfl)
    | (apply s_extract; exact rfl; exact rfl; exact rfl)
    | (apply s_box; exact rfl; exact rfl; exact rfl)
    | (apply s_not; exact rfl; exact rfl)
    | (apply s_lss; exact rfl; exact rfl; exact rfl)
    | (apply s_geq; exact rfl; exact rfl; exact rfl)
    | (apply s_neq; exact rfl; exact rfl; exact rfl)
    | (apply s_move_o; exact rfl; exact rfl)
    | (apply s_move_x; exact rfl; exact rfl)
    | (apply s_assign_x; exact rfl; exact rfl)
    | (apply s_assign_o; exact rfl; exact rfl)
    | (apply s_fld_bx TY; exact rfl; exact rfl; exact rfl)
    | (apply s_load_bx_f TY; exact rfl; exact rfl; exact rfl; exact rfl; exact rfl)
    | (apply s_load_bx_x TY; exact rfl; exact rfl; exact rfl; exact rfl; exact rfl)
    | (apply s_load_bx_o TY; exact rfl; exact rfl; exact rfl; exact rfl; exact rfl)
    | (apply s_load_bxs TY; exact rfl; exact rfl; exact rfl; exact rfl; exact rfl; exact rfl)
    | (apply s_load_row TY; exact rfl; exact rfl; exact rfl; exact rfl; (first | exact rfl | assumption))
    | (apply s_len_nil TY; exact rfl; exact rfl; exact rfl)
    | (apply s_len_ow TY; exact rfl; exact rfl; exact rfl; exact rfl)
    | (apply s_len_str TY; exact rfl; exact rfl; exact rfl)
    | (apply s_makefn; exact rfl; exact rfl)
    | (apply s_build TY; exact rfl; exact rfl; exact rfl; exact rfl; exact rfl)
    | (apply s_bslice TY; exact rfl; exact rfl; exact rfl; exact rfl; exact rfl; exact rfl)
    | (apply s_pickT; exact rfl; exact rfl; (first | exact rfl | assumption); exact rfl)
    | (apply s_pickF; exact rfl; exact rfl; (first | exact rfl | assumption); exact rfl)
    | apply w_seq
    | apply w_region
    | apply s_nil
    | apply t_norm
    | apply t_exit
    | apply t_ret
    | apply k_hit
    | (apply k_miss; exact rfl)
    | apply k_norm
    | apply k_ret
    | apply w_block
    | apply w_exit
    | apply w_ret
    | apply w_skip
    | (apply s_add; exact rfl; exact rfl; exact rfl; (omega))
    | (apply s_sub; exact rfl; exact rfl; exact rfl; (omega))
    | (apply g_skip; exact rfl; (first | exact rfl | assumption); exact rfl)
    | (apply g_move_f; exact rfl; (first | exact rfl | assumption); exact rfl; exact rfl)
    | (apply g_assign_f; exact rfl; (first | exact rfl | assumption); exact rfl; exact rfl)
    | (apply g_load_pt TY; exact rfl; (first | exact rfl | assumption); exact rfl; exact rfl; exact rfl; (first | exact rfl | assumption))
    | (apply g_load_pts TY; exact rfl; (first | exact rfl | assumption); exact rfl; exact rfl; exact rfl; (first | assumption | exact rfl); exact rfl)
    | (apply g_not; exact rfl; (first | exact rfl | assumption); exact rfl; exact rfl)
    | (apply g_neq; exact rfl; (first | exact rfl | assumption); exact rfl; exact rfl; exact rfl)
    | (apply g_move_o; exact rfl; (first | exact rfl | assumption); exact rfl; exact rfl)
    | (apply g_move_x; exact rfl; (first | exact rfl | assumption); exact rfl; exact rfl)
    | (apply g_assign_x; exact rfl; (first | exact rfl | assumption); exact rfl; exact rfl)
    | (apply g_assign_o; exact rfl; (first | exact rfl | assumption); exact rfl; exact rfl)
    | (apply g_load_bx_f TY; exact rfl; (first | exact rfl | assumption); exact rfl; exact rfl; exact rfl; exact rfl; exact rfl)
    | (apply g_load_bx_x TY; exact rfl; (first | exact rfl | assumption); exact rfl; exact rfl; exact rfl; exact rfl; exact rfl)
    | (apply g_load_bx_o TY; exact rfl; (first | exact rfl | assumption); exact rfl; exact rfl; exact rfl; exact rfl; exact rfl)
    | (apply g_load_bxs TY; exact rfl; (first | exact rfl | assumption); exact rfl; exact rfl; exact rfl; exact rfl; exact rfl; exact rfl)
    | (apply g_load_row TY; exact rfl; (first | exact rfl | assumption); exact rfl; exact rfl; exact rfl; exact rfl; (first | exact rfl | assumption))
    | (apply s_idxN TY; exact rfl; exact rfl; exact rfl; exact rfl; assumption; assumption)
    | (apply s_idxN_ow TY; exact rfl; exact rfl; exact rfl; exact rfl; exact rfl; assumption)
    | (apply s_idx TY; exact rfl; exact rfl; exact rfl; exact rfl; omega; omega; assumption)
    | (apply s_alloc TY; exact rfl; exact rfl; exact rfl)
    | (apply s_store TY; exact rfl; exact rfl; exact rfl; exact rfl; exact rfl; exact rfl)
    | (apply w_condT; exact rfl; (first | exact rfl | assumption))
    | (apply w_condF; exact rfl; (first | exact rfl | assumption)))
    apply w_draw 13 rfl (by kernel_rfl)
    repeat (first
    | (apply s_move_f; exact rfl; exact rfl)
    | (apply s_assign_f; exact rfl; exact rfl)
    | (apply s_fld_pt TY; exact rfl; exact rfl; exact rfl)
    | (apply s_load_pt TY; exact rfl; exact rfl; exact rfl; (first | exact rfl | assumption))
    | (apply s_load_pts TY; exact rfl; exact rfl; exact rfl; (first | assumption | exact rfl); exact rfl)
    | (apply s_len TY; exact rfl; exact rfl; exact rfl)
    | (apply s_extract; exact rfl; exact rfl; exact rfl)
    | (apply s_box; exact rfl; exact rfl; exact rfl)
    | (apply s_not; exact rfl; exact rfl)
    | (apply s_lss; exact rfl; exact rfl; exact rfl)
    | (apply s_geq; exact rfl; exact rfl; exact rfl)
    | (apply s_neq; exact rfl; exact rfl; exact rfl)
    | (apply s_move_o; exact rfl; exact rfl)
    | (apply s_move_x; exact rfl; exact rfl)
    | (apply s_assign_x; exact rfl; exact rfl)
    | (apply s_assign_o; exact rfl; exact rfl)
    | (apply s_fld_bx TY; exact rfl; exact rfl; exact rfl)
    | (apply s_load_bx_f TY; exact rfl; exact rfl; exact rfl; exact rfl; exact rfl)
    | (apply s_load_bx_x TY; exact rfl; exact rfl; exact rfl; exact rfl; exact rfl)
    | (apply s_load_bx_o TY; exact rfl; exact rfl; exact rfl; exact rfl; exact rfl)
    | (apply s_load_bxs TY; exact rfl; exact rfl; exact rfl; exact rfl; exact rfl; exact rfl)
    | (apply s_load_row TY; exact rfl; exact rfl; exact rfl; exact rfl; (first | exact rfl | assumption))
    | (apply s_len_nil TY; exact rfl; exact rfl; exact rfl)
    | (apply s_len_ow TY; exact rfl; exact rfl; exact rfl; exact rfl)
    | (apply s_len_str TY; exact rfl; exact rfl; exact rfl)
    | (apply s_makefn; exact rfl; exact rfl)
    | (apply s_build TY; exact rfl; exact rfl; exact rfl; exact rfl; exact rfl)
    | (apply s_bslice TY; exact rfl; exact rfl; exact rfl; exact rfl; exact rfl; exact rfl)
    | (apply s_pickT; exact rfl; exact rfl; (first | exact rfl | assumption); exact rfl)
    | (apply s_pickF; exact rfl; exact rfl; (first | exact rfl | assumption); exact rfl)
    | apply w_seq
    | apply w_region
    | apply s_nil
    | apply t_norm
    | apply t_exit
    | apply t_ret
    | apply k_hit
    | (apply k_miss; exact rfl)
    | apply k_norm
    | apply k_ret
    | apply w_block
    | apply w_exit
    | apply w_ret
    | apply w_skip
    | (apply s_call (I1); exact rfl; exact rfl; exact rfl; exact rfl)
    | (apply s_add; exact rfl; exact rfl; exact rfl; (omega))
    | (apply s_sub; exact rfl; exact rfl; exact rfl; (omega))
    | (apply g_skip; exact rfl; (first | exact rfl | assumption); exact rfl)
    | (apply g_move_f; exact rfl; (first | exact rfl | assumption); exact rfl; exact rfl)
    | (apply g_assign_f; exact rfl; (first | exact rfl | assumption); exact rfl; exact rfl)
    | (apply g_load_pt TY; exact rfl; (first | exact rfl | assumption); exact rfl; exact rfl; exact rfl; (first | exact rfl | assumption))
    | (apply g_load_pts TY; exact rfl; (first | exact rfl | assumption); exact rfl; exact rfl; exact rfl; (first | assumption | exact rfl); exact rfl)
    | (apply g_not; exact rfl; (first | exact rfl | assumption); exact rfl; exact rfl)
    | (apply g_neq; exact rfl; (first | exact rfl | assumption); exact rfl; exact rfl; exact rfl)
    | (apply g_move_o; exact rfl; (first | exact rfl | assumption); exact rfl; exact rfl)
    | (apply g_move_x; exact rfl; (first | exact rfl | assumption); exact rfl; exact rfl)
    | (apply g_assign_x; exact rfl; (first | exact rfl | assumption); exact rfl; exact rfl)
    | (apply g_assign_o; exact rfl; (first | exact rfl | assumption); exact rfl; exact rfl)
    | (apply g_load_bx_f TY; exact rfl; (first | exact rfl | assumption); exact rfl; exact rfl; exact rfl; exact rfl; exact rfl)
    | (apply g_load_bx_x TY; exact rfl; (first | exact rfl | assumption); exact rfl; exact rfl; exact rfl; exact rfl; exact rfl)
    | (apply g_load_bx_o TY; exact rfl; (first | exact rfl | assumption); exact rfl; exact rfl; exact rfl; exact rfl; exact rfl)
    | (apply g_load_bxs TY; exact rfl; (first | exact rfl | assumption); exact rfl; exact rfl; exact rfl; exact rfl; exact rfl; exact rfl)
    | (apply g_load_row TY; exact rfl; (first | exact rfl | assumption); exact rfl; exact rfl; exact rfl; exact rfl; (first | exact rfl | assumption))
    | (apply g_call (I1); exact rfl; (first | exact rfl | assumption); exact rfl; exact rfl; exact rfl; exact rfl)
    | (apply s_idxN TY; exact rfl; exact rfl; exact rfl; exact rfl; assumption; assumption)
    | (apply s_idxN_ow TY; exact rfl; exact rfl; exact rfl; exact rfl; exact rfl; assumption)
    | (apply s_idx TY; exact rfl; exact rfl; exact rfl; exact rfl; omega; omega; assumption)
    | (apply s_alloc TY; exact rfl; exact rfl; exact rfl)
    | (apply s_store TY; exact rfl; exact rfl; exact rfl; exact rfl; exact rfl; exact rfl)
    | (apply w_condT; exact rfl; (first | exact rfl | assumption))
    | (apply w_condF; exact rfl; (first | exact rfl | assumption)))
    exact ⟨k + 1, by omega, by omega, gh_le ⟨le_upd rfl trivial (le_upd rfl trivial (le_upd rfl trivial (le_upd rfl trivial (le_upd rfl trivial (le_nil _))))), le_h0 _ _⟩⟩
  have hcc : decide ((k : Int) < x.rows) = false := decide_eq_false (by omega)
  repeat (first
    | (apply s_move_f; exact rfl; exact rfl)
    | (apply s_assign_f; exact rfl; exact rfl)
    | (apply s_fld_pt TY; exact rfl; exact rfl; exact rfl)
    | (apply s_load_pt TY; exact rfl; exact rfl; exact rfl; (first | exact rfl | assumption))
    | (apply s_load_pts TY; exact rfl; exact rfl; exact rfl; (first | assumption | exact rfl); exact rfl)
    | (apply s_len TY; exact rfl; exact rfl; exact rfl)
    | (apply s_extract; exact rfl; exact rfl; exact rfl)
    | (apply s_box; exact rfl; exact rfl; exact rfl)
    | (apply s_not; exact rfl; exact rfl)
    | (apply s_lss; exact rfl; exact rfl; exact rfl)
    | (apply s_geq; exact rfl; exact rfl; exact rfl)
    | (apply s_neq; exact rfl; exact rfl; exact rfl)
    | (apply s_move_o; exact rfl; exact rfl)
    | (apply s_move_x; exact rfl; exact rfl)
    | (apply s_assign_x; exact rfl; exact rfl)
    | (apply s_assign_o; exact rfl; exact rfl)
    | (apply s_fld_bx TY; exact rfl; exact rfl; exact rfl)
    | (apply s_load_bx_f TY; exact rfl; exact rfl; exact rfl; exact rfl; exact rfl)
    | (apply s_load_bx_x TY; exact rfl; exact rfl; exact rfl; exact rfl; exact rfl)
    | (apply s_load_bx_o TY; exact rfl; exact rfl; exact rfl; exact rfl; exact rfl)
    | (apply s_load_bxs TY; exact rfl; exact rfl; exact rfl; exact rfl; exact rfl; exact rfl)
    | (apply s_load_row TY; exact rfl; exact rfl; exact rfl; exact rfl; (first | exact rfl | assumption))
    | (apply s_len_nil TY; exact rfl; exact rfl; exact rfl)
    | (apply s_len_ow TY; exact rfl; exact rfl; exact rfl; exact rfl)
    | (apply s_len_str TY; exact rfl; exact rfl; exact rfl)
    | (apply s_makefn; exact rfl; exact rfl)
    | (apply s_build TY; exact rfl; exact rfl; exact rfl; exact rfl; exact rfl)
    | (apply s_bslice TY; exact rfl; exact rfl; exact rfl; exact rfl; exact rfl; exact rfl)
    | (apply s_pickT; exact rfl; exact rfl; (first | exact rfl | assumption); exact rfl)
    | (apply s_pickF; exact rfl; exact rfl; (first | exact rfl | assumption); exact rfl)
    | apply w_seq
    | apply w_region
    | apply s_nil
    | apply t_norm
    | apply t_exit
    | apply t_ret
    | apply k_hit
    | (apply k_miss; exact rfl)
    | apply k_norm
    | apply k_ret
    | apply w_block
    | apply w_exit
    | apply w_ret
    | apply w_skip
    | (apply s_add; exact rfl; exact rfl; exact rfl; (omega))
    | (apply s_sub; exact rfl; exact rfl; exact rfl; (omega))
    | (apply g_skip; exact rfl; (first | exact rfl | assumption); exact rfl)
    | (apply g_move_f; exact rfl; (first | exact rfl | assumption); exact rfl; exact rfl)
    | (apply g_assign_f; exact rfl; (first | exact rfl | assumption); exact rfl; exact rfl)
    | (apply g_load_pt TY; exact rfl; (first | exact rfl | assumption); exact rfl; exact rfl; exact rfl; (first | exact rfl | assumption))
    | (apply g_load_pts TY; exact rfl; (first | exact rfl | assumption); exact rfl; exact rfl; exact rfl; (first | assumption | exact rfl); exact rfl)
    | (apply g_not; exact rfl; (first | exact rfl | assumption); exact rfl; exact rfl)
    | (apply g_neq; exact rfl; (first | exact rfl | assumption); exact rfl; exact rfl; exact rfl)
    | (apply g_move_o; exact rfl; (first | exact rfl | assumption); exact rfl; exact rfl)
    | (apply g_move_x; exact rfl; (first | exact rfl | assumption); exact rfl; exact rfl)
    | (apply g_assign_x; exact rfl; (first | exact rfl | assumption); exact rfl; exact rfl)
    | (apply g_assign_o; exact rfl; (first | exact rfl | assumption); exact rfl; exact rfl)
    | (apply g_load_bx_f TY; exact rfl; (first | exact rfl | assumption); exact rfl; exact rfl; exact rfl; exact rfl; exact rfl)
    | (apply g_load_bx_x TY; exact rfl; (first | exact rfl | assumption); exact rfl; exact rfl; exact rfl; exact rfl; exact rfl)
    | (apply g_load_bx_o TY; exact rfl; (first | exact rfl | assumption); exact rfl; exact rfl; exact rfl; exact rfl; exact rfl)
    | (apply g_load_bxs TY; exact rfl; (first | exact rfl | assumption); exact rfl; exact rfl; exact rfl; exact rfl; exact rfl; exact rfl)
    | (apply g_load_row TY; exact rfl; (first | exact rfl | assumption); exact rfl; exact rfl; exact rfl; exact rfl; (first | exact rfl | assumption))
    | (apply s_idxN TY; exact rfl; exact rfl; exact rfl; exact rfl; assumption; assumption)
    | (apply s_idxN_ow TY; exact rfl; exact rfl; exact rfl; exact rfl; exact rfl; assumption)
    | (apply s_idx TY; exact rfl; exact rfl; exact rfl; exact rfl; omega; omega; assumption)
    | (apply s_alloc TY; exact rfl; exact rfl; exact rfl)
    | (apply s_store TY; exact rfl; exact rfl; exact rfl; exact rfl; exact rfl; exact rfl)
    | (apply w_condT; exact rfl; (first | exact rfl | assumption))
    | (apply w_condF; exact rfl; (first | exact rfl | assumption)))
  exact lv_ret (ret1 rfl (res_tmp rfl))
end Go.Proofs.YtienhiloecfgnaaDoor
namespace Go.Proofs.YtienhiloecfgnaaDoor.iceTurned
open Go Go.Ab Go.ChangeShapes Go.WideShapes Go.ChangeAt Go.RowKit
set_option maxRecDepth 100000 in
theorem lifted (os : Os) (started : os.Started) (H : Type) (enc : TypeId × Value → H) :
    ReturnsInHanded {} Tryd.checked os 3 .any (fun w args => (Rows.iceTurnedSpec.pre enc Tryd.prog Tryd.f3 [] false w args ∧ laidMetH Tryd.prog laidL w) ∧ sizedMet enc Tryd.prog Tryd.f3 (OpenSpec.ofChange Rows.iceTurnedSpec) false w args)
      (Rows.iceTurnedSpec.post enc Tryd.prog Tryd.f3 false true false false) := by
  refine returnsInHanded_of_change_and (C := Tryd.checked) (X := fun w _ => laidMetH Tryd.prog laidL w) (fun _ _ _ hh h => h.of_heap hh) ownKnobT started (by kernel_rfl) Tryd.func3
    (ChangeSpec.witness_shaped (enc := enc) (C := Tryd.checked) (os := os) (X := fun w _ => laidMetH Tryd.prog laidL w) false (World.doorLaid Tryd.prog 400 os) #[.agg #[.slice none 0 0, .int .i64 0, .slice none 0 0], .agg #[.int .i64 0, .int .i64 0]] 8 rfl (World.shaped_of_RefB (by kernel_rfl) (by kernel_rfl)) (by kernel_rfl) (by kernel_rfl) (by kernel_rfl) (door_met os _)) ?_
  intro W base args ds gs before hval0 hW0 _ _ hL _
  have hval : ∀ (j : Nat) t v, Tryd.f3.params[j]? = some t → args[j]? = some v → Value.okWide Tryd.prog W .any base t v := hval0
  have hW : DataW.Whole enc Tryd.prog Tryd.f3.params.toList Rows.iceTurnedSpec.vars false W args.toList ds gs before := hW0
  have hW' := hW
  obtain ⟨p, q, hA0, hV, rfl, hfz, hnd⟩ := hW
  have hA : DataW.TrodAll enc Tryd.prog W 0 (fun _ => true) true Tryd.f3.params.toList args.toList ds p := hA0
  rw [Tryd.params3] at hA hval
  obtain ⟨v0, vs0, d0, ds0, p0, q0, hargs, rfl, rfl, h0, r0⟩ := trodAll_cons hA
  obtain ⟨v1, vs1, d1, ds1, p1, q1, rfl, rfl, rfl, h1, r1⟩ := trodAll_cons r0
  obtain ⟨rfl, rfl, rfl⟩ := trodAll_nil r1
  obtain rfl : args = #[v0, v1] := by cases args; simp_all
  obtain ⟨rfl, rfl⟩ := trodVars_none hV
  obtain ⟨x0, g0⟩ := arg_st opens_grid Tryd.underlying25 (hval 0 25 v0 rfl rfl) h0
  obtain ⟨x1, g1⟩ := arg_st opens_cel Tryd.underlying27 (hval 1 27 v1 rfl rfl) h1
  refine (law_calls (IceTurned_s x0 x1) (args := #[v0, v1]) hL (RepL.cons g0 (RepL.cons g1 (RepL.nil _ _)))).mono fun e W' ⟨he, hb⟩ => ?_
  subst he
  have hp : Rows.iceTurnedSpec.post enc Tryd.prog Tryd.f3 false true false false W #[v0, v1] (.bool true) W' := post_law hW' rfl (by kernel_rfl) (fun t ht => by
    rw [Tryd.params3] at ht
    have hm : t ∈ [25, 27] := by simpa using ht
    have hall : ([25, 27].all fun u => Tryd.prog.readableRec u && decide (u < Tryd.prog.types.size)) = true := by kernel_rfl
    have h2 := List.all_eq_true.1 hall t hm
    rw [Bool.and_eq_true, decide_eq_true_eq] at h2
    exact h2) rfl rfl rfl hb
  exact ⟨.bool true, rfl, hp⟩
theorem holds : Rows.IceTurnedSaid :=
  OpenClaim.holds_of_wide 3 Tryd.f3 rfl rfl rfl rfl rfl rfl rfl ⟨rfl, rfl, rfl, rfl, rfl⟩ rfl rfl rfl rfl rfl (by kernel_rfl) Tryd.func3 (by kernel_rfl)
    (of_decide_eq_true (by kernel_rfl)) (by unfold Func.isWrapper; first | (rw [if_pos (by decide +kernel)]; kernel_rfl) | (rw [if_neg (by decide +kernel)]; exact ⟨rfl, rfl⟩))
    (fun os started H enc _ => lifted os started H enc)
theorem card_holds : Rows.IceTurnedCardSaid :=
  Claim7.holds_tied_plain_at .later [] [.data] true (true, "8720faff1f76d97852de98676b3851767d0d17770b02382d2d65271149a7f855") false
    holds (fun _ h => by cases h) (by kernel_rfl) (fun _ h => by cases h) iceTurned_row_tie rfl ⟨rfl, rfl⟩ (by kernel_rfl) rfl
    (fun f fn hf hfn => by
      obtain rfl : f = 3 := Option.some.inj ((show Tryd.prog.funcNamed "cherenkov/cherenkovlaw03.IceTurned" = some 3 by kernel_rfl).symm.trans hf) |>.symm
      obtain rfl : fn = Tryd.f3 := (Option.some.inj (Tryd.func3.symm.trans hfn)).symm
      exact ⟨by kernel_rfl, fun j t ht => by
        rw [Tryd.params3] at ht
        have hm : t ∈ [25, 27] := by simpa using Array.mem_of_getElem? ht
        have hall : ([25, 27].all fun u => !Tryd.prog.wantsStandIn u) = true := by kernel_rfl
        exact (show Tryd.prog.wantsStandIn t = false by simpa using List.all_eq_true.1 hall t hm)⟩)
    (by kernel_rfl)
end Go.Proofs.YtienhiloecfgnaaDoor.iceTurned
