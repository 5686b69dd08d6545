/- Proved: the law IceGrids returns true for every grid and every cell, and leaves what it was handed as it was. Conditions: those of the given card alone (the table of the four sides of a cell is tied to the program's text). -/
import Derived.Test.YtienhiloecfgnaaDoorK5
import Derived.Test.YtienhiloecfgnaaDoorTie
import Derived.Test.YtienhiloecfgnaaDoorCards
import Derived.SevenTiedAt
namespace Go.Proofs.YtienhiloecfgnaaDoor
open Go Go.RowKit Go.Proofs Go.Shelf Go.Ab
theorem firstE_two (a b : Int) : firstE [a, b] = if a = 0 then b else a := by
  unfold firstE firstE
  by_cases h : a = 0
  · rw [if_pos h, if_pos h]; by_cases h2 : b = 0
    · rw [if_pos h2, h2]; rfl
    · rw [if_neg h2]
  · rw [if_neg h, if_neg h]
theorem layerAtE_bad {x : Grid} {c : Cel} (h : (checkIce x).2 ≠ 0) : layerAtE x c = (0, (checkIce x).2) := by
  have e : firstE [iceErrE x, cellErrE x c] = (checkIce x).2 := by rw [firstE_two, iceErrE, if_neg h]
  unfold layerAtE; rw [e, if_pos (by simpa using h)]
theorem layerAtE_cell {x : Grid} {c : Cel} (h : (checkIce x).2 = 0) (hc : cellErrE x c ≠ 0) : layerAtE x c = (0, cellErrE x c) := by
  have e : firstE [iceErrE x, cellErrE x c] = cellErrE x c := by rw [firstE_two, iceErrE, if_pos h]
  unfold layerAtE; rw [e, if_pos (by simpa using hc)]
theorem layerAtE_ok {x : Grid} {c : Cel} (h : (checkIce x).2 = 0) (hc : cellErrE x c = 0) : layerAtE x c = (layerI x c, 0) := by
  have e : firstE [iceErrE x, cellErrE x c] = 0 := by rw [firstE_two, iceErrE, if_pos h, hc]
  unfold layerAtE; rw [e, if_neg (by decide)]
theorem neq_self (a : Int) : (!decide (a = a)) = false := by simp
set_option maxRecDepth 100000 in
theorem IceGrids_s (x : Grid) (c : Cel) : Summ Tryd.prog GG 5 [gridF x, .agg (celF c)] (bv true) := by
  refine summW Tryd.func5 rfl rfl 65 rfl (by simp) (fun M0 => ?_)
  cases hf : fewB x with
  | false =>
    have g : (!fewB x) = true := by rw [hf]; rfl
    repeat (first
    | (apply s_move_f; exact rfl; exact rfl)
    | (apply s_assign_f; exact rfl; exact rfl)
    | (apply s_load_pt TY; exact rfl; exact rfl; exact rfl; (first | exact rfl | assumption))
    | (apply s_load_pts TY; exact rfl; exact rfl; exact rfl; (first | assumption | exact rfl); exact rfl)
    | (apply s_extract; exact rfl; exact rfl; exact rfl)
    | (apply s_box; exact rfl; exact rfl; exact rfl)
    | (apply s_not; exact rfl; exact rfl)
    | (apply s_eql; exact rfl; exact rfl; exact rfl)
    | (apply s_neq; exact rfl; exact rfl; exact rfl)
    | (apply s_move_o; exact rfl; exact rfl)
    | (apply s_move_x; exact rfl; exact rfl)
    | (apply s_assign_x; exact rfl; exact rfl)
    | (apply s_assign_o; exact rfl; exact rfl)
    | (apply s_load_bx_f TY; exact rfl; exact rfl; exact rfl; exact rfl; exact rfl)
    | (apply s_load_bx_x TY; exact rfl; exact rfl; exact rfl; exact rfl; exact rfl)
    | (apply s_load_bx_o TY; exact rfl; exact rfl; exact rfl; exact rfl; exact rfl)
    | (apply s_load_bxs TY; exact rfl; exact rfl; exact rfl; exact rfl; exact rfl; exact rfl)
    | (apply s_load_row TY; exact rfl; exact rfl; exact rfl; exact rfl; (first | exact rfl | assumption))
    | (apply s_makefn; exact rfl; exact rfl)
    | (apply s_pickT; exact rfl; exact rfl; (first | exact rfl | assumption); exact rfl)
    | (apply s_pickF; exact rfl; exact rfl; (first | exact rfl | assumption); exact rfl)
    | apply w_seq
    | apply w_region
    | apply s_nil
    | apply t_norm
    | apply t_exit
    | apply t_ret
    | apply k_hit
    | (apply k_miss; exact rfl)
    | apply k_norm
    | apply k_ret
    | apply w_block
    | apply w_exit
    | apply w_ret
    | apply w_skip
    | (apply s_call (awake_s); exact rfl; exact rfl; exact rfl; exact rfl)
    | (apply s_call (Few_s x); exact rfl; exact rfl; exact rfl; exact rfl)
    | (apply g_skip; exact rfl; (first | exact rfl | assumption); exact rfl)
    | (apply g_move_f; exact rfl; (first | exact rfl | assumption); exact rfl; exact rfl)
    | (apply g_assign_f; exact rfl; (first | exact rfl | assumption); exact rfl; exact rfl)
    | (apply g_load_pt TY; exact rfl; (first | exact rfl | assumption); exact rfl; exact rfl; exact rfl; (first | exact rfl | assumption))
    | (apply g_load_pts TY; exact rfl; (first | exact rfl | assumption); exact rfl; exact rfl; exact rfl; (first | assumption | exact rfl); exact rfl)
    | (apply g_eql; exact rfl; (first | exact rfl | assumption); exact rfl; exact rfl; exact rfl)
    | (apply g_neq; exact rfl; (first | exact rfl | assumption); exact rfl; exact rfl; exact rfl)
    | (apply g_move_o; exact rfl; (first | exact rfl | assumption); exact rfl; exact rfl)
    | (apply g_move_x; exact rfl; (first | exact rfl | assumption); exact rfl; exact rfl)
    | (apply g_assign_x; exact rfl; (first | exact rfl | assumption); exact rfl; exact rfl)
    | (apply g_assign_o; exact rfl; (first | exact rfl | assumption); exact rfl; exact rfl)
    | (apply g_load_bx_f TY; exact rfl; (first | exact rfl | assumption); exact rfl; exact rfl; exact rfl; exact rfl; exact rfl)
    | (apply g_load_bx_x TY; exact rfl; (first | exact rfl | assumption); exact rfl; exact rfl; exact rfl; exact rfl; exact rfl)
    | (apply g_load_bx_o TY; exact rfl; (first | exact rfl | assumption); exact rfl; exact rfl; exact rfl; exact rfl; exact rfl)
    | (apply g_load_bxs TY; exact rfl; (first | exact rfl | assumption); exact rfl; exact rfl; exact rfl; exact rfl; exact rfl; exact rfl)
    | (apply g_load_row TY; exact rfl; (first | exact rfl | assumption); exact rfl; exact rfl; exact rfl; exact rfl; (first | exact rfl | assumption))
    | (apply g_call (awake_s); exact rfl; (first | exact rfl | assumption); exact rfl; exact rfl; exact rfl; exact rfl)
    | (apply g_call (Few_s x); exact rfl; (first | exact rfl | assumption); exact rfl; exact rfl; exact rfl; exact rfl)
    | (apply w_condT; exact rfl; (first | exact rfl | assumption))
    | (apply w_condF; exact rfl; (first | exact rfl | assumption)))
    exact lv_ret (ret1 rfl (res_tmp rfl))
  | true =>
  have g : (!fewB x) = false := by rw [hf]; rfl
  obtain ⟨f1, f2⟩ := fewB_true hf
  have n1 := neq_self (checkIce x).1
  have n2 := neq_self (checkIce x).2
  by_cases h : (checkIce x).2 = 0
  · have v : Valid x := (checkIce_zero x).1 h
    have d1 : decide ((checkIce x).2 = 0) = true := by simpa using h
    by_cases hc : cellErrE x c = 0
    · have hi : InG x c := (cellB_in v).1 ((unlessE_zero (by decide)).1 hc)
      have e := layerAtE_ok h hc
      have d2 : (!decide (cellErrE x c = 0)) = false := by simp [hc]
      have d3 : decide ((layerAtE x c).2 = 0) = true := by rw [e]; rfl
      repeat (first
    | (apply s_move_f; exact rfl; exact rfl)
    | (apply s_assign_f; exact rfl; exact rfl)
    | (apply s_load_pt TY; exact rfl; exact rfl; exact rfl; (first | exact rfl | assumption))
    | (apply s_load_pts TY; exact rfl; exact rfl; exact rfl; (first | assumption | exact rfl); exact rfl)
    | (apply s_extract; exact rfl; exact rfl; exact rfl)
    | (apply s_box; exact rfl; exact rfl; exact rfl)
    | (apply s_not; exact rfl; exact rfl)
    | (apply s_eql; exact rfl; exact rfl; exact rfl)
    | (apply s_neq; exact rfl; exact rfl; exact rfl)
    | (apply s_move_o; exact rfl; exact rfl)
    | (apply s_move_x; exact rfl; exact rfl)
    | (apply s_assign_x; exact rfl; exact rfl)
    | (apply s_assign_o; exact rfl; exact rfl)
    | (apply s_load_bx_f TY; exact rfl; exact rfl; exact rfl; exact rfl; exact rfl)
    | (apply s_load_bx_x TY; exact rfl; exact rfl; exact rfl; exact rfl; exact rfl)
    | (apply s_load_bx_o TY; exact rfl; exact rfl; exact rfl; exact rfl; exact rfl)
    | (apply s_load_bxs TY; exact rfl; exact rfl; exact rfl; exact rfl; exact rfl; exact rfl)
    | (apply s_load_row TY; exact rfl; exact rfl; exact rfl; exact rfl; (first | exact rfl | assumption))
    | (apply s_makefn; exact rfl; exact rfl)
    | (apply s_pickT; exact rfl; exact rfl; (first | exact rfl | assumption); exact rfl)
    | (apply s_pickF; exact rfl; exact rfl; (first | exact rfl | assumption); exact rfl)
    | apply w_seq
    | apply w_region
    | apply s_nil
    | apply t_norm
    | apply t_exit
    | apply t_ret
    | apply k_hit
    | (apply k_miss; exact rfl)
    | apply k_norm
    | apply k_ret
    | apply w_block
    | apply w_exit
    | apply w_ret
    | apply w_skip
    | (apply s_call (awake_s); exact rfl; exact rfl; exact rfl; exact rfl)
    | (apply s_call (Few_s x); exact rfl; exact rfl; exact rfl; exact rfl)
    | (apply s_call (CopyIce_s x (by omega) (by omega)); exact rfl; exact rfl; exact rfl; exact rfl)
    | (apply s_call (CheckIce_s x ⟨by omega, by omega⟩); exact rfl; exact rfl; exact rfl; exact rfl)
    | (apply s_call (LayerAt_s x c ⟨by omega, by omega⟩); exact rfl; exact rfl; exact rfl; exact rfl)
    | (apply s_call (refCheckIce_s x); exact rfl; exact rfl; exact rfl; exact rfl)
    | (apply g_skip; exact rfl; (first | exact rfl | assumption); exact rfl)
    | (apply g_move_f; exact rfl; (first | exact rfl | assumption); exact rfl; exact rfl)
    | (apply g_assign_f; exact rfl; (first | exact rfl | assumption); exact rfl; exact rfl)
    | (apply g_load_pt TY; exact rfl; (first | exact rfl | assumption); exact rfl; exact rfl; exact rfl; (first | exact rfl | assumption))
    | (apply g_load_pts TY; exact rfl; (first | exact rfl | assumption); exact rfl; exact rfl; exact rfl; (first | assumption | exact rfl); exact rfl)
    | (apply g_eql; exact rfl; (first | exact rfl | assumption); exact rfl; exact rfl; exact rfl)
    | (apply g_neq; exact rfl; (first | exact rfl | assumption); exact rfl; exact rfl; exact rfl)
    | (apply g_move_o; exact rfl; (first | exact rfl | assumption); exact rfl; exact rfl)
    | (apply g_move_x; exact rfl; (first | exact rfl | assumption); exact rfl; exact rfl)
    | (apply g_assign_x; exact rfl; (first | exact rfl | assumption); exact rfl; exact rfl)
    | (apply g_assign_o; exact rfl; (first | exact rfl | assumption); exact rfl; exact rfl)
    | (apply g_load_bx_f TY; exact rfl; (first | exact rfl | assumption); exact rfl; exact rfl; exact rfl; exact rfl; exact rfl)
    | (apply g_load_bx_x TY; exact rfl; (first | exact rfl | assumption); exact rfl; exact rfl; exact rfl; exact rfl; exact rfl)
    | (apply g_load_bx_o TY; exact rfl; (first | exact rfl | assumption); exact rfl; exact rfl; exact rfl; exact rfl; exact rfl)
    | (apply g_load_bxs TY; exact rfl; (first | exact rfl | assumption); exact rfl; exact rfl; exact rfl; exact rfl; exact rfl; exact rfl)
    | (apply g_load_row TY; exact rfl; (first | exact rfl | assumption); exact rfl; exact rfl; exact rfl; exact rfl; (first | exact rfl | assumption))
    | (apply g_call (awake_s); exact rfl; (first | exact rfl | assumption); exact rfl; exact rfl; exact rfl; exact rfl)
    | (apply g_call (Few_s x); exact rfl; (first | exact rfl | assumption); exact rfl; exact rfl; exact rfl; exact rfl)
    | (apply g_call (CopyIce_s x (by omega) (by omega)); exact rfl; (first | exact rfl | assumption); exact rfl; exact rfl; exact rfl; exact rfl)
    | (apply g_call (CheckIce_s x ⟨by omega, by omega⟩); exact rfl; (first | exact rfl | assumption); exact rfl; exact rfl; exact rfl; exact rfl)
    | (apply g_call (LayerAt_s x c ⟨by omega, by omega⟩); exact rfl; (first | exact rfl | assumption); exact rfl; exact rfl; exact rfl; exact rfl)
    | (apply g_call (refCheckIce_s x); exact rfl; (first | exact rfl | assumption); exact rfl; exact rfl; exact rfl; exact rfl)
    | (apply w_condT; exact rfl; (first | exact rfl | assumption))
    | (apply w_condF; exact rfl; (first | exact rfl | assumption)))
      apply w_draw 8 rfl (by kernel_rfl)
      repeat (first
    | (apply s_move_f; exact rfl; exact rfl)
    | (apply s_assign_f; exact rfl; exact rfl)
    | (apply s_load_pt TY; exact rfl; exact rfl; exact rfl; (first | exact rfl | assumption))
    | (apply s_load_pts TY; exact rfl; exact rfl; exact rfl; (first | assumption | exact rfl); exact rfl)
    | (apply s_extract; exact rfl; exact rfl; exact rfl)
    | (apply s_box; exact rfl; exact rfl; exact rfl)
    | (apply s_not; exact rfl; exact rfl)
    | (apply s_eql; exact rfl; exact rfl; exact rfl)
    | (apply s_neq; exact rfl; exact rfl; exact rfl)
    | (apply s_move_o; exact rfl; exact rfl)
    | (apply s_move_x; exact rfl; exact rfl)
    | (apply s_assign_x; exact rfl; exact rfl)
    | (apply s_assign_o; exact rfl; exact rfl)
    | (apply s_load_bx_f TY; exact rfl; exact rfl; exact rfl; exact rfl; exact rfl)
    | (apply s_load_bx_x TY; exact rfl; exact rfl; exact rfl; exact rfl; exact rfl)
    | (apply s_load_bx_o TY; exact rfl; exact rfl; exact rfl; exact rfl; exact rfl)
    | (apply s_load_bxs TY; exact rfl; exact rfl; exact rfl; exact rfl; exact rfl; exact rfl)
    | (apply s_load_row TY; exact rfl; exact rfl; exact rfl; exact rfl; (first | exact rfl | assumption))
    | (apply s_makefn; exact rfl; exact rfl)
    | (apply s_pickT; exact rfl; exact rfl; (first | exact rfl | assumption); exact rfl)
    | (apply s_pickF; exact rfl; exact rfl; (first | exact rfl | assumption); exact rfl)
    | apply w_seq
    | apply w_region
    | apply s_nil
    | apply t_norm
    | apply t_exit
    | apply t_ret
    | apply k_hit
    | (apply k_miss; exact rfl)
    | apply k_norm
    | apply k_ret
    | apply w_block
    | apply w_exit
    | apply w_ret
    | apply w_skip
    | (apply s_call (awake_s); exact rfl; exact rfl; exact rfl; exact rfl)
    | (apply s_call (Few_s x); exact rfl; exact rfl; exact rfl; exact rfl)
    | (apply s_call (CopyIce_s x (by omega) (by omega)); exact rfl; exact rfl; exact rfl; exact rfl)
    | (apply s_call (CheckIce_s x ⟨by omega, by omega⟩); exact rfl; exact rfl; exact rfl; exact rfl)
    | (apply s_call (LayerAt_s x c ⟨by omega, by omega⟩); exact rfl; exact rfl; exact rfl; exact rfl)
    | (apply s_call (refCheckIce_s x); exact rfl; exact rfl; exact rfl; exact rfl)
    | (apply s_call (CellErr_s x c v); exact rfl; exact rfl; exact rfl; exact rfl)
    | (apply s_call (Layer_s x c v hi); exact rfl; exact rfl; exact rfl; exact rfl)
    | (apply g_skip; exact rfl; (first | exact rfl | assumption); exact rfl)
    | (apply g_move_f; exact rfl; (first | exact rfl | assumption); exact rfl; exact rfl)
    | (apply g_assign_f; exact rfl; (first | exact rfl | assumption); exact rfl; exact rfl)
    | (apply g_load_pt TY; exact rfl; (first | exact rfl | assumption); exact rfl; exact rfl; exact rfl; (first | exact rfl | assumption))
    | (apply g_load_pts TY; exact rfl; (first | exact rfl | assumption); exact rfl; exact rfl; exact rfl; (first | assumption | exact rfl); exact rfl)
    | (apply g_eql; exact rfl; (first | exact rfl | assumption); exact rfl; exact rfl; exact rfl)
    | (apply g_neq; exact rfl; (first | exact rfl | assumption); exact rfl; exact rfl; exact rfl)
    | (apply g_move_o; exact rfl; (first | exact rfl | assumption); exact rfl; exact rfl)
    | (apply g_move_x; exact rfl; (first | exact rfl | assumption); exact rfl; exact rfl)
    | (apply g_assign_x; exact rfl; (first | exact rfl | assumption); exact rfl; exact rfl)
    | (apply g_assign_o; exact rfl; (first | exact rfl | assumption); exact rfl; exact rfl)
    | (apply g_load_bx_f TY; exact rfl; (first | exact rfl | assumption); exact rfl; exact rfl; exact rfl; exact rfl; exact rfl)
    | (apply g_load_bx_x TY; exact rfl; (first | exact rfl | assumption); exact rfl; exact rfl; exact rfl; exact rfl; exact rfl)
    | (apply g_load_bx_o TY; exact rfl; (first | exact rfl | assumption); exact rfl; exact rfl; exact rfl; exact rfl; exact rfl)
    | (apply g_load_bxs TY; exact rfl; (first | exact rfl | assumption); exact rfl; exact rfl; exact rfl; exact rfl; exact rfl; exact rfl)
    | (apply g_load_row TY; exact rfl; (first | exact rfl | assumption); exact rfl; exact rfl; exact rfl; exact rfl; (first | exact rfl | assumption))
    | (apply g_call (awake_s); exact rfl; (first | exact rfl | assumption); exact rfl; exact rfl; exact rfl; exact rfl)
    | (apply g_call (Few_s x); exact rfl; (first | exact rfl | assumption); exact rfl; exact rfl; exact rfl; exact rfl)
    | (apply g_call (CopyIce_s x (by omega) (by omega)); exact rfl; (first | exact rfl | assumption); exact rfl; exact rfl; exact rfl; exact rfl)
    | (apply g_call (CheckIce_s x ⟨by omega, by omega⟩); exact rfl; (first | exact rfl | assumption); exact rfl; exact rfl; exact rfl; exact rfl)
    | (apply g_call (LayerAt_s x c ⟨by omega, by omega⟩); exact rfl; (first | exact rfl | assumption); exact rfl; exact rfl; exact rfl; exact rfl)
    | (apply g_call (refCheckIce_s x); exact rfl; (first | exact rfl | assumption); exact rfl; exact rfl; exact rfl; exact rfl)
    | (apply g_call (CellErr_s x c v); exact rfl; (first | exact rfl | assumption); exact rfl; exact rfl; exact rfl; exact rfl)
    | (apply g_call (Layer_s x c v hi); exact rfl; (first | exact rfl | assumption); exact rfl; exact rfl; exact rfl; exact rfl)
    | (apply w_condT; exact rfl; (first | exact rfl | assumption))
    | (apply w_condF; exact rfl; (first | exact rfl | assumption)))
      exact lv_ret (ret1 rfl (res_tmp (avb (by rw [e]; simp))))
    · have e := layerAtE_cell h hc
      have d2 : (!decide (cellErrE x c = 0)) = true := by simp [hc]
      have d3 : decide ((layerAtE x c).2 = cellErrE x c) = true := by rw [e]; simp
      repeat (first
    | (apply s_move_f; exact rfl; exact rfl)
    | (apply s_assign_f; exact rfl; exact rfl)
    | (apply s_load_pt TY; exact rfl; exact rfl; exact rfl; (first | exact rfl | assumption))
    | (apply s_load_pts TY; exact rfl; exact rfl; exact rfl; (first | assumption | exact rfl); exact rfl)
    | (apply s_extract; exact rfl; exact rfl; exact rfl)
    | (apply s_box; exact rfl; exact rfl; exact rfl)
    | (apply s_not; exact rfl; exact rfl)
    | (apply s_eql; exact rfl; exact rfl; exact rfl)
    | (apply s_neq; exact rfl; exact rfl; exact rfl)
    | (apply s_move_o; exact rfl; exact rfl)
    | (apply s_move_x; exact rfl; exact rfl)
    | (apply s_assign_x; exact rfl; exact rfl)
    | (apply s_assign_o; exact rfl; exact rfl)
    | (apply s_load_bx_f TY; exact rfl; exact rfl; exact rfl; exact rfl; exact rfl)
    | (apply s_load_bx_x TY; exact rfl; exact rfl; exact rfl; exact rfl; exact rfl)
    | (apply s_load_bx_o TY; exact rfl; exact rfl; exact rfl; exact rfl; exact rfl)
    | (apply s_load_bxs TY; exact rfl; exact rfl; exact rfl; exact rfl; exact rfl; exact rfl)
    | (apply s_load_row TY; exact rfl; exact rfl; exact rfl; exact rfl; (first | exact rfl | assumption))
    | (apply s_makefn; exact rfl; exact rfl)
    | (apply s_pickT; exact rfl; exact rfl; (first | exact rfl | assumption); exact rfl)
    | (apply s_pickF; exact rfl; exact rfl; (first | exact rfl | assumption); exact rfl)
    | apply w_seq
    | apply w_region
    | apply s_nil
    | apply t_norm
    | apply t_exit
    | apply t_ret
    | apply k_hit
    | (apply k_miss; exact rfl)
    | apply k_norm
    | apply k_ret
    | apply w_block
    | apply w_exit
    | apply w_ret
    | apply w_skip
    | (apply s_call (awake_s); exact rfl; exact rfl; exact rfl; exact rfl)
    | (apply s_call (Few_s x); exact rfl; exact rfl; exact rfl; exact rfl)
    | (apply s_call (CopyIce_s x (by omega) (by omega)); exact rfl; exact rfl; exact rfl; exact rfl)
    | (apply s_call (CheckIce_s x ⟨by omega, by omega⟩); exact rfl; exact rfl; exact rfl; exact rfl)
    | (apply s_call (LayerAt_s x c ⟨by omega, by omega⟩); exact rfl; exact rfl; exact rfl; exact rfl)
    | (apply s_call (refCheckIce_s x); exact rfl; exact rfl; exact rfl; exact rfl)
    | (apply g_skip; exact rfl; (first | exact rfl | assumption); exact rfl)
    | (apply g_move_f; exact rfl; (first | exact rfl | assumption); exact rfl; exact rfl)
    | (apply g_assign_f; exact rfl; (first | exact rfl | assumption); exact rfl; exact rfl)
    | (apply g_load_pt TY; exact rfl; (first | exact rfl | assumption); exact rfl; exact rfl; exact rfl; (first | exact rfl | assumption))
    | (apply g_load_pts TY; exact rfl; (first | exact rfl | assumption); exact rfl; exact rfl; exact rfl; (first | assumption | exact rfl); exact rfl)
    | (apply g_eql; exact rfl; (first | exact rfl | assumption); exact rfl; exact rfl; exact rfl)
    | (apply g_neq; exact rfl; (first | exact rfl | assumption); exact rfl; exact rfl; exact rfl)
    | (apply g_move_o; exact rfl; (first | exact rfl | assumption); exact rfl; exact rfl)
    | (apply g_move_x; exact rfl; (first | exact rfl | assumption); exact rfl; exact rfl)
    | (apply g_assign_x; exact rfl; (first | exact rfl | assumption); exact rfl; exact rfl)
    | (apply g_assign_o; exact rfl; (first | exact rfl | assumption); exact rfl; exact rfl)
    | (apply g_load_bx_f TY; exact rfl; (first | exact rfl | assumption); exact rfl; exact rfl; exact rfl; exact rfl; exact rfl)
    | (apply g_load_bx_x TY; exact rfl; (first | exact rfl | assumption); exact rfl; exact rfl; exact rfl; exact rfl; exact rfl)
    | (apply g_load_bx_o TY; exact rfl; (first | exact rfl | assumption); exact rfl; exact rfl; exact rfl; exact rfl; exact rfl)
    | (apply g_load_bxs TY; exact rfl; (first | exact rfl | assumption); exact rfl; exact rfl; exact rfl; exact rfl; exact rfl; exact rfl)
    | (apply g_load_row TY; exact rfl; (first | exact rfl | assumption); exact rfl; exact rfl; exact rfl; exact rfl; (first | exact rfl | assumption))
    | (apply g_call (awake_s); exact rfl; (first | exact rfl | assumption); exact rfl; exact rfl; exact rfl; exact rfl)
    | (apply g_call (Few_s x); exact rfl; (first | exact rfl | assumption); exact rfl; exact rfl; exact rfl; exact rfl)
    | (apply g_call (CopyIce_s x (by omega) (by omega)); exact rfl; (first | exact rfl | assumption); exact rfl; exact rfl; exact rfl; exact rfl)
    | (apply g_call (CheckIce_s x ⟨by omega, by omega⟩); exact rfl; (first | exact rfl | assumption); exact rfl; exact rfl; exact rfl; exact rfl)
    | (apply g_call (LayerAt_s x c ⟨by omega, by omega⟩); exact rfl; (first | exact rfl | assumption); exact rfl; exact rfl; exact rfl; exact rfl)
    | (apply g_call (refCheckIce_s x); exact rfl; (first | exact rfl | assumption); exact rfl; exact rfl; exact rfl; exact rfl)
    | (apply w_condT; exact rfl; (first | exact rfl | assumption))
    | (apply w_condF; exact rfl; (first | exact rfl | assumption)))
      apply w_draw 8 rfl (by kernel_rfl)
      repeat (first
    | (apply s_move_f; exact rfl; exact rfl)
    | (apply s_assign_f; exact rfl; exact rfl)
    | (apply s_load_pt TY; exact rfl; exact rfl; exact rfl; (first | exact rfl | assumption))
    | (apply s_load_pts TY; exact rfl; exact rfl; exact rfl; (first | assumption | exact rfl); exact rfl)
    | (apply s_extract; exact rfl; exact rfl; exact rfl)
    | (apply s_box; exact rfl; exact rfl; exact rfl)
    | (apply s_not; exact rfl; exact rfl)
    | (apply s_eql; exact rfl; exact rfl; exact rfl)
    | (apply s_neq; exact rfl; exact rfl; exact rfl)
    | (apply s_move_o; exact rfl; exact rfl)
    | (apply s_move_x; exact rfl; exact rfl)
    | (apply s_assign_x; exact rfl; exact rfl)
    | (apply s_assign_o; exact rfl; exact rfl)
    | (apply s_load_bx_f TY; exact rfl; exact rfl; exact rfl; exact rfl; exact rfl)
    | (apply s_load_bx_x TY; exact rfl; exact rfl; exact rfl; exact rfl; exact rfl)
    | (apply s_load_bx_o TY; exact rfl; exact rfl; exact rfl; exact rfl; exact rfl)
    | (apply s_load_bxs TY; exact rfl; exact rfl; exact rfl; exact rfl; exact rfl; exact rfl)
    | (apply s_load_row TY; exact rfl; exact rfl; exact rfl; exact rfl; (first | exact rfl | assumption))
    | (apply s_makefn; exact rfl; exact rfl)
    | (apply s_pickT; exact rfl; exact rfl; (first | exact rfl | assumption); exact rfl)
    | (apply s_pickF; exact rfl; exact rfl; (first | exact rfl | assumption); exact rfl)
    | apply w_seq
    | apply w_region
    | apply s_nil
    | apply t_norm
    | apply t_exit
    | apply t_ret
    | apply k_hit
    | (apply k_miss; exact rfl)
    | apply k_norm
    | apply k_ret
    | apply w_block
    | apply w_exit
    | apply w_ret
    | apply w_skip
    | (apply s_call (awake_s); exact rfl; exact rfl; exact rfl; exact rfl)
    | (apply s_call (Few_s x); exact rfl; exact rfl; exact rfl; exact rfl)
    | (apply s_call (CopyIce_s x (by omega) (by omega)); exact rfl; exact rfl; exact rfl; exact rfl)
    | (apply s_call (CheckIce_s x ⟨by omega, by omega⟩); exact rfl; exact rfl; exact rfl; exact rfl)
    | (apply s_call (LayerAt_s x c ⟨by omega, by omega⟩); exact rfl; exact rfl; exact rfl; exact rfl)
    | (apply s_call (refCheckIce_s x); exact rfl; exact rfl; exact rfl; exact rfl)
    | (apply s_call (CellErr_s x c v); exact rfl; exact rfl; exact rfl; exact rfl)
    | (apply g_skip; exact rfl; (first | exact rfl | assumption); exact rfl)
    | (apply g_move_f; exact rfl; (first | exact rfl | assumption); exact rfl; exact rfl)
    | (apply g_assign_f; exact rfl; (first | exact rfl | assumption); exact rfl; exact rfl)
    | (apply g_load_pt TY; exact rfl; (first | exact rfl | assumption); exact rfl; exact rfl; exact rfl; (first | exact rfl | assumption))
    | (apply g_load_pts TY; exact rfl; (first | exact rfl | assumption); exact rfl; exact rfl; exact rfl; (first | assumption | exact rfl); exact rfl)
    | (apply g_eql; exact rfl; (first | exact rfl | assumption); exact rfl; exact rfl; exact rfl)
    | (apply g_neq; exact rfl; (first | exact rfl | assumption); exact rfl; exact rfl; exact rfl)
    | (apply g_move_o; exact rfl; (first | exact rfl | assumption); exact rfl; exact rfl)
    | (apply g_move_x; exact rfl; (first | exact rfl | assumption); exact rfl; exact rfl)
    | (apply g_assign_x; exact rfl; (first | exact rfl | assumption); exact rfl; exact rfl)
    | (apply g_assign_o; exact rfl; (first | exact rfl | assumption); exact rfl; exact rfl)
    | (apply g_load_bx_f TY; exact rfl; (first | exact rfl | assumption); exact rfl; exact rfl; exact rfl; exact rfl; exact rfl)
    | (apply g_load_bx_x TY; exact rfl; (first | exact rfl | assumption); exact rfl; exact rfl; exact rfl; exact rfl; exact rfl)
    | (apply g_load_bx_o TY; exact rfl; (first | exact rfl | assumption); exact rfl; exact rfl; exact rfl; exact rfl; exact rfl)
    | (apply g_load_bxs TY; exact rfl; (first | exact rfl | assumption); exact rfl; exact rfl; exact rfl; exact rfl; exact rfl; exact rfl)
    | (apply g_load_row TY; exact rfl; (first | exact rfl | assumption); exact rfl; exact rfl; exact rfl; exact rfl; (first | exact rfl | assumption))
    | (apply g_call (awake_s); exact rfl; (first | exact rfl | assumption); exact rfl; exact rfl; exact rfl; exact rfl)
    | (apply g_call (Few_s x); exact rfl; (first | exact rfl | assumption); exact rfl; exact rfl; exact rfl; exact rfl)
    | (apply g_call (CopyIce_s x (by omega) (by omega)); exact rfl; (first | exact rfl | assumption); exact rfl; exact rfl; exact rfl; exact rfl)
    | (apply g_call (CheckIce_s x ⟨by omega, by omega⟩); exact rfl; (first | exact rfl | assumption); exact rfl; exact rfl; exact rfl; exact rfl)
    | (apply g_call (LayerAt_s x c ⟨by omega, by omega⟩); exact rfl; (first | exact rfl | assumption); exact rfl; exact rfl; exact rfl; exact rfl)
    | (apply g_call (refCheckIce_s x); exact rfl; (first | exact rfl | assumption); exact rfl; exact rfl; exact rfl; exact rfl)
    | (apply g_call (CellErr_s x c v); exact rfl; (first | exact rfl | assumption); exact rfl; exact rfl; exact rfl; exact rfl)
    | (apply w_condT; exact rfl; (first | exact rfl | assumption))
    | (apply w_condF; exact rfl; (first | exact rfl | assumption)))
      exact lv_ret (ret1 rfl (res_tmp (avb (by rw [e]; simp))))
  · have e := layerAtE_bad (c := c) h
    have d1 : decide ((checkIce x).2 = 0) = false := by simpa using h
    have d2 : (!decide ((checkIce x).2 = 0)) = true := by simp [h]
    have d3 : decide ((layerAtE x c).2 = (checkIce x).2) = true := by rw [e]; simp
    repeat (first
    | (apply s_move_f; exact rfl; exact rfl)
    | (apply s_assign_f; exact rfl; exact rfl)
    | (apply s_load_pt TY; exact rfl; exact rfl; exact rfl; (first | exact rfl | assumption))
    | (apply s_load_pts TY; exact rfl; exact rfl; exact rfl; (first | assumption | exact rfl); exact rfl)
    | (apply s_extract; exact rfl; exact rfl; exact rfl)
    | (apply s_box; exact rfl; exact rfl; exact rfl)
    | (apply s_not; exact rfl; exact rfl)
    | (apply s_eql; exact rfl; exact rfl; exact rfl)
    | (apply s_neq; exact rfl; exact rfl; exact rfl)
    | (apply s_move_o; exact rfl; exact rfl)
    | (apply s_move_x; exact rfl; exact rfl)
    | (apply s_assign_x; exact rfl; exact rfl)
    | (apply s_assign_o; exact rfl; exact rfl)
    | (apply s_load_bx_f TY; exact rfl; exact rfl; exact rfl; exact rfl; exact rfl)
    | (apply s_load_bx_x TY; exact rfl; exact rfl; exact rfl; exact rfl; exact rfl)
    | (apply s_load_bx_o TY; exact rfl; exact rfl; exact rfl; exact rfl; exact rfl)
    | (apply s_load_bxs TY; exact rfl; exact rfl; exact rfl; exact rfl; exact rfl; exact rfl)
    | (apply s_load_row TY; exact rfl; exact rfl; exact rfl; exact rfl; (first | exact rfl | assumption))
    | (apply s_makefn; exact rfl; exact rfl)
    | (apply s_pickT; exact rfl; exact rfl; (first | exact rfl | assumption); exact rfl)
    | (apply s_pickF; exact rfl; exact rfl; (first | exact rfl | assumption); exact rfl)
    | apply w_seq
    | apply w_region
    | apply s_nil
    | apply t_norm
    | apply t_exit
    | apply t_ret
    | apply k_hit
    | (apply k_miss; exact rfl)
    | apply k_norm
    | apply k_ret
    | apply w_block
    | apply w_exit
    | apply w_ret
    | apply w_skip
    | (apply s_call (awake_s); exact rfl; exact rfl; exact rfl; exact rfl)
    | (apply s_call (Few_s x); exact rfl; exact rfl; exact rfl; exact rfl)
    | (apply s_call (CopyIce_s x (by omega) (by omega)); exact rfl; exact rfl; exact rfl; exact rfl)
    | (apply s_call (CheckIce_s x ⟨by omega, by omega⟩); exact rfl; exact rfl; exact rfl; exact rfl)
    | (apply s_call (LayerAt_s x c ⟨by omega, by omega⟩); exact rfl; exact rfl; exact rfl; exact rfl)
    | (apply s_call (refCheckIce_s x); exact rfl; exact rfl; exact rfl; exact rfl)
    | (apply g_skip; exact rfl; (first | exact rfl | assumption); exact rfl)
    | (apply g_move_f; exact rfl; (first | exact rfl | assumption); exact rfl; exact rfl)
    | (apply g_assign_f; exact rfl; (first | exact rfl | assumption); exact rfl; exact rfl)
    | (apply g_load_pt TY; exact rfl; (first | exact rfl | assumption); exact rfl; exact rfl; exact rfl; (first | exact rfl | assumption))
    | (apply g_load_pts TY; exact rfl; (first | exact rfl | assumption); exact rfl; exact rfl; exact rfl; (first | assumption | exact rfl); exact rfl)
    | (apply g_eql; exact rfl; (first | exact rfl | assumption); exact rfl; exact rfl; exact rfl)
    | (apply g_neq; exact rfl; (first | exact rfl | assumption); exact rfl; exact rfl; exact rfl)
    | (apply g_move_o; exact rfl; (first | exact rfl | assumption); exact rfl; exact rfl)
    | (apply g_move_x; exact rfl; (first | exact rfl | assumption); exact rfl; exact rfl)
    | (apply g_assign_x; exact rfl; (first | exact rfl | assumption); exact rfl; exact rfl)
    | (apply g_assign_o; exact rfl; (first | exact rfl | assumption); exact rfl; exact rfl)
    | (apply g_load_bx_f TY; exact rfl; (first | exact rfl | assumption); exact rfl; exact rfl; exact rfl; exact rfl; exact rfl)
    | (apply g_load_bx_x TY; exact rfl; (first | exact rfl | assumption); exact rfl; exact rfl; exact rfl; exact rfl; exact rfl)
    | (apply g_load_bx_o TY; exact rfl; (first | exact rfl | assumption); exact rfl; exact rfl; exact rfl; exact rfl; exact rfl)
    | (apply g_load_bxs TY; exact rfl; (first | exact rfl | assumption); exact rfl; exact rfl; exact rfl; exact rfl; exact rfl; exact rfl)
    | (apply g_load_row TY; exact rfl; (first | exact rfl | assumption); exact rfl; exact rfl; exact rfl; exact rfl; (first | exact rfl | assumption))
    | (apply g_call (awake_s); exact rfl; (first | exact rfl | assumption); exact rfl; exact rfl; exact rfl; exact rfl)
    | (apply g_call (Few_s x); exact rfl; (first | exact rfl | assumption); exact rfl; exact rfl; exact rfl; exact rfl)
    | (apply g_call (CopyIce_s x (by omega) (by omega)); exact rfl; (first | exact rfl | assumption); exact rfl; exact rfl; exact rfl; exact rfl)
    | (apply g_call (CheckIce_s x ⟨by omega, by omega⟩); exact rfl; (first | exact rfl | assumption); exact rfl; exact rfl; exact rfl; exact rfl)
    | (apply g_call (LayerAt_s x c ⟨by omega, by omega⟩); exact rfl; (first | exact rfl | assumption); exact rfl; exact rfl; exact rfl; exact rfl)
    | (apply g_call (refCheckIce_s x); exact rfl; (first | exact rfl | assumption); exact rfl; exact rfl; exact rfl; exact rfl)
    | (apply w_condT; exact rfl; (first | exact rfl | assumption))
    | (apply w_condF; exact rfl; (first | exact rfl | assumption)))
    apply w_draw 8 rfl (by kernel_rfl)
    repeat (first
    | (apply s_move_f; exact rfl; exact rfl)
    | (apply s_assign_f; exact rfl; exact rfl)
    | (apply s_load_pt TY; exact rfl; exact rfl; exact rfl; (first | exact rfl | assumption))
    | (apply s_load_pts TY; exact rfl; exact rfl; exact rfl; (first | assumption | exact rfl); exact rfl)
    | (apply s_extract; exact rfl; exact rfl; exact rfl)
    | (apply s_box; exact rfl; exact rfl; exact rfl)
    | (apply s_not; exact rfl; exact rfl)
    | (apply s_eql; exact rfl; exact rfl; exact rfl)
    | (apply s_neq; exact rfl; exact rfl; exact rfl)
    | (apply s_move_o; exact rfl; exact rfl)
    | (apply s_move_x; exact rfl; exact rfl)
    | (apply s_assign_x; exact rfl; exact rfl)
    | (apply s_assign_o; exact rfl; exact rfl)
    | (apply s_load_bx_f TY; exact rfl; exact rfl; exact rfl; exact rfl; exact rfl)
    | (apply s_load_bx_x TY; exact rfl; exact rfl; exact rfl; exact rfl; exact rfl)
    | (apply s_load_bx_o TY; exact rfl; exact rfl; exact rfl; exact rfl; exact rfl)
    | (apply s_load_bxs TY; exact rfl; exact rfl; exact rfl; exact rfl; exact rfl; exact rfl)
    | (apply s_load_row TY; exact rfl; exact rfl; exact rfl; exact rfl; (first | exact rfl | assumption))
    | (apply s_makefn; exact rfl; exact rfl)
    | (apply s_pickT; exact rfl; exact rfl; (first | exact rfl | assumption); exact rfl)
    | (apply s_pickF; exact rfl; exact rfl; (first | exact rfl | assumption); exact rfl)
    | apply w_seq
    | apply w_region
    | apply s_nil
    | apply t_norm
    | apply t_exit
    | apply t_ret
    | apply k_hit
    | (apply k_miss; exact rfl)
    | apply k_norm
    | apply k_ret
    | apply w_block
    | apply w_exit
    | apply w_ret
    | apply w_skip
    | (apply s_call (awake_s); exact rfl; exact rfl; exact rfl; exact rfl)
    | (apply s_call (Few_s x); exact rfl; exact rfl; exact rfl; exact rfl)
    | (apply s_call (CopyIce_s x (by omega) (by omega)); exact rfl; exact rfl; exact rfl; exact rfl)
    | (apply s_call (CheckIce_s x ⟨by omega, by omega⟩); exact rfl; exact rfl; exact rfl; exact rfl)
    | (apply s_call (LayerAt_s x c ⟨by omega, by omega⟩); exact rfl; exact rfl; exact rfl; exact rfl)
    | (apply s_call (refCheckIce_s x); exact rfl; exact rfl; exact rfl; exact rfl)
    | (apply g_skip; exact rfl; (first | exact rfl | assumption); exact rfl)
    | (apply g_move_f; exact rfl; (first | exact rfl | assumption); exact rfl; exact rfl)
    | (apply g_assign_f; exact rfl; (first | exact rfl | assumption); exact rfl; exact rfl)
    | (apply g_load_pt TY; exact rfl; (first | exact rfl | assumption); exact rfl; exact rfl; exact rfl; (first | exact rfl | assumption))
    | (apply g_load_pts TY; exact rfl; (first | exact rfl | assumption); exact rfl; exact rfl; exact rfl; (first | assumption | exact rfl); exact rfl)
    | (apply g_eql; exact rfl; (first | exact rfl | assumption); exact rfl; exact rfl; exact rfl)
    | (apply g_neq; exact rfl; (first | exact rfl | assumption); exact rfl; exact rfl; exact rfl)
    | (apply g_move_o; exact rfl; (first | exact rfl | assumption); exact rfl; exact rfl)
    | (apply g_move_x; exact rfl; (first | exact rfl | assumption); exact rfl; exact rfl)
    | (apply g_assign_x; exact rfl; (first | exact rfl | assumption); exact rfl; exact rfl)
    | (apply g_assign_o; exact rfl; (first | exact rfl | assumption); exact rfl; exact rfl)
    | (apply g_load_bx_f TY; exact rfl; (first | exact rfl | assumption); exact rfl; exact rfl; exact rfl; exact rfl; exact rfl)
    | (apply g_load_bx_x TY; exact rfl; (first | exact rfl | assumption); exact rfl; exact rfl; exact rfl; exact rfl; exact rfl)
    | (apply g_load_bx_o TY; exact rfl; (first | exact rfl | assumption); exact rfl; exact rfl; exact rfl; exact rfl; exact rfl)
    | (apply g_load_bxs TY; exact rfl; (first | exact rfl | assumption); exact rfl; exact rfl; exact rfl; exact rfl; exact rfl; exact rfl)
    | (apply g_load_row TY; exact rfl; (first | exact rfl | assumption); exact rfl; exact rfl; exact rfl; exact rfl; (first | exact rfl | assumption))
    | (apply g_call (awake_s); exact rfl; (first | exact rfl | assumption); exact rfl; exact rfl; exact rfl; exact rfl)
    | (apply g_call (Few_s x); exact rfl; (first | exact rfl | assumption); exact rfl; exact rfl; exact rfl; exact rfl)
    | (apply g_call (CopyIce_s x (by omega) (by omega)); exact rfl; (first | exact rfl | assumption); exact rfl; exact rfl; exact rfl; exact rfl)
    | (apply g_call (CheckIce_s x ⟨by omega, by omega⟩); exact rfl; (first | exact rfl | assumption); exact rfl; exact rfl; exact rfl; exact rfl)
    | (apply g_call (LayerAt_s x c ⟨by omega, by omega⟩); exact rfl; (first | exact rfl | assumption); exact rfl; exact rfl; exact rfl; exact rfl)
    | (apply g_call (refCheckIce_s x); exact rfl; (first | exact rfl | assumption); exact rfl; exact rfl; exact rfl; exact rfl)
    | (apply w_condT; exact rfl; (first | exact rfl | assumption))
    | (apply w_condF; exact rfl; (first | exact rfl | assumption)))
    exact lv_ret (ret1 rfl (res_tmp (avb (by rw [e]; simp))))
end Go.Proofs.YtienhiloecfgnaaDoor
namespace Go.Proofs.YtienhiloecfgnaaDoor.iceGrids
open Go Go.Ab Go.ChangeShapes Go.WideShapes Go.ChangeAt Go.RowKit
set_option maxRecDepth 100000 in
theorem lifted (os : Os) (started : os.Started) (H : Type) (enc : TypeId × Value → H) :
    ReturnsInHanded {} Tryd.checked os 5 .any (fun w args => (Rows.iceGridsSpec.pre enc Tryd.prog Tryd.f5 [] false w args ∧ laidMetH Tryd.prog laidL w) ∧ sizedMet enc Tryd.prog Tryd.f5 (OpenSpec.ofChange Rows.iceGridsSpec) false w args)
      (Rows.iceGridsSpec.post enc Tryd.prog Tryd.f5 false true false false) := by
  refine returnsInHanded_of_change_and (C := Tryd.checked) (X := fun w _ => laidMetH Tryd.prog laidL w) (fun _ _ _ hh h => h.of_heap hh) ownKnobT started (by kernel_rfl) Tryd.func5
    (ChangeSpec.witness_shaped (enc := enc) (C := Tryd.checked) (os := os) (X := fun w _ => laidMetH Tryd.prog laidL w) false (World.doorLaid Tryd.prog 400 os) #[.agg #[.slice none 0 0, .int .i64 0, .slice none 0 0], .agg #[.int .i64 0, .int .i64 0]] 8 rfl (World.shaped_of_RefB (by kernel_rfl) (by kernel_rfl)) (by kernel_rfl) (by kernel_rfl) (by kernel_rfl) (door_met os _)) ?_
  intro W base args ds gs before hval0 hW0 _ _ hL _
  have hval : ∀ (j : Nat) t v, Tryd.f5.params[j]? = some t → args[j]? = some v → Value.okWide Tryd.prog W .any base t v := hval0
  have hW : DataW.Whole enc Tryd.prog Tryd.f5.params.toList Rows.iceGridsSpec.vars false W args.toList ds gs before := hW0
  have hW' := hW
  obtain ⟨p, q, hA0, hV, rfl, hfz, hnd⟩ := hW
  have hA : DataW.TrodAll enc Tryd.prog W 0 (fun _ => true) true Tryd.f5.params.toList args.toList ds p := hA0
  rw [Tryd.params5] at hA hval
  obtain ⟨v0, vs0, d0, ds0, p0, q0, hargs, rfl, rfl, h0, r0⟩ := trodAll_cons hA
  obtain ⟨v1, vs1, d1, ds1, p1, q1, rfl, rfl, rfl, h1, r1⟩ := trodAll_cons r0
  obtain ⟨rfl, rfl, rfl⟩ := trodAll_nil r1
  obtain rfl : args = #[v0, v1] := by cases args; simp_all
  obtain ⟨rfl, rfl⟩ := trodVars_none hV
  obtain ⟨x0, g0⟩ := arg_st opens_grid Tryd.underlying25 (hval 0 25 v0 rfl rfl) h0
  obtain ⟨x1, g1⟩ := arg_st opens_cel Tryd.underlying27 (hval 1 27 v1 rfl rfl) h1
  refine (law_calls (IceGrids_s x0 x1) (args := #[v0, v1]) hL (RepL.cons g0 (RepL.cons g1 (RepL.nil _ _)))).mono fun e W' ⟨he, hb⟩ => ?_
  subst he
  have hp : Rows.iceGridsSpec.post enc Tryd.prog Tryd.f5 false true false false W #[v0, v1] (.bool true) W' := post_law hW' rfl (by kernel_rfl) (fun t ht => by
    rw [Tryd.params5] at ht
    have hm : t ∈ [25, 27] := by simpa using ht
    have hall : ([25, 27].all fun u => Tryd.prog.readableRec u && decide (u < Tryd.prog.types.size)) = true := by kernel_rfl
    have h2 := List.all_eq_true.1 hall t hm
    rw [Bool.and_eq_true, decide_eq_true_eq] at h2
    exact h2) rfl rfl rfl hb
  exact ⟨.bool true, rfl, hp⟩
theorem holds : Rows.IceGridsSaid :=
  OpenClaim.holds_of_wide 5 Tryd.f5 rfl rfl rfl rfl rfl rfl rfl ⟨rfl, rfl, rfl, rfl, rfl⟩ rfl rfl rfl rfl rfl (by kernel_rfl) Tryd.func5 (by kernel_rfl)
    (of_decide_eq_true (by kernel_rfl)) (by unfold Func.isWrapper; first | (rw [if_pos (by decide +kernel)]; kernel_rfl) | (rw [if_neg (by decide +kernel)]; exact ⟨rfl, rfl⟩))
    (fun os started H enc _ => lifted os started H enc)
theorem card_holds : Rows.IceGridsCardSaid :=
  Claim7.holds_tied_plain_at .later [] [.data] true (true, "8720faff1f76d97852de98676b3851767d0d17770b02382d2d65271149a7f855") false
    holds (fun _ h => by cases h) (by kernel_rfl) (fun _ h => by cases h) iceGrids_row_tie rfl ⟨rfl, rfl⟩ (by kernel_rfl) rfl
    (fun f fn hf hfn => by
      obtain rfl : f = 5 := Option.some.inj ((show Tryd.prog.funcNamed "cherenkov/cherenkovlaw03.IceGrids" = some 5 by kernel_rfl).symm.trans hf) |>.symm
      obtain rfl : fn = Tryd.f5 := (Option.some.inj (Tryd.func5.symm.trans hfn)).symm
      exact ⟨by kernel_rfl, fun j t ht => by
        rw [Tryd.params5] at ht
        have hm : t ∈ [25, 27] := by simpa using Array.mem_of_getElem? ht
        have hall : ([25, 27].all fun u => !Tryd.prog.wantsStandIn u) = true := by kernel_rfl
        exact (show Tryd.prog.wantsStandIn t = false by simpa using List.all_eq_true.1 hall t hm)⟩)
    (by kernel_rfl)
end Go.Proofs.YtienhiloecfgnaaDoor.iceGrids
