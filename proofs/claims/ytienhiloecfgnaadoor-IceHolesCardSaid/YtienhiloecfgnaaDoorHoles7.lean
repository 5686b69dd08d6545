/- Laws on which the proofs of this seat stand. No condition. -/
import Derived.Test.YtienhiloecfgnaaDoorHoles6
namespace Go.Proofs.YtienhiloecfgnaaDoor
open Go Go.RowKit Go.Proofs Go.Shelf Go.Ab
set_option maxRecDepth 100000 in
theorem Closes_s (h : Hole) (d : Int) (v : HoleV h) (h0 : 0 ≤ d) (h1 : d < h.widths.length) : Summ Tryd.prog GG 53 [holeF h, iv d] (iv (tickAt h d.toNat)) := by
  have hk : d.toNat < h.widths.length := by omega
  have hsl := v.len
  have hk2 : d.toNat < h.shrinks.length := by omega
  have a := v.all d.toNat hk
  have m1 := v.need1
  have m2 := v.need2
  have a1 : (intsF h.widths)[d.toNat * 1]? = some (iv h.widths[d.toNat]) := map_at hk
  have a2 : (intsF h.shrinks)[d.toNat * 1]? = some (iv h.shrinks[d.toNat]) := map_at hk2
  have n1 : intsF h.widths ≠ [] := map_ne hk
  have n2 : intsF h.shrinks ≠ [] := map_ne hk2
  refine summW Tryd.func53 rfl rfl 19 rfl (by simp) (fun M0 => ?_)
  repeat (first
    | (apply s_move_f; exact rfl; exact rfl)
    | (apply s_assign_f; exact rfl; exact rfl)
    | (apply s_fld_pt TY; exact rfl; exact rfl; exact rfl)
    | (apply s_load_pt TY; exact rfl; exact rfl; exact rfl; (first | exact rfl | assumption))
    | (apply s_load_pts TY; exact rfl; exact rfl; exact rfl; (first | assumption | exact rfl); exact rfl)
    | (apply s_box; exact rfl; exact rfl; exact rfl)
    | (apply s_move_o; exact rfl; exact rfl)
    | (apply s_move_x; exact rfl; exact rfl)
    | (apply s_assign_x; exact rfl; exact rfl)
    | (apply s_assign_o; exact rfl; exact rfl)
    | (apply s_fld_bx TY; exact rfl; exact rfl; exact rfl)
    | (apply s_load_bx_f TY; exact rfl; exact rfl; exact rfl; exact rfl; exact rfl)
    | (apply s_load_bx_x TY; exact rfl; exact rfl; exact rfl; exact rfl; exact rfl)
    | (apply s_load_bx_o TY; exact rfl; exact rfl; exact rfl; exact rfl; exact rfl)
    | (apply s_load_bxs TY; exact rfl; exact rfl; exact rfl; exact rfl; exact rfl; exact rfl)
    | (apply s_load_row TY; exact rfl; exact rfl; exact rfl; exact rfl; (first | exact rfl | assumption))
    | (apply s_makefn; exact rfl; exact rfl)
    | apply w_seq
    | apply w_region
    | apply s_nil
    | apply t_norm
    | apply t_exit
    | apply t_ret
    | apply k_hit
    | (apply k_miss; exact rfl)
    | apply k_norm
    | apply k_ret
    | apply w_block
    | apply w_exit
    | apply w_ret
    | apply w_skip
    | (apply s_sub; exact rfl; exact rfl; exact rfl; (omega))
    | (apply s_quo; exact rfl; exact rfl; exact rfl; (omega))
    | (apply s_idxN TY; exact rfl; exact rfl; exact rfl; exact rfl; assumption; assumption)
    | (apply s_idxN_ow TY; exact rfl; exact rfl; exact rfl; exact rfl; exact rfl; assumption)
    | (apply s_idx TY; exact rfl; exact rfl; exact rfl; exact rfl; omega; omega; assumption)
    | (apply w_condT; exact rfl; (first | exact rfl | assumption))
    | (apply w_condF; exact rfl; (first | exact rfl | assumption)))
  apply w_draw 13 rfl (by kernel_rfl)
  repeat (first
    | (apply s_move_f; exact rfl; exact rfl)
    | (apply s_assign_f; exact rfl; exact rfl)
    | (apply s_fld_pt TY; exact rfl; exact rfl; exact rfl)
    | (apply s_load_pt TY; exact rfl; exact rfl; exact rfl; (first | exact rfl | assumption))
    | (apply s_load_pts TY; exact rfl; exact rfl; exact rfl; (first | assumption | exact rfl); exact rfl)
    | (apply s_box; exact rfl; exact rfl; exact rfl)
    | (apply s_move_o; exact rfl; exact rfl)
    | (apply s_move_x; exact rfl; exact rfl)
    | (apply s_assign_x; exact rfl; exact rfl)
    | (apply s_assign_o; exact rfl; exact rfl)
    | (apply s_fld_bx TY; exact rfl; exact rfl; exact rfl)
    | (apply s_load_bx_f TY; exact rfl; exact rfl; exact rfl; exact rfl; exact rfl)
    | (apply s_load_bx_x TY; exact rfl; exact rfl; exact rfl; exact rfl; exact rfl)
    | (apply s_load_bx_o TY; exact rfl; exact rfl; exact rfl; exact rfl; exact rfl)
    | (apply s_load_bxs TY; exact rfl; exact rfl; exact rfl; exact rfl; exact rfl; exact rfl)
    | (apply s_load_row TY; exact rfl; exact rfl; exact rfl; exact rfl; (first | exact rfl | assumption))
    | (apply s_makefn; exact rfl; exact rfl)
    | apply w_seq
    | apply w_region
    | apply s_nil
    | apply t_norm
    | apply t_exit
    | apply t_ret
    | apply k_hit
    | (apply k_miss; exact rfl)
    | apply k_norm
    | apply k_ret
    | apply w_block
    | apply w_exit
    | apply w_ret
    | apply w_skip
    | (apply s_sub; exact rfl; exact rfl; exact rfl; (omega))
    | (apply s_quo; exact rfl; exact rfl; exact rfl; (omega))
    | (apply s_idxN TY; exact rfl; exact rfl; exact rfl; exact rfl; assumption; assumption)
    | (apply s_idxN_ow TY; exact rfl; exact rfl; exact rfl; exact rfl; exact rfl; assumption)
    | (apply s_idx TY; exact rfl; exact rfl; exact rfl; exact rfl; omega; omega; assumption)
    | (apply w_condT; exact rfl; (first | exact rfl | assumption))
    | (apply w_condF; exact rfl; (first | exact rfl | assumption)))
  exact lv_ret (ret1 rfl (res_tmp (avi (by unfold tickAt; rw [getD_at hk, getD_at hk2]))))
theorem Closes_k (h : Hole) (k : Nat) (v : HoleV h) (hk : k < h.widths.length) : Summ Tryd.prog GG 53 [holeF h, iv (k : Nat)] (iv (tickAt h k)) := Closes_s h (k : Nat) v (by omega) (by omega)
set_option maxRecDepth 100000 in
theorem Latest_s (h : Hole) (p : Int) (v : HoleV h) (p0 : 0 ≤ p) (p1 : p ≤ 1000000) : Summ Tryd.prog GG 54 [holeF h, iv p] (iv (latestTo h p h.widths.length)) := by
  have n20 := v.n20
  refine summW Tryd.func54 rfl rfl 24 rfl (by simp) (fun M0 => ?_)
  repeat (first
    | (apply s_move_f; exact rfl; exact rfl)
    | (apply s_assign_f; exact rfl; exact rfl)
    | (apply s_fld_pt TY; exact rfl; exact rfl; exact rfl)
    | (apply s_load_pt TY; exact rfl; exact rfl; exact rfl; (first | exact rfl | assumption))
    | (apply s_load_pts TY; exact rfl; exact rfl; exact rfl; (first | assumption | exact rfl); exact rfl)
    | (apply s_len TY; exact rfl; exact rfl; exact rfl)
    | (apply s_box; exact rfl; exact rfl; exact rfl)
    | (apply s_lss; exact rfl; exact rfl; exact rfl)
    | (apply s_move_o; exact rfl; exact rfl)
    | (apply s_move_x; exact rfl; exact rfl)
    | (apply s_assign_x; exact rfl; exact rfl)
    | (apply s_assign_o; exact rfl; exact rfl)
    | (apply s_fld_bx TY; exact rfl; exact rfl; exact rfl)
    | (apply s_load_bx_f TY; exact rfl; exact rfl; exact rfl; exact rfl; exact rfl)
    | (apply s_load_bx_x TY; exact rfl; exact rfl; exact rfl; exact rfl; exact rfl)
    | (apply s_load_bx_o TY; exact rfl; exact rfl; exact rfl; exact rfl; exact rfl)
    | (apply s_load_bxs TY; exact rfl; exact rfl; exact rfl; exact rfl; exact rfl; exact rfl)
    | (apply s_load_row TY; exact rfl; exact rfl; exact rfl; exact rfl; (first | exact rfl | assumption))
    | (apply s_len_nil TY; exact rfl; exact rfl; exact rfl)
    | (apply s_len_ow TY; exact rfl; exact rfl; exact rfl; exact rfl)
    | (apply s_len_str TY; exact rfl; exact rfl; exact rfl)
    | (apply s_min; exact rfl; exact rfl; exact rfl)
    | (apply s_makefn; exact rfl; exact rfl)
    | apply w_seq
    | apply w_region
    | apply s_nil
    | apply t_norm
    | apply t_exit
    | apply t_ret
    | apply k_hit
    | (apply k_miss; exact rfl)
    | apply k_norm
    | apply k_ret
    | apply w_block
    | apply w_exit
    | apply w_ret
    | apply w_skip
    | (apply s_add; exact rfl; exact rfl; exact rfl; (omega))
    | (apply s_sub; exact rfl; exact rfl; exact rfl; (omega))
    | (apply s_mul; exact rfl; exact rfl; exact rfl; (omega))
    | (apply w_condT; exact rfl; (first | exact rfl | assumption))
    | (apply w_condF; exact rfl; (first | exact rfl | assumption)))
  apply w_loop (fun k : Nat => ⟨(Ab.upd (Ab.upd (Ab.upd (Ab.upd (fun _ => .bot) 1 (.f (iv p))) 2 (.f (.pt (holeL h) 0))) 5 (.f (iv (latestTo h p k)))) 6 (.f (iv (k : Nat)))), (fun _ => none), 0⟩) (fun k => k ≤ h.widths.length) (fun k => h.widths.length - k) 0 (Nat.zero_le _) (gh_le ⟨le_upd rfl trivial (le_upd rfl trivial (le_upd rfl trivial (le_upd rfl trivial (le_nil _)))), le_h0 _ _⟩)
  intro k hk
  by_cases hkc : k < h.widths.length
  · have hcc : decide ((k : Int) < (h.widths.length : Int)) = true := decide_eq_true (by omega)
    have hcl := Closes_k h k v hkc
    have m : (k : Int) * p ≤ 20 * 1000000 := Int.mul_le_mul (by omega) p1 p0 (by omega)
    have m0 : 0 ≤ (k : Int) * p := Int.mul_nonneg (by omega) p0
    have t := tick_bd v hkc
    repeat (first
    | (apply s_move_f; exact rfl; exact rfl)
    | (apply s_assign_f; exact rfl; exact rfl)
    | (apply s_fld_pt TY; exact rfl; exact rfl; exact rfl)
    | (apply s_load_pt TY; exact rfl; exact rfl; exact rfl; (first | exact rfl | assumption))
    | (apply s_load_pts TY; exact rfl; exact rfl; exact rfl; (first | assumption | exact rfl); exact rfl)
    | (apply s_len TY; exact rfl; exact rfl; exact rfl)
    | (apply s_box; exact rfl; exact rfl; exact rfl)
    | (apply s_lss; exact rfl; exact rfl; exact rfl)
    | (apply s_move_o; exact rfl; exact rfl)
    | (apply s_move_x; exact rfl; exact rfl)
    | (apply s_assign_x; exact rfl; exact rfl)
    | (apply s_assign_o; exact rfl; exact rfl)
    | (apply s_fld_bx TY; exact rfl; exact rfl; exact rfl)
    | (apply s_load_bx_f TY; exact rfl; exact rfl; exact rfl; exact rfl; exact rfl)
    | (apply s_load_bx_x TY; exact rfl; exact rfl; exact rfl; exact rfl; exact rfl)
    | (apply s_load_bx_o TY; exact rfl; exact rfl; exact rfl; exact rfl; exact rfl)
    | (apply s_load_bxs TY; exact rfl; exact rfl; exact rfl; exact rfl; exact rfl; exact rfl)
    | (apply s_load_row TY; exact rfl; exact rfl; exact rfl; exact rfl; (first | exact rfl | assumption))
    | (apply s_len_nil TY; exact rfl; exact rfl; exact rfl)
    | (apply s_len_ow TY; exact rfl; exact rfl; exact rfl; exact rfl)
    | (apply s_len_str TY; exact rfl; exact rfl; exact rfl)
    | (apply s_min; exact rfl; exact rfl; exact rfl)
    | (apply s_makefn; exact rfl; exact rfl)
    | apply w_seq
    | apply w_region
    | apply s_nil
    | apply t_norm
    | apply t_exit
    | apply t_ret
    | apply k_hit
    | (apply k_miss; exact rfl)
    | apply k_norm
    | apply k_ret
    | apply w_block
    | apply w_exit
    | apply w_ret
    | apply w_skip
    | (apply s_call (hcl); exact rfl; exact rfl; exact rfl; exact rfl)
    | (apply s_add; exact rfl; exact rfl; exact rfl; (omega))
    | (apply s_sub; exact rfl; exact rfl; exact rfl; (omega))
    | (apply s_mul; exact rfl; exact rfl; exact rfl; (omega))
    | (apply w_condT; exact rfl; (first | exact rfl | assumption))
    | (apply w_condF; exact rfl; (first | exact rfl | assumption)))
    exact ⟨k + 1, by omega, by omega, gh_le ⟨le_upd rfl trivial (le_upd rfl trivial (le_upd rfl trivial (le_upd rfl trivial (le_nil _)))), le_h0 _ _⟩⟩
  have hcc : decide ((k : Int) < (h.widths.length : Int)) = false := decide_eq_false (by omega)
  have hke : k = h.widths.length := by omega
  subst hke
  repeat (first
    | (apply s_move_f; exact rfl; exact rfl)
    | (apply s_assign_f; exact rfl; exact rfl)
    | (apply s_fld_pt TY; exact rfl; exact rfl; exact rfl)
    | (apply s_load_pt TY; exact rfl; exact rfl; exact rfl; (first | exact rfl | assumption))
    | (apply s_load_pts TY; exact rfl; exact rfl; exact rfl; (first | assumption | exact rfl); exact rfl)
    | (apply s_len TY; exact rfl; exact rfl; exact rfl)
    | (apply s_box; exact rfl; exact rfl; exact rfl)
    | (apply s_lss; exact rfl; exact rfl; exact rfl)
    | (apply s_move_o; exact rfl; exact rfl)
    | (apply s_move_x; exact rfl; exact rfl)
    | (apply s_assign_x; exact rfl; exact rfl)
    | (apply s_assign_o; exact rfl; exact rfl)
    | (apply s_fld_bx TY; exact rfl; exact rfl; exact rfl)
    | (apply s_load_bx_f TY; exact rfl; exact rfl; exact rfl; exact rfl; exact rfl)
    | (apply s_load_bx_x TY; exact rfl; exact rfl; exact rfl; exact rfl; exact rfl)
    | (apply s_load_bx_o TY; exact rfl; exact rfl; exact rfl; exact rfl; exact rfl)
    | (apply s_load_bxs TY; exact rfl; exact rfl; exact rfl; exact rfl; exact rfl; exact rfl)
    | (apply s_load_row TY; exact rfl; exact rfl; exact rfl; exact rfl; (first | exact rfl | assumption))
    | (apply s_len_nil TY; exact rfl; exact rfl; exact rfl)
    | (apply s_len_ow TY; exact rfl; exact rfl; exact rfl; exact rfl)
    | (apply s_len_str TY; exact rfl; exact rfl; exact rfl)
    | (apply s_min; exact rfl; exact rfl; exact rfl)
    | (apply s_makefn; exact rfl; exact rfl)
    | apply w_seq
    | apply w_region
    | apply s_nil
    | apply t_norm
    | apply t_exit
    | apply t_ret
    | apply k_hit
    | (apply k_miss; exact rfl)
    | apply k_norm
    | apply k_ret
    | apply w_block
    | apply w_exit
    | apply w_ret
    | apply w_skip
    | (apply s_add; exact rfl; exact rfl; exact rfl; (omega))
    | (apply s_sub; exact rfl; exact rfl; exact rfl; (omega))
    | (apply s_mul; exact rfl; exact rfl; exact rfl; (omega))
    | (apply w_condT; exact rfl; (first | exact rfl | assumption))
    | (apply w_condF; exact rfl; (first | exact rfl | assumption)))
  exact lv_ret (ret1 rfl (res_tmp rfl))
set_option maxRecDepth 100000 in
theorem GetsDown_s (h : Hole) (s : Int) (v : HoleV h) (p0 : 0 ≤ s) (p1 : s ≤ 1000000) : Summ Tryd.prog GG 115 [holeF h, iv s, iv 0] (bv (!slowBad h s)) := by
  have n20 := v.n20
  refine summW Tryd.func115 rfl rfl 24 rfl (by simp) (fun M0 => ?_)
  repeat (first
    | (apply s_move_f; exact rfl; exact rfl)
    | (apply s_assign_f; exact rfl; exact rfl)
    | (apply s_fld_pt TY; exact rfl; exact rfl; exact rfl)
    | (apply s_load_pt TY; exact rfl; exact rfl; exact rfl; (first | exact rfl | assumption))
    | (apply s_load_pts TY; exact rfl; exact rfl; exact rfl; (first | assumption | exact rfl); exact rfl)
    | (apply s_len TY; exact rfl; exact rfl; exact rfl)
    | (apply s_box; exact rfl; exact rfl; exact rfl)
    | (apply s_lss; exact rfl; exact rfl; exact rfl)
    | (apply s_gtr; exact rfl; exact rfl; exact rfl)
    | (apply s_move_o; exact rfl; exact rfl)
    | (apply s_move_x; exact rfl; exact rfl)
    | (apply s_assign_x; exact rfl; exact rfl)
    | (apply s_assign_o; exact rfl; exact rfl)
    | (apply s_fld_bx TY; exact rfl; exact rfl; exact rfl)
    | (apply s_load_bx_f TY; exact rfl; exact rfl; exact rfl; exact rfl; exact rfl)
    | (apply s_load_bx_x TY; exact rfl; exact rfl; exact rfl; exact rfl; exact rfl)
    | (apply s_load_bx_o TY; exact rfl; exact rfl; exact rfl; exact rfl; exact rfl)
    | (apply s_load_bxs TY; exact rfl; exact rfl; exact rfl; exact rfl; exact rfl; exact rfl)
    | (apply s_load_row TY; exact rfl; exact rfl; exact rfl; exact rfl; (first | exact rfl | assumption))
    | (apply s_len_nil TY; exact rfl; exact rfl; exact rfl)
    | (apply s_len_ow TY; exact rfl; exact rfl; exact rfl; exact rfl)
    | (apply s_len_str TY; exact rfl; exact rfl; exact rfl)
    | (apply s_makefn; exact rfl; exact rfl)
    | apply w_seq
    | apply w_region
    | apply s_nil
    | apply t_norm
    | apply t_exit
    | apply t_ret
    | apply k_hit
    | (apply k_miss; exact rfl)
    | apply k_norm
    | apply k_ret
    | apply w_block
    | apply w_exit
    | apply w_ret
    | apply w_skip
    | (apply s_add; exact rfl; exact rfl; exact rfl; (omega))
    | (apply s_mul; exact rfl; exact rfl; exact rfl; (omega))
    | (apply w_condT; exact rfl; (first | exact rfl | assumption))
    | (apply w_condF; exact rfl; (first | exact rfl | assumption)))
  apply w_loop (fun k : Nat => ⟨(Ab.upd (Ab.upd (Ab.upd (Ab.upd (fun _ => .bot) 1 (.f (iv s))) 2 (.f (iv 0))) 3 (.f (.pt (holeL h) 0))) 7 (.f (iv (k : Nat)))), (fun _ => none), 0⟩) (fun k => k ≤ h.widths.length ∧ ∀ j : Nat, j < k → s ≤ tickAt h j) (fun k => h.widths.length - k) 0 ⟨Nat.zero_le _, fun j hj => absurd hj (Nat.not_lt_zero j)⟩ (gh_le ⟨le_upd rfl trivial (le_upd rfl trivial (le_upd rfl trivial (le_upd rfl trivial (le_nil _)))), le_h0 _ _⟩)
  intro k ⟨hk, hall⟩
  by_cases hkc : k < h.widths.length
  · have hcc : decide ((k : Int) < (h.widths.length : Int)) = true := decide_eq_true (by omega)
    have hcl := Closes_k h k v hkc
    have t := tick_bd v hkc
    by_cases hn : tickAt h k < s
    · have g : decide (tickAt h k < s + (k : Int) * 0) = true := decide_eq_true (by omega)
      repeat (first
    | (apply s_move_f; exact rfl; exact rfl)
    | (apply s_assign_f; exact rfl; exact rfl)
    | (apply s_fld_pt TY; exact rfl; exact rfl; exact rfl)
    | (apply s_load_pt TY; exact rfl; exact rfl; exact rfl; (first | exact rfl | assumption))
    | (apply s_load_pts TY; exact rfl; exact rfl; exact rfl; (first | assumption | exact rfl); exact rfl)
    | (apply s_len TY; exact rfl; exact rfl; exact rfl)
    | (apply s_box; exact rfl; exact rfl; exact rfl)
    | (apply s_lss; exact rfl; exact rfl; exact rfl)
    | (apply s_gtr; exact rfl; exact rfl; exact rfl)
    | (apply s_move_o; exact rfl; exact rfl)
    | (apply s_move_x; exact rfl; exact rfl)
    | (apply s_assign_x; exact rfl; exact rfl)
    | (apply s_assign_o; exact rfl; exact rfl)
    | (apply s_fld_bx TY; exact rfl; exact rfl; exact rfl)
    | (apply s_load_bx_f TY; exact rfl; exact rfl; exact rfl; exact rfl; exact rfl)
    | (apply s_load_bx_x TY; exact rfl; exact rfl; exact rfl; exact rfl; exact rfl)
    | (apply s_load_bx_o TY; exact rfl; exact rfl; exact rfl; exact rfl; exact rfl)
    | (apply s_load_bxs TY; exact rfl; exact rfl; exact rfl; exact rfl; exact rfl; exact rfl)
    | (apply s_load_row TY; exact rfl; exact rfl; exact rfl; exact rfl; (first | exact rfl | assumption))
    | (apply s_len_nil TY; exact rfl; exact rfl; exact rfl)
    | (apply s_len_ow TY; exact rfl; exact rfl; exact rfl; exact rfl)
    | (apply s_len_str TY; exact rfl; exact rfl; exact rfl)
    | (apply s_makefn; exact rfl; exact rfl)
    | apply w_seq
    | apply w_region
    | apply s_nil
    | apply t_norm
    | apply t_exit
    | apply t_ret
    | apply k_hit
    | (apply k_miss; exact rfl)
    | apply k_norm
    | apply k_ret
    | apply w_block
    | apply w_exit
    | apply w_ret
    | apply w_skip
    | (apply s_call (hcl); exact rfl; exact rfl; exact rfl; exact rfl)
    | (apply s_add; exact rfl; exact rfl; exact rfl; (omega))
    | (apply s_mul; exact rfl; exact rfl; exact rfl; (omega))
    | (apply w_condT; exact rfl; (first | exact rfl | assumption))
    | (apply w_condF; exact rfl; (first | exact rfl | assumption)))
      exact lv_ret (ret1 rfl (res_tmp (avb (by
        cases hb : slowBad h s with
        | true => rfl
        | false => have := slowBad_false.1 hb k hkc; omega))))
    · have g : decide (tickAt h k < s + (k : Int) * 0) = false := decide_eq_false (by omega)
      repeat (first
    | (apply s_move_f; exact rfl; exact rfl)
    | (apply s_assign_f; exact rfl; exact rfl)
    | (apply s_fld_pt TY; exact rfl; exact rfl; exact rfl)
    | (apply s_load_pt TY; exact rfl; exact rfl; exact rfl; (first | exact rfl | assumption))
    | (apply s_load_pts TY; exact rfl; exact rfl; exact rfl; (first | assumption | exact rfl); exact rfl)
    | (apply s_len TY; exact rfl; exact rfl; exact rfl)
    | (apply s_box; exact rfl; exact rfl; exact rfl)
    | (apply s_lss; exact rfl; exact rfl; exact rfl)
    | (apply s_gtr; exact rfl; exact rfl; exact rfl)
    | (apply s_move_o; exact rfl; exact rfl)
    | (apply s_move_x; exact rfl; exact rfl)
    | (apply s_assign_x; exact rfl; exact rfl)
    | (apply s_assign_o; exact rfl; exact rfl)
    | (apply s_fld_bx TY; exact rfl; exact rfl; exact rfl)
    | (apply s_load_bx_f TY; exact rfl; exact rfl; exact rfl; exact rfl; exact rfl)
    | (apply s_load_bx_x TY; exact rfl; exact rfl; exact rfl; exact rfl; exact rfl)
    | (apply s_load_bx_o TY; exact rfl; exact rfl; exact rfl; exact rfl; exact rfl)
    | (apply s_load_bxs TY; exact rfl; exact rfl; exact rfl; exact rfl; exact rfl; exact rfl)
    | (apply s_load_row TY; exact rfl; exact rfl; exact rfl; exact rfl; (first | exact rfl | assumption))
    | (apply s_len_nil TY; exact rfl; exact rfl; exact rfl)
    | (apply s_len_ow TY; exact rfl; exact rfl; exact rfl; exact rfl)
    | (apply s_len_str TY; exact rfl; exact rfl; exact rfl)
    | (apply s_makefn; exact rfl; exact rfl)
    | apply w_seq
    | apply w_region
    | apply s_nil
    | apply t_norm
    | apply t_exit
    | apply t_ret
    | apply k_hit
    | (apply k_miss; exact rfl)
    | apply k_norm
    | apply k_ret
    | apply w_block
    | apply w_exit
    | apply w_ret
    | apply w_skip
    | (apply s_call (hcl); exact rfl; exact rfl; exact rfl; exact rfl)
    | (apply s_add; exact rfl; exact rfl; exact rfl; (omega))
    | (apply s_mul; exact rfl; exact rfl; exact rfl; (omega))
    | (apply w_condT; exact rfl; (first | exact rfl | assumption))
    | (apply w_condF; exact rfl; (first | exact rfl | assumption)))
      refine ⟨k + 1, ⟨by omega, fun j hj => ?_⟩, by omega, gh_le ⟨le_upd rfl trivial (le_upd rfl trivial (le_upd rfl trivial (le_upd rfl trivial (le_nil _)))), le_h0 _ _⟩⟩
      by_cases hjk : j < k
      · exact hall j hjk
      · have : j = k := by omega
        subst this; omega
  have hcc : decide ((k : Int) < (h.widths.length : Int)) = false := decide_eq_false (by omega)
  repeat (first
    | (apply s_move_f; exact rfl; exact rfl)
    | (apply s_assign_f; exact rfl; exact rfl)
    | (apply s_fld_pt TY; exact rfl; exact rfl; exact rfl)
    | (apply s_load_pt TY; exact rfl; exact rfl; exact rfl; (first | exact rfl | assumption))
    | (apply s_load_pts TY; exact rfl; exact rfl; exact rfl; (first | assumption | exact rfl); exact rfl)
    | (apply s_len TY; exact rfl; exact rfl; exact rfl)
    | (apply s_box; exact rfl; exact rfl; exact rfl)
    | (apply s_lss; exact rfl; exact rfl; exact rfl)
    | (apply s_gtr; exact rfl; exact rfl; exact rfl)
    | (apply s_move_o; exact rfl; exact rfl)
    | (apply s_move_x; exact rfl; exact rfl)
    | (apply s_assign_x; exact rfl; exact rfl)
    | (apply s_assign_o; exact rfl; exact rfl)
    | (apply s_fld_bx TY; exact rfl; exact rfl; exact rfl)
    | (apply s_load_bx_f TY; exact rfl; exact rfl; exact rfl; exact rfl; exact rfl)
    | (apply s_load_bx_x TY; exact rfl; exact rfl; exact rfl; exact rfl; exact rfl)
    | (apply s_load_bx_o TY; exact rfl; exact rfl; exact rfl; exact rfl; exact rfl)
    | (apply s_load_bxs TY; exact rfl; exact rfl; exact rfl; exact rfl; exact rfl; exact rfl)
    | (apply s_load_row TY; exact rfl; exact rfl; exact rfl; exact rfl; (first | exact rfl | assumption))
    | (apply s_len_nil TY; exact rfl; exact rfl; exact rfl)
    | (apply s_len_ow TY; exact rfl; exact rfl; exact rfl; exact rfl)
    | (apply s_len_str TY; exact rfl; exact rfl; exact rfl)
    | (apply s_makefn; exact rfl; exact rfl)
    | apply w_seq
    | apply w_region
    | apply s_nil
    | apply t_norm
    | apply t_exit
    | apply t_ret
    | apply k_hit
    | (apply k_miss; exact rfl)
    | apply k_norm
    | apply k_ret
    | apply w_block
    | apply w_exit
    | apply w_ret
    | apply w_skip
    | (apply s_add; exact rfl; exact rfl; exact rfl; (omega))
    | (apply s_mul; exact rfl; exact rfl; exact rfl; (omega))
    | (apply w_condT; exact rfl; (first | exact rfl | assumption))
    | (apply w_condF; exact rfl; (first | exact rfl | assumption)))
  exact lv_ret (ret1 rfl (res_tmp (avb (by rw [slowBad_false.2 fun j hj => hall j (by omega)]; rfl))))
def slowI (h : Hole) (s : Int) : Int := if slowBad h s = true then -1 else paceTo h s h.widths.length
set_option maxRecDepth 100000 in
theorem Slowest_s (h : Hole) (s : Int) (v : HoleV h) (p0 : 0 ≤ s) (p1 : s ≤ 1000000) : Summ Tryd.prog GG 55 [holeF h, iv s] (iv (slowI h s)) := by
  have n20 := v.n20
  have n1 := v.n1
  have GD := GetsDown_s h s v p0 p1
  refine summW Tryd.func55 rfl rfl 28 rfl (by simp) (fun M0 => ?_)
  cases hb : slowBad h s with
  | true =>
    have g : (!!slowBad h s) = true := by rw [hb]; rfl
    repeat (first
    | (apply s_move_f; exact rfl; exact rfl)
    | (apply s_assign_f; exact rfl; exact rfl)
    | (apply s_fld_pt TY; exact rfl; exact rfl; exact rfl)
    | (apply s_load_pt TY; exact rfl; exact rfl; exact rfl; (first | exact rfl | assumption))
    | (apply s_load_pts TY; exact rfl; exact rfl; exact rfl; (first | assumption | exact rfl); exact rfl)
    | (apply s_len TY; exact rfl; exact rfl; exact rfl)
    | (apply s_box; exact rfl; exact rfl; exact rfl)
    | (apply s_not; exact rfl; exact rfl)
    | (apply s_lss; exact rfl; exact rfl; exact rfl)
    | (apply s_move_o; exact rfl; exact rfl)
    | (apply s_move_x; exact rfl; exact rfl)
    | (apply s_assign_x; exact rfl; exact rfl)
    | (apply s_assign_o; exact rfl; exact rfl)
    | (apply s_fld_bx TY; exact rfl; exact rfl; exact rfl)
    | (apply s_load_bx_f TY; exact rfl; exact rfl; exact rfl; exact rfl; exact rfl)
    | (apply s_load_bx_x TY; exact rfl; exact rfl; exact rfl; exact rfl; exact rfl)
    | (apply s_load_bx_o TY; exact rfl; exact rfl; exact rfl; exact rfl; exact rfl)
    | (apply s_load_bxs TY; exact rfl; exact rfl; exact rfl; exact rfl; exact rfl; exact rfl)
    | (apply s_load_row TY; exact rfl; exact rfl; exact rfl; exact rfl; (first | exact rfl | assumption))
    | (apply s_len_nil TY; exact rfl; exact rfl; exact rfl)
    | (apply s_len_ow TY; exact rfl; exact rfl; exact rfl; exact rfl)
    | (apply s_len_str TY; exact rfl; exact rfl; exact rfl)
    | (apply s_min; exact rfl; exact rfl; exact rfl)
    | (apply s_makefn; exact rfl; exact rfl)
    | apply w_seq
    | apply w_region
    | apply s_nil
    | apply t_norm
    | apply t_exit
    | apply t_ret
    | apply k_hit
    | (apply k_miss; exact rfl)
    | apply k_norm
    | apply k_ret
    | apply w_block
    | apply w_exit
    | apply w_ret
    | apply w_skip
    | (apply s_call (GD); exact rfl; exact rfl; exact rfl; exact rfl)
    | (apply s_add; exact rfl; exact rfl; exact rfl; (omega))
    | (apply s_sub; exact rfl; exact rfl; exact rfl; (omega))
    | (apply s_quo; exact rfl; exact rfl; exact rfl; (omega))
    | (apply w_condT; exact rfl; (first | exact rfl | assumption))
    | (apply w_condF; exact rfl; (first | exact rfl | assumption)))
    exact lv_ret (ret1 rfl (res_tmp (avi (by unfold slowI; rw [if_pos hb]))))
  | false =>
  have g : (!!slowBad h s) = false := by rw [hb]; rfl
  have hall := slowBad_false.1 hb
  repeat (first
    | (apply s_move_f; exact rfl; exact rfl)
    | (apply s_assign_f; exact rfl; exact rfl)
    | (apply s_fld_pt TY; exact rfl; exact rfl; exact rfl)
    | (apply s_load_pt TY; exact rfl; exact rfl; exact rfl; (first | exact rfl | assumption))
    | (apply s_load_pts TY; exact rfl; exact rfl; exact rfl; (first | assumption | exact rfl); exact rfl)
    | (apply s_len TY; exact rfl; exact rfl; exact rfl)
    | (apply s_box; exact rfl; exact rfl; exact rfl)
    | (apply s_not; exact rfl; exact rfl)
    | (apply s_lss; exact rfl; exact rfl; exact rfl)
    | (apply s_move_o; exact rfl; exact rfl)
    | (apply s_move_x; exact rfl; exact rfl)
    | (apply s_assign_x; exact rfl; exact rfl)
    | (apply s_assign_o; exact rfl; exact rfl)
    | (apply s_fld_bx TY; exact rfl; exact rfl; exact rfl)
    | (apply s_load_bx_f TY; exact rfl; exact rfl; exact rfl; exact rfl; exact rfl)
    | (apply s_load_bx_x TY; exact rfl; exact rfl; exact rfl; exact rfl; exact rfl)
    | (apply s_load_bx_o TY; exact rfl; exact rfl; exact rfl; exact rfl; exact rfl)
    | (apply s_load_bxs TY; exact rfl; exact rfl; exact rfl; exact rfl; exact rfl; exact rfl)
    | (apply s_load_row TY; exact rfl; exact rfl; exact rfl; exact rfl; (first | exact rfl | assumption))
    | (apply s_len_nil TY; exact rfl; exact rfl; exact rfl)
    | (apply s_len_ow TY; exact rfl; exact rfl; exact rfl; exact rfl)
    | (apply s_len_str TY; exact rfl; exact rfl; exact rfl)
    | (apply s_min; exact rfl; exact rfl; exact rfl)
    | (apply s_makefn; exact rfl; exact rfl)
    | apply w_seq
    | apply w_region
    | apply s_nil
    | apply t_norm
    | apply t_exit
    | apply t_ret
    | apply k_hit
    | (apply k_miss; exact rfl)
    | apply k_norm
    | apply k_ret
    | apply w_block
    | apply w_exit
    | apply w_ret
    | apply w_skip
    | (apply s_call (GD); exact rfl; exact rfl; exact rfl; exact rfl)
    | (apply s_add; exact rfl; exact rfl; exact rfl; (omega))
    | (apply s_sub; exact rfl; exact rfl; exact rfl; (omega))
    | (apply s_quo; exact rfl; exact rfl; exact rfl; (omega))
    | (apply w_condT; exact rfl; (first | exact rfl | assumption))
    | (apply w_condF; exact rfl; (first | exact rfl | assumption)))
  apply w_loop (fun k : Nat => ⟨(Ab.upd (Ab.upd (Ab.upd (Ab.upd (fun _ => .bot) 1 (.f (iv s))) 2 (.f (.pt (holeL h) 0))) 5 (.f (iv (paceTo h s k)))) 6 (.f (iv (k : Nat)))), (fun _ => none), 0⟩) (fun k => 1 ≤ k ∧ k ≤ h.widths.length) (fun k => h.widths.length - k) 1 ⟨Nat.le_refl _, n1⟩ (gh_le ⟨le_upd rfl trivial (le_upd rfl trivial (le_upd rfl trivial (le_upd rfl trivial (le_nil _)))), le_h0 _ _⟩)
  intro k ⟨hk1, hk⟩
  by_cases hkc : k < h.widths.length
  · have hcc : decide ((k : Int) < (h.widths.length : Int)) = true := decide_eq_true (by omega)
    have hcl := Closes_k h k v hkc
    have t := tick_bd v hkc
    have ta := hall k hkc
    have e : paceTo h s (k + 1) = min (paceTo h s k) ((tickAt h k - s) / (k : Int)) := by rw [paceTo, if_neg (by omega)]
    repeat (first
    | (apply s_move_f; exact rfl; exact rfl)
    | (apply s_assign_f; exact rfl; exact rfl)
    | (apply s_fld_pt TY; exact rfl; exact rfl; exact rfl)
    | (apply s_load_pt TY; exact rfl; exact rfl; exact rfl; (first | exact rfl | assumption))
    | (apply s_load_pts TY; exact rfl; exact rfl; exact rfl; (first | assumption | exact rfl); exact rfl)
    | (apply s_len TY; exact rfl; exact rfl; exact rfl)
    | (apply s_box; exact rfl; exact rfl; exact rfl)
    | (apply s_not; exact rfl; exact rfl)
    | (apply s_lss; exact rfl; exact rfl; exact rfl)
    | (apply s_move_o; exact rfl; exact rfl)
    | (apply s_move_x; exact rfl; exact rfl)
    | (apply s_assign_x; exact rfl; exact rfl)
    | (apply s_assign_o; exact rfl; exact rfl)
    | (apply s_fld_bx TY; exact rfl; exact rfl; exact rfl)
    | (apply s_load_bx_f TY; exact rfl; exact rfl; exact rfl; exact rfl; exact rfl)
    | (apply s_load_bx_x TY; exact rfl; exact rfl; exact rfl; exact rfl; exact rfl)
    | (apply s_load_bx_o TY; exact rfl; exact rfl; exact rfl; exact rfl; exact rfl)
    | (apply s_load_bxs TY; exact rfl; exact rfl; exact rfl; exact rfl; exact rfl; exact rfl)
    | (apply s_load_row TY; exact rfl; exact rfl; exact rfl; exact rfl; (first | exact rfl | assumption))
    | (apply s_len_nil TY; exact rfl; exact rfl; exact rfl)
    | (apply s_len_ow TY; exact rfl; exact rfl; exact rfl; exact rfl)
    | (apply s_len_str TY; exact rfl; exact rfl; exact rfl)
    | (apply s_min; exact rfl; exact rfl; exact rfl)
    | (apply s_makefn; exact rfl; exact rfl)
    | apply w_seq
    | apply w_region
    | apply s_nil
    | apply t_norm
    | apply t_exit
    | apply t_ret
    | apply k_hit
    | (apply k_miss; exact rfl)
    | apply k_norm
    | apply k_ret
    | apply w_block
    | apply w_exit
    | apply w_ret
    | apply w_skip
    | (apply s_call (hcl); exact rfl; exact rfl; exact rfl; exact rfl)
    | (apply s_add; exact rfl; exact rfl; exact rfl; (omega))
    | (apply s_sub; exact rfl; exact rfl; exact rfl; (omega))
    | (apply s_quo; exact rfl; exact rfl; exact rfl; (omega))
    | (apply w_condT; exact rfl; (first | exact rfl | assumption))
    | (apply w_condF; exact rfl; (first | exact rfl | assumption)))
    exact ⟨k + 1, by omega, by omega, gh_le ⟨le_upd rfl trivial (le_upd (avi e) trivial (le_upd rfl trivial (le_upd rfl trivial (le_nil _)))), le_h0 _ _⟩⟩
  have hcc : decide ((k : Int) < (h.widths.length : Int)) = false := decide_eq_false (by omega)
  have hke : k = h.widths.length := by omega
  subst hke
  repeat (first
    | (apply s_move_f; exact rfl; exact rfl)
    | (apply s_assign_f; exact rfl; exact rfl)
    | (apply s_fld_pt TY; exact rfl; exact rfl; exact rfl)
    | (apply s_load_pt TY; exact rfl; exact rfl; exact rfl; (first | exact rfl | assumption))
    | (apply s_load_pts TY; exact rfl; exact rfl; exact rfl; (first | assumption | exact rfl); exact rfl)
    | (apply s_len TY; exact rfl; exact rfl; exact rfl)
    | (apply s_box; exact rfl; exact rfl; exact rfl)
    | (apply s_not; exact rfl; exact rfl)
    | (apply s_lss; exact rfl; exact rfl; exact rfl)
    | (apply s_move_o; exact rfl; exact rfl)
    | (apply s_move_x; exact rfl; exact rfl)
    | (apply s_assign_x; exact rfl; exact rfl)
    | (apply s_assign_o; exact rfl; exact rfl)
    | (apply s_fld_bx TY; exact rfl; exact rfl; exact rfl)
    | (apply s_load_bx_f TY; exact rfl; exact rfl; exact rfl; exact rfl; exact rfl)
    | (apply s_load_bx_x TY; exact rfl; exact rfl; exact rfl; exact rfl; exact rfl)
    | (apply s_load_bx_o TY; exact rfl; exact rfl; exact rfl; exact rfl; exact rfl)
    | (apply s_load_bxs TY; exact rfl; exact rfl; exact rfl; exact rfl; exact rfl; exact rfl)
    | (apply s_load_row TY; exact rfl; exact rfl; exact rfl; exact rfl; (first | exact rfl | assumption))
    | (apply s_len_nil TY; exact rfl; exact rfl; exact rfl)
    | (apply s_len_ow TY; exact rfl; exact rfl; exact rfl; exact rfl)
    | (apply s_len_str TY; exact rfl; exact rfl; exact rfl)
    | (apply s_min; exact rfl; exact rfl; exact rfl)
    | (apply s_makefn; exact rfl; exact rfl)
    | apply w_seq
    | apply w_region
    | apply s_nil
    | apply t_norm
    | apply t_exit
    | apply t_ret
    | apply k_hit
    | (apply k_miss; exact rfl)
    | apply k_norm
    | apply k_ret
    | apply w_block
    | apply w_exit
    | apply w_ret
    | apply w_skip
    | (apply s_add; exact rfl; exact rfl; exact rfl; (omega))
    | (apply s_sub; exact rfl; exact rfl; exact rfl; (omega))
    | (apply s_quo; exact rfl; exact rfl; exact rfl; (omega))
    | (apply w_condT; exact rfl; (first | exact rfl | assumption))
    | (apply w_condF; exact rfl; (first | exact rfl | assumption)))
  exact lv_ret (ret1 rfl (res_tmp (avi (by unfold slowI; rw [hb]; rfl))))
theorem hole_err {h : Hole} (e : (checkHole h).2 ≠ 0) (d n : Int) : closesR h d = (0, (checkHole h).2) ∧ latestR h n = (0, (checkHole h).2) ∧ slowR h n = (0, (checkHole h).2) := by
  have e1 : closesE h d = (checkHole h).2 := by unfold closesE; rw [firstE_two, holeErrE, if_neg e]
  have e2 : startE h n = (checkHole h).2 := by unfold startE; rw [firstE_two, holeErrE, if_neg e]
  have b : ((checkHole h).2 != 0) = true := by simpa using e
  refine ⟨?_, ?_, ?_⟩
  · unfold closesR; rw [e1, if_pos b]
  · unfold latestR; rw [e2, if_pos b]
  · unfold slowR; rw [e2, if_pos b]
theorem closes_bad {h : Hole} (v : HoleV h) {d : Int} (w : withinB d 0 ((h.widths.length : Int) - 1) = false) : closesR h d = (0, 6) := by
  have e1 : closesE h d = 6 := by unfold closesE; rw [firstE_two, checkHole_ok.2 v, if_pos rfl, w]; rfl
  unfold closesR; rw [e1]; rfl
theorem start_bad {h : Hole} (v : HoleV h) {n : Int} (w : withinB n 0 1000000 = false) : latestR h n = (0, 2) ∧ slowR h n = (0, 2) := by
  have e1 : startE h n = 2 := by unfold startE; rw [firstE_two, checkHole_ok.2 v, if_pos rfl, w]; rfl
  refine ⟨?_, ?_⟩
  · unfold latestR; rw [e1]; rfl
  · unfold slowR; rw [e1]; rfl
theorem clo_cases {h : Hole} (v : HoleV h) (d : Int) : (closesR h d = (0, 6) ∧ (!withinB d 0 ((h.widths.length : Int) - 1)) = true) ∨ (closesR h d = (tickAt h d.toNat, 0) ∧ (!withinB d 0 ((h.widths.length : Int) - 1)) = false ∧ Summ Tryd.prog GG 53 [holeF h, iv d] (iv (tickAt h d.toNat))) := by
  cases w : withinB d 0 ((h.widths.length : Int) - 1) with
  | false => exact .inl ⟨closes_bad v w, rfl⟩
  | true =>
    have bd : 0 ≤ d ∧ d ≤ (h.widths.length : Int) - 1 := by simpa [withinB] using w
    have ec : closesE h d = 0 := closesE_zero.2 ⟨v, bd.1, by omega⟩
    exact .inr ⟨by rw [closesR, ec, if_neg (by decide)], rfl, Closes_s h d v bd.1 (by omega)⟩
theorem lat_cases {h : Hole} (v : HoleV h) {n : Int} (b0 : 0 ≤ n) (b1 : n ≤ 1000000) : (latestR h n = (0, 12) ∧ decide (latestTo h n h.widths.length < 0) = true ∧ decide (0 ≤ latestTo h n h.widths.length) = false) ∨ (latestR h n = (latestTo h n h.widths.length, 0) ∧ decide (latestTo h n h.widths.length < 0) = false ∧ decide (0 ≤ latestTo h n h.widths.length) = true) := by
  have st : startE h n = 0 := startE_zero.2 ⟨v, b0, b1⟩
  by_cases hs : latestTo h n h.widths.length < 0
  · exact .inl ⟨by rw [latestR, st, if_neg (by decide), if_pos hs], decide_eq_true hs, decide_eq_false (by omega)⟩
  · exact .inr ⟨by rw [latestR, st, if_neg (by decide), if_neg hs], decide_eq_false hs, decide_eq_true (by omega)⟩
theorem slow_cases {h : Hole} (v : HoleV h) {n : Int} (b0 : 0 ≤ n) (b1 : n ≤ 1000000) : (slowR h n = (0, 12) ∧ decide (slowI h n < 0) = true ∧ decide (0 ≤ slowI h n) = false) ∨ (slowR h n = (slowI h n, 0) ∧ decide (slowI h n < 0) = false ∧ decide (0 ≤ slowI h n) = true) := by
  have st : startE h n = 0 := startE_zero.2 ⟨v, b0, b1⟩
  cases hb : slowBad h n with
  | true => exact .inl ⟨by rw [slowR, st, if_neg (by decide), if_pos hb], by unfold slowI; rw [if_pos hb]; rfl, by unfold slowI; rw [if_pos hb]; rfl⟩
  | false =>
    have pb := pace_bd v (s := n) h.widths.length (Nat.le_refl _) (fun j hj => slowBad_false.1 hb j hj)
    have es : slowI h n = paceTo h n h.widths.length := by unfold slowI; rw [hb]; rfl
    exact .inr ⟨by rw [slowR, st, if_neg (by decide), if_neg (by simp [hb]), es], decide_eq_false (by omega), decide_eq_true (by omega)⟩
set_option maxRecDepth 100000 in
set_option maxHeartbeats 4000000 in
theorem IceHoles_s (h : Hole) (d n : Int) : Summ Tryd.prog GG 8 [holeF h, .agg [iv d, iv n]] (bv true) := by
  obtain ⟨i0, hi3, _, hz3, _⟩ := info_parts Tryd.info3
  refine summW Tryd.func8 rfl rfl 193 rfl (by simp) (fun M0 => ?_)
  by_cases h20 : 22 < h.widths.length
  · have g : decide ((22 : Int) < h.widths.length) = true := decide_eq_true (by omega)
    repeat (first
    | (apply s_move_f; exact rfl; exact rfl)
    | (apply s_assign_f; exact rfl; exact rfl)
    | (apply s_fld_pt TY; exact rfl; exact rfl; exact rfl)
    | (apply s_load_pt TY; exact rfl; exact rfl; exact rfl; (first | exact rfl | assumption))
    | (apply s_load_pts TY; exact rfl; exact rfl; exact rfl; (first | assumption | exact rfl); exact rfl)
    | (apply s_len TY; exact rfl; exact rfl; exact rfl)
    | (apply s_extract; exact rfl; exact rfl; exact rfl)
    | (apply s_box; exact rfl; exact rfl; exact rfl)
    | (apply s_not; exact rfl; exact rfl)
    | (apply s_lss; exact rfl; exact rfl; exact rfl)
    | (apply s_gtr; exact rfl; exact rfl; exact rfl)
    | (apply s_geq; exact rfl; exact rfl; exact rfl)
    | (apply s_eql; exact rfl; exact rfl; exact rfl)
    | (apply s_neq; exact rfl; exact rfl; exact rfl)
    | (apply s_move_o; exact rfl; exact rfl)
    | (apply s_move_x; exact rfl; exact rfl)
    | (apply s_assign_x; exact rfl; exact rfl)
    | (apply s_assign_o; exact rfl; exact rfl)
    | (apply s_fld_bx TY; exact rfl; exact rfl; exact rfl)
    | (apply s_load_bx_f TY; exact rfl; exact rfl; exact rfl; exact rfl; exact rfl)
    | (apply s_load_bx_x TY; exact rfl; exact rfl; exact rfl; exact rfl; exact rfl)
    | (apply s_load_bx_o TY; exact rfl; exact rfl; exact rfl; exact rfl; exact rfl)
    | (apply s_load_bxs TY; exact rfl; exact rfl; exact rfl; exact rfl; exact rfl; exact rfl)
    | (apply s_load_row TY; exact rfl; exact rfl; exact rfl; exact rfl; (first | exact rfl | assumption))
    | (apply s_len_nil TY; exact rfl; exact rfl; exact rfl)
    | (apply s_len_ow TY; exact rfl; exact rfl; exact rfl; exact rfl)
    | (apply s_len_str TY; exact rfl; exact rfl; exact rfl)
    | (apply s_makefn; exact rfl; exact rfl)
    | (apply s_pickT; exact rfl; exact rfl; (first | exact rfl | assumption); exact rfl)
    | (apply s_pickF; exact rfl; exact rfl; (first | exact rfl | assumption); exact rfl)
    | apply w_seq
    | apply w_region
    | apply s_nil
    | apply t_norm
    | apply t_exit
    | apply t_ret
    | apply k_hit
    | (apply k_miss; exact rfl)
    | apply k_norm
    | apply k_ret
    | apply w_block
    | apply w_exit
    | apply w_ret
    | apply w_skip
    | (apply s_call (awake_s); exact rfl; exact rfl; exact rfl; exact rfl)
    | (apply s_sub; exact rfl; exact rfl; exact rfl; (omega))
    | (apply g_skip; exact rfl; (first | exact rfl | assumption); exact rfl)
    | (apply g_skipu; exact rfl; exact rfl; exact rfl)
    | (apply g_move_f; exact rfl; (first | exact rfl | assumption); exact rfl; exact rfl)
    | (apply g_assign_f; exact rfl; (first | exact rfl | assumption); exact rfl; exact rfl)
    | (apply g_fld_pt TY; exact rfl; (first | exact rfl | assumption); exact rfl; exact rfl; exact rfl)
    | (apply g_load_pt TY; exact rfl; (first | exact rfl | assumption); exact rfl; exact rfl; exact rfl; (first | exact rfl | assumption))
    | (apply g_load_pts TY; exact rfl; (first | exact rfl | assumption); exact rfl; exact rfl; exact rfl; (first | assumption | exact rfl); exact rfl)
    | (apply g_len TY; exact rfl; (first | exact rfl | assumption); exact rfl; exact rfl; exact rfl)
    | (apply g_gtr; exact rfl; (first | exact rfl | assumption); exact rfl; exact rfl; exact rfl)
    | (apply g_geq; exact rfl; (first | exact rfl | assumption); exact rfl; exact rfl; exact rfl)
    | (apply g_eql; exact rfl; (first | exact rfl | assumption); exact rfl; exact rfl; exact rfl)
    | (apply g_neq; exact rfl; (first | exact rfl | assumption); exact rfl; exact rfl; exact rfl)
    | (apply g_move_o; exact rfl; (first | exact rfl | assumption); exact rfl; exact rfl)
    | (apply g_move_x; exact rfl; (first | exact rfl | assumption); exact rfl; exact rfl)
    | (apply g_assign_x; exact rfl; (first | exact rfl | assumption); exact rfl; exact rfl)
    | (apply g_assign_o; exact rfl; (first | exact rfl | assumption); exact rfl; exact rfl)
    | (apply g_fld_bx TY; exact rfl; (first | exact rfl | assumption); exact rfl; exact rfl; exact rfl)
    | (apply g_load_bx_f TY; exact rfl; (first | exact rfl | assumption); exact rfl; exact rfl; exact rfl; exact rfl; exact rfl)
    | (apply g_load_bx_x TY; exact rfl; (first | exact rfl | assumption); exact rfl; exact rfl; exact rfl; exact rfl; exact rfl)
    | (apply g_load_bx_o TY; exact rfl; (first | exact rfl | assumption); exact rfl; exact rfl; exact rfl; exact rfl; exact rfl)
    | (apply g_load_bxs TY; exact rfl; (first | exact rfl | assumption); exact rfl; exact rfl; exact rfl; exact rfl; exact rfl; exact rfl)
    | (apply g_load_row TY; exact rfl; (first | exact rfl | assumption); exact rfl; exact rfl; exact rfl; exact rfl; (first | exact rfl | assumption))
    | (apply g_len_nil TY; exact rfl; (first | exact rfl | assumption); exact rfl; exact rfl; exact rfl)
    | (apply g_len_ow TY; exact rfl; (first | exact rfl | assumption); exact rfl; exact rfl; exact rfl; exact rfl)
    | (apply g_len_str TY; exact rfl; (first | exact rfl | assumption); exact rfl; exact rfl; exact rfl)
    | (apply g_pickT; exact rfl; (first | exact rfl | assumption); exact rfl; exact rfl; (first | exact rfl | assumption); exact rfl)
    | (apply g_pickF; exact rfl; (first | exact rfl | assumption); exact rfl; exact rfl; (first | exact rfl | assumption); exact rfl)
    | (apply g_call (awake_s); exact rfl; (first | exact rfl | assumption); exact rfl; exact rfl; exact rfl; exact rfl)
    | (apply s_idxN TY; exact rfl; exact rfl; exact rfl; exact rfl; assumption; assumption)
    | (apply s_idxN_ow TY; exact rfl; exact rfl; exact rfl; exact rfl; exact rfl; assumption)
    | (apply s_idx TY; exact rfl; exact rfl; exact rfl; exact rfl; omega; omega; assumption)
    | (apply w_condT; exact rfl; (first | exact rfl | assumption))
    | (apply w_condF; exact rfl; (first | exact rfl | assumption)))
    exact lv_ret (ret1 rfl (res_tmp rfl))
  have g : decide ((22 : Int) < h.widths.length) = false := decide_eq_false (by omega)
  by_cases h21 : 22 < h.shrinks.length
  · have g : decide ((22 : Int) < h.shrinks.length) = true := decide_eq_true (by omega)
    repeat (first
    | (apply s_move_f; exact rfl; exact rfl)
    | (apply s_assign_f; exact rfl; exact rfl)
    | (apply s_fld_pt TY; exact rfl; exact rfl; exact rfl)
    | (apply s_load_pt TY; exact rfl; exact rfl; exact rfl; (first | exact rfl | assumption))
    | (apply s_load_pts TY; exact rfl; exact rfl; exact rfl; (first | assumption | exact rfl); exact rfl)
    | (apply s_len TY; exact rfl; exact rfl; exact rfl)
    | (apply s_extract; exact rfl; exact rfl; exact rfl)
    | (apply s_box; exact rfl; exact rfl; exact rfl)
    | (apply s_not; exact rfl; exact rfl)
    | (apply s_lss; exact rfl; exact rfl; exact rfl)
    | (apply s_gtr; exact rfl; exact rfl; exact rfl)
    | (apply s_geq; exact rfl; exact rfl; exact rfl)
    | (apply s_eql; exact rfl; exact rfl; exact rfl)
    | (apply s_neq; exact rfl; exact rfl; exact rfl)
    | (apply s_move_o; exact rfl; exact rfl)
    | (apply s_move_x; exact rfl; exact rfl)
    | (apply s_assign_x; exact rfl; exact rfl)
    | (apply s_assign_o; exact rfl; exact rfl)
    | (apply s_fld_bx TY; exact rfl; exact rfl; exact rfl)
    | (apply s_load_bx_f TY; exact rfl; exact rfl; exact rfl; exact rfl; exact rfl)
    | (apply s_load_bx_x TY; exact rfl; exact rfl; exact rfl; exact rfl; exact rfl)
    | (apply s_load_bx_o TY; exact rfl; exact rfl; exact rfl; exact rfl; exact rfl)
    | (apply s_load_bxs TY; exact rfl; exact rfl; exact rfl; exact rfl; exact rfl; exact rfl)
    | (apply s_load_row TY; exact rfl; exact rfl; exact rfl; exact rfl; (first | exact rfl | assumption))
    | (apply s_len_nil TY; exact rfl; exact rfl; exact rfl)
    | (apply s_len_ow TY; exact rfl; exact rfl; exact rfl; exact rfl)
    | (apply s_len_str TY; exact rfl; exact rfl; exact rfl)
    | (apply s_makefn; exact rfl; exact rfl)
    | (apply s_pickT; exact rfl; exact rfl; (first | exact rfl | assumption); exact rfl)
    | (apply s_pickF; exact rfl; exact rfl; (first | exact rfl | assumption); exact rfl)
    | apply w_seq
    | apply w_region
    | apply s_nil
    | apply t_norm
    | apply t_exit
    | apply t_ret
    | apply k_hit
    | (apply k_miss; exact rfl)
    | apply k_norm
    | apply k_ret
    | apply w_block
    | apply w_exit
    | apply w_ret
    | apply w_skip
    | (apply s_call (awake_s); exact rfl; exact rfl; exact rfl; exact rfl)
    | (apply s_sub; exact rfl; exact rfl; exact rfl; (omega))
    | (apply g_skip; exact rfl; (first | exact rfl | assumption); exact rfl)
    | (apply g_skipu; exact rfl; exact rfl; exact rfl)
    | (apply g_move_f; exact rfl; (first | exact rfl | assumption); exact rfl; exact rfl)
    | (apply g_assign_f; exact rfl; (first | exact rfl | assumption); exact rfl; exact rfl)
    | (apply g_fld_pt TY; exact rfl; (first | exact rfl | assumption); exact rfl; exact rfl; exact rfl)
    | (apply g_load_pt TY; exact rfl; (first | exact rfl | assumption); exact rfl; exact rfl; exact rfl; (first | exact rfl | assumption))
    | (apply g_load_pts TY; exact rfl; (first | exact rfl | assumption); exact rfl; exact rfl; exact rfl; (first | assumption | exact rfl); exact rfl)
    | (apply g_len TY; exact rfl; (first | exact rfl | assumption); exact rfl; exact rfl; exact rfl)
    | (apply g_gtr; exact rfl; (first | exact rfl | assumption); exact rfl; exact rfl; exact rfl)
    | (apply g_geq; exact rfl; (first | exact rfl | assumption); exact rfl; exact rfl; exact rfl)
    | (apply g_eql; exact rfl; (first | exact rfl | assumption); exact rfl; exact rfl; exact rfl)
    | (apply g_neq; exact rfl; (first | exact rfl | assumption); exact rfl; exact rfl; exact rfl)
    | (apply g_move_o; exact rfl; (first | exact rfl | assumption); exact rfl; exact rfl)
    | (apply g_move_x; exact rfl; (first | exact rfl | assumption); exact rfl; exact rfl)
    | (apply g_assign_x; exact rfl; (first | exact rfl | assumption); exact rfl; exact rfl)
    | (apply g_assign_o; exact rfl; (first | exact rfl | assumption); exact rfl; exact rfl)
    | (apply g_fld_bx TY; exact rfl; (first | exact rfl | assumption); exact rfl; exact rfl; exact rfl)
    | (apply g_load_bx_f TY; exact rfl; (first | exact rfl | assumption); exact rfl; exact rfl; exact rfl; exact rfl; exact rfl)
    | (apply g_load_bx_x TY; exact rfl; (first | exact rfl | assumption); exact rfl; exact rfl; exact rfl; exact rfl; exact rfl)
    | (apply g_load_bx_o TY; exact rfl; (first | exact rfl | assumption); exact rfl; exact rfl; exact rfl; exact rfl; exact rfl)
    | (apply g_load_bxs TY; exact rfl; (first | exact rfl | assumption); exact rfl; exact rfl; exact rfl; exact rfl; exact rfl; exact rfl)
    | (apply g_load_row TY; exact rfl; (first | exact rfl | assumption); exact rfl; exact rfl; exact rfl; exact rfl; (first | exact rfl | assumption))
    | (apply g_len_nil TY; exact rfl; (first | exact rfl | assumption); exact rfl; exact rfl; exact rfl)
    | (apply g_len_ow TY; exact rfl; (first | exact rfl | assumption); exact rfl; exact rfl; exact rfl; exact rfl)
    | (apply g_len_str TY; exact rfl; (first | exact rfl | assumption); exact rfl; exact rfl; exact rfl)
    | (apply g_pickT; exact rfl; (first | exact rfl | assumption); exact rfl; exact rfl; (first | exact rfl | assumption); exact rfl)
    | (apply g_pickF; exact rfl; (first | exact rfl | assumption); exact rfl; exact rfl; (first | exact rfl | assumption); exact rfl)
    | (apply g_call (awake_s); exact rfl; (first | exact rfl | assumption); exact rfl; exact rfl; exact rfl; exact rfl)
    | (apply s_idxN TY; exact rfl; exact rfl; exact rfl; exact rfl; assumption; assumption)
    | (apply s_idxN_ow TY; exact rfl; exact rfl; exact rfl; exact rfl; exact rfl; assumption)
    | (apply s_idx TY; exact rfl; exact rfl; exact rfl; exact rfl; omega; omega; assumption)
    | (apply w_condT; exact rfl; (first | exact rfl | assumption))
    | (apply w_condF; exact rfl; (first | exact rfl | assumption)))
    exact lv_ret (ret1 rfl (res_tmp rfl))
  have g0 : decide ((22 : Int) < h.shrinks.length) = false := decide_eq_false (by omega)
  have q1 := neq_self (checkHole h).1
  have q2 := neq_self (checkHole h).2
  have hC := ClosesAt_s h d ⟨by omega, by omega⟩
  have hL := LatestStart_s h n ⟨by omega, by omega⟩
  have hS := SlowestPace_s h n ⟨by omega, by omega⟩
  have q4 : decide ((checkHole h).2 = (checkHole h).2) = true := by simp
  have q5 := neq_self (latestTo h n h.widths.length)
  have q6 := neq_self (tickAt h d.toNat)
  by_cases e : (checkHole h).2 = 0
  · have q3 : (!decide ((checkHole h).2 = 0)) = false := by simp [e]
    have v : HoleV h := checkHole_ok.1 e
    rcases clo_cases v d with ⟨ec, g1⟩ | ⟨ec, g1, rC⟩
    all_goals rw [ec] at hC
    all_goals cases w2 : withinB n 0 1000000 with
      | false =>
        have g2 : (!withinB n 0 1000000) = true := by rw [w2]; rfl
        obtain ⟨e2, e3⟩ := start_bad v w2
        rw [e2] at hL; rw [e3] at hS
        repeat (first
    | (apply s_move_f; exact rfl; exact rfl)
    | (apply s_assign_f; exact rfl; exact rfl)
    | (apply s_fld_pt TY; exact rfl; exact rfl; exact rfl)
    | (apply s_load_pt TY; exact rfl; exact rfl; exact rfl; (first | exact rfl | assumption))
    | (apply s_load_pts TY; exact rfl; exact rfl; exact rfl; (first | assumption | exact rfl); exact rfl)
    | (apply s_len TY; exact rfl; exact rfl; exact rfl)
    | (apply s_extract; exact rfl; exact rfl; exact rfl)
    | (apply s_box; exact rfl; exact rfl; exact rfl)
    | (apply s_not; exact rfl; exact rfl)
    | (apply s_lss; exact rfl; exact rfl; exact rfl)
    | (apply s_gtr; exact rfl; exact rfl; exact rfl)
    | (apply s_geq; exact rfl; exact rfl; exact rfl)
    | (apply s_eql; exact rfl; exact rfl; exact rfl)
    | (apply s_neq; exact rfl; exact rfl; exact rfl)
    | (apply s_move_o; exact rfl; exact rfl)
    | (apply s_move_x; exact rfl; exact rfl)
    | (apply s_assign_x; exact rfl; exact rfl)
    | (apply s_assign_o; exact rfl; exact rfl)
    | (apply s_fld_bx TY; exact rfl; exact rfl; exact rfl)
    | (apply s_load_bx_f TY; exact rfl; exact rfl; exact rfl; exact rfl; exact rfl)
    | (apply s_load_bx_x TY; exact rfl; exact rfl; exact rfl; exact rfl; exact rfl)
    | (apply s_load_bx_o TY; exact rfl; exact rfl; exact rfl; exact rfl; exact rfl)
    | (apply s_load_bxs TY; exact rfl; exact rfl; exact rfl; exact rfl; exact rfl; exact rfl)
    | (apply s_load_row TY; exact rfl; exact rfl; exact rfl; exact rfl; (first | exact rfl | assumption))
    | (apply s_len_nil TY; exact rfl; exact rfl; exact rfl)
    | (apply s_len_ow TY; exact rfl; exact rfl; exact rfl; exact rfl)
    | (apply s_len_str TY; exact rfl; exact rfl; exact rfl)
    | (apply s_makefn; exact rfl; exact rfl)
    | (apply s_pickT; exact rfl; exact rfl; (first | exact rfl | assumption); exact rfl)
    | (apply s_pickF; exact rfl; exact rfl; (first | exact rfl | assumption); exact rfl)
    | apply w_seq
    | apply w_region
    | apply s_nil
    | apply t_norm
    | apply t_exit
    | apply t_ret
    | apply k_hit
    | (apply k_miss; exact rfl)
    | apply k_norm
    | apply k_ret
    | apply w_block
    | apply w_exit
    | apply w_ret
    | apply w_skip
    | (apply s_call (awake_s); exact rfl; exact rfl; exact rfl; exact rfl)
    | (apply s_call (CopyHole_s h (by omega) (by omega)); exact rfl; exact rfl; exact rfl; exact rfl)
    | (apply s_call (CheckHole_s h ⟨by omega, by omega⟩); exact rfl; exact rfl; exact rfl; exact rfl)
    | (apply s_call (refCheckHole_s h); exact rfl; exact rfl; exact rfl; exact rfl)
    | (apply s_call (Within_s _ _ _); exact rfl; exact rfl; exact rfl; exact rfl)
    | (apply s_call (hC); exact rfl; exact rfl; exact rfl; exact rfl)
    | (apply s_call (hL); exact rfl; exact rfl; exact rfl; exact rfl)
    | (apply s_call (hS); exact rfl; exact rfl; exact rfl; exact rfl)
    | (apply s_call (rC); exact rfl; exact rfl; exact rfl; exact rfl)
    | (apply s_call (rL); exact rfl; exact rfl; exact rfl; exact rfl)
    | (apply s_call (rS); exact rfl; exact rfl; exact rfl; exact rfl)
    | (apply s_sub; exact rfl; exact rfl; exact rfl; (omega))
    | (apply g_skip; exact rfl; (first | exact rfl | assumption); exact rfl)
    | (apply g_skipu; exact rfl; exact rfl; exact rfl)
    | (apply g_move_f; exact rfl; (first | exact rfl | assumption); exact rfl; exact rfl)
    | (apply g_assign_f; exact rfl; (first | exact rfl | assumption); exact rfl; exact rfl)
    | (apply g_fld_pt TY; exact rfl; (first | exact rfl | assumption); exact rfl; exact rfl; exact rfl)
    | (apply g_load_pt TY; exact rfl; (first | exact rfl | assumption); exact rfl; exact rfl; exact rfl; (first | exact rfl | assumption))
    | (apply g_load_pts TY; exact rfl; (first | exact rfl | assumption); exact rfl; exact rfl; exact rfl; (first | assumption | exact rfl); exact rfl)
    | (apply g_len TY; exact rfl; (first | exact rfl | assumption); exact rfl; exact rfl; exact rfl)
    | (apply g_gtr; exact rfl; (first | exact rfl | assumption); exact rfl; exact rfl; exact rfl)
    | (apply g_geq; exact rfl; (first | exact rfl | assumption); exact rfl; exact rfl; exact rfl)
    | (apply g_eql; exact rfl; (first | exact rfl | assumption); exact rfl; exact rfl; exact rfl)
    | (apply g_neq; exact rfl; (first | exact rfl | assumption); exact rfl; exact rfl; exact rfl)
    | (apply g_move_o; exact rfl; (first | exact rfl | assumption); exact rfl; exact rfl)
    | (apply g_move_x; exact rfl; (first | exact rfl | assumption); exact rfl; exact rfl)
    | (apply g_assign_x; exact rfl; (first | exact rfl | assumption); exact rfl; exact rfl)
    | (apply g_assign_o; exact rfl; (first | exact rfl | assumption); exact rfl; exact rfl)
    | (apply g_fld_bx TY; exact rfl; (first | exact rfl | assumption); exact rfl; exact rfl; exact rfl)
    | (apply g_load_bx_f TY; exact rfl; (first | exact rfl | assumption); exact rfl; exact rfl; exact rfl; exact rfl; exact rfl)
    | (apply g_load_bx_x TY; exact rfl; (first | exact rfl | assumption); exact rfl; exact rfl; exact rfl; exact rfl; exact rfl)
    | (apply g_load_bx_o TY; exact rfl; (first | exact rfl | assumption); exact rfl; exact rfl; exact rfl; exact rfl; exact rfl)
    | (apply g_load_bxs TY; exact rfl; (first | exact rfl | assumption); exact rfl; exact rfl; exact rfl; exact rfl; exact rfl; exact rfl)
    | (apply g_load_row TY; exact rfl; (first | exact rfl | assumption); exact rfl; exact rfl; exact rfl; exact rfl; (first | exact rfl | assumption))
    | (apply g_len_nil TY; exact rfl; (first | exact rfl | assumption); exact rfl; exact rfl; exact rfl)
    | (apply g_len_ow TY; exact rfl; (first | exact rfl | assumption); exact rfl; exact rfl; exact rfl; exact rfl)
    | (apply g_len_str TY; exact rfl; (first | exact rfl | assumption); exact rfl; exact rfl; exact rfl)
    | (apply g_pickT; exact rfl; (first | exact rfl | assumption); exact rfl; exact rfl; (first | exact rfl | assumption); exact rfl)
    | (apply g_pickF; exact rfl; (first | exact rfl | assumption); exact rfl; exact rfl; (first | exact rfl | assumption); exact rfl)
    | (apply g_call (awake_s); exact rfl; (first | exact rfl | assumption); exact rfl; exact rfl; exact rfl; exact rfl)
    | (apply g_call (CopyHole_s h (by omega) (by omega)); exact rfl; (first | exact rfl | assumption); exact rfl; exact rfl; exact rfl; exact rfl)
    | (apply g_call (CheckHole_s h ⟨by omega, by omega⟩); exact rfl; (first | exact rfl | assumption); exact rfl; exact rfl; exact rfl; exact rfl)
    | (apply g_call (refCheckHole_s h); exact rfl; (first | exact rfl | assumption); exact rfl; exact rfl; exact rfl; exact rfl)
    | (apply g_call (Within_s _ _ _); exact rfl; (first | exact rfl | assumption); exact rfl; exact rfl; exact rfl; exact rfl)
    | (apply g_call (hC); exact rfl; (first | exact rfl | assumption); exact rfl; exact rfl; exact rfl; exact rfl)
    | (apply g_call (hL); exact rfl; (first | exact rfl | assumption); exact rfl; exact rfl; exact rfl; exact rfl)
    | (apply g_call (hS); exact rfl; (first | exact rfl | assumption); exact rfl; exact rfl; exact rfl; exact rfl)
    | (apply g_call (rC); exact rfl; (first | exact rfl | assumption); exact rfl; exact rfl; exact rfl; exact rfl)
    | (apply g_call (rL); exact rfl; (first | exact rfl | assumption); exact rfl; exact rfl; exact rfl; exact rfl)
    | (apply g_call (rS); exact rfl; (first | exact rfl | assumption); exact rfl; exact rfl; exact rfl; exact rfl)
    | (apply s_idxN TY; exact rfl; exact rfl; exact rfl; exact rfl; assumption; assumption)
    | (apply s_idxN_ow TY; exact rfl; exact rfl; exact rfl; exact rfl; exact rfl; assumption)
    | (apply s_idx TY; exact rfl; exact rfl; exact rfl; exact rfl; omega; omega; assumption)
    | (apply w_condT; exact rfl; (first | exact rfl | assumption))
    | (apply w_condF; exact rfl; (first | exact rfl | assumption)))
        apply w_draw 5 rfl (by kernel_rfl)
        repeat (first
    | (apply s_idxA Tryd.underlying75 hi3 hz3; exact rfl; exact rfl; exact rfl; decide; decide)
    | (apply s_move_f; exact rfl; exact rfl)
    | (apply s_assign_f; exact rfl; exact rfl)
    | (apply s_fld_pt TY; exact rfl; exact rfl; exact rfl)
    | (apply s_load_pt TY; exact rfl; exact rfl; exact rfl; (first | exact rfl | assumption))
    | (apply s_load_pts TY; exact rfl; exact rfl; exact rfl; (first | assumption | exact rfl); exact rfl)
    | (apply s_len TY; exact rfl; exact rfl; exact rfl)
    | (apply s_extract; exact rfl; exact rfl; exact rfl)
    | (apply s_box; exact rfl; exact rfl; exact rfl)
    | (apply s_not; exact rfl; exact rfl)
    | (apply s_lss; exact rfl; exact rfl; exact rfl)
    | (apply s_gtr; exact rfl; exact rfl; exact rfl)
    | (apply s_geq; exact rfl; exact rfl; exact rfl)
    | (apply s_eql; exact rfl; exact rfl; exact rfl)
    | (apply s_neq; exact rfl; exact rfl; exact rfl)
    | (apply s_move_o; exact rfl; exact rfl)
    | (apply s_move_x; exact rfl; exact rfl)
    | (apply s_assign_x; exact rfl; exact rfl)
    | (apply s_assign_o; exact rfl; exact rfl)
    | (apply s_fld_bx TY; exact rfl; exact rfl; exact rfl)
    | (apply s_load_bx_f TY; exact rfl; exact rfl; exact rfl; exact rfl; exact rfl)
    | (apply s_load_bx_x TY; exact rfl; exact rfl; exact rfl; exact rfl; exact rfl)
    | (apply s_load_bx_o TY; exact rfl; exact rfl; exact rfl; exact rfl; exact rfl)
    | (apply s_load_bxs TY; exact rfl; exact rfl; exact rfl; exact rfl; exact rfl; exact rfl)
    | (apply s_load_row TY; exact rfl; exact rfl; exact rfl; exact rfl; (first | exact rfl | assumption))
    | (apply s_len_nil TY; exact rfl; exact rfl; exact rfl)
    | (apply s_len_ow TY; exact rfl; exact rfl; exact rfl; exact rfl)
    | (apply s_len_str TY; exact rfl; exact rfl; exact rfl)
    | (apply s_makefn; exact rfl; exact rfl)
    | (apply s_pickT; exact rfl; exact rfl; (first | exact rfl | assumption); exact rfl)
    | (apply s_pickF; exact rfl; exact rfl; (first | exact rfl | assumption); exact rfl)
    | apply w_seq
    | apply w_region
    | apply s_nil
    | apply t_norm
    | apply t_exit
    | apply t_ret
    | apply k_hit
    | (apply k_miss; exact rfl)
    | apply k_norm
    | apply k_ret
    | apply w_block
    | apply w_exit
    | apply w_ret
    | apply w_skip
    | (apply s_call (awake_s); exact rfl; exact rfl; exact rfl; exact rfl)
    | (apply s_call (CopyHole_s h (by omega) (by omega)); exact rfl; exact rfl; exact rfl; exact rfl)
    | (apply s_call (CheckHole_s h ⟨by omega, by omega⟩); exact rfl; exact rfl; exact rfl; exact rfl)
    | (apply s_call (refCheckHole_s h); exact rfl; exact rfl; exact rfl; exact rfl)
    | (apply s_call (Within_s _ _ _); exact rfl; exact rfl; exact rfl; exact rfl)
    | (apply s_call (hC); exact rfl; exact rfl; exact rfl; exact rfl)
    | (apply s_call (hL); exact rfl; exact rfl; exact rfl; exact rfl)
    | (apply s_call (hS); exact rfl; exact rfl; exact rfl; exact rfl)
    | (apply s_call (rC); exact rfl; exact rfl; exact rfl; exact rfl)
    | (apply s_call (rL); exact rfl; exact rfl; exact rfl; exact rfl)
    | (apply s_call (rS); exact rfl; exact rfl; exact rfl; exact rfl)
    | (apply s_sub; exact rfl; exact rfl; exact rfl; (omega))
    | (apply g_skip; exact rfl; (first | exact rfl | assumption); exact rfl)
    | (apply g_skipu; exact rfl; exact rfl; exact rfl)
    | (apply g_move_f; exact rfl; (first | exact rfl | assumption); exact rfl; exact rfl)
    | (apply g_assign_f; exact rfl; (first | exact rfl | assumption); exact rfl; exact rfl)
    | (apply g_fld_pt TY; exact rfl; (first | exact rfl | assumption); exact rfl; exact rfl; exact rfl)
    | (apply g_load_pt TY; exact rfl; (first | exact rfl | assumption); exact rfl; exact rfl; exact rfl; (first | exact rfl | assumption))
    | (apply g_load_pts TY; exact rfl; (first | exact rfl | assumption); exact rfl; exact rfl; exact rfl; (first | assumption | exact rfl); exact rfl)
    | (apply g_len TY; exact rfl; (first | exact rfl | assumption); exact rfl; exact rfl; exact rfl)
    | (apply g_gtr; exact rfl; (first | exact rfl | assumption); exact rfl; exact rfl; exact rfl)
    | (apply g_geq; exact rfl; (first | exact rfl | assumption); exact rfl; exact rfl; exact rfl)
    | (apply g_eql; exact rfl; (first | exact rfl | assumption); exact rfl; exact rfl; exact rfl)
    | (apply g_neq; exact rfl; (first | exact rfl | assumption); exact rfl; exact rfl; exact rfl)
    | (apply g_move_o; exact rfl; (first | exact rfl | assumption); exact rfl; exact rfl)
    | (apply g_move_x; exact rfl; (first | exact rfl | assumption); exact rfl; exact rfl)
    | (apply g_assign_x; exact rfl; (first | exact rfl | assumption); exact rfl; exact rfl)
    | (apply g_assign_o; exact rfl; (first | exact rfl | assumption); exact rfl; exact rfl)
    | (apply g_fld_bx TY; exact rfl; (first | exact rfl | assumption); exact rfl; exact rfl; exact rfl)
    | (apply g_load_bx_f TY; exact rfl; (first | exact rfl | assumption); exact rfl; exact rfl; exact rfl; exact rfl; exact rfl)
    | (apply g_load_bx_x TY; exact rfl; (first | exact rfl | assumption); exact rfl; exact rfl; exact rfl; exact rfl; exact rfl)
    | (apply g_load_bx_o TY; exact rfl; (first | exact rfl | assumption); exact rfl; exact rfl; exact rfl; exact rfl; exact rfl)
    | (apply g_load_bxs TY; exact rfl; (first | exact rfl | assumption); exact rfl; exact rfl; exact rfl; exact rfl; exact rfl; exact rfl)
    | (apply g_load_row TY; exact rfl; (first | exact rfl | assumption); exact rfl; exact rfl; exact rfl; exact rfl; (first | exact rfl | assumption))
    | (apply g_len_nil TY; exact rfl; (first | exact rfl | assumption); exact rfl; exact rfl; exact rfl)
    | (apply g_len_ow TY; exact rfl; (first | exact rfl | assumption); exact rfl; exact rfl; exact rfl; exact rfl)
    | (apply g_len_str TY; exact rfl; (first | exact rfl | assumption); exact rfl; exact rfl; exact rfl)
    | (apply g_pickT; exact rfl; (first | exact rfl | assumption); exact rfl; exact rfl; (first | exact rfl | assumption); exact rfl)
    | (apply g_pickF; exact rfl; (first | exact rfl | assumption); exact rfl; exact rfl; (first | exact rfl | assumption); exact rfl)
    | (apply g_call (awake_s); exact rfl; (first | exact rfl | assumption); exact rfl; exact rfl; exact rfl; exact rfl)
    | (apply g_call (CopyHole_s h (by omega) (by omega)); exact rfl; (first | exact rfl | assumption); exact rfl; exact rfl; exact rfl; exact rfl)
    | (apply g_call (CheckHole_s h ⟨by omega, by omega⟩); exact rfl; (first | exact rfl | assumption); exact rfl; exact rfl; exact rfl; exact rfl)
    | (apply g_call (refCheckHole_s h); exact rfl; (first | exact rfl | assumption); exact rfl; exact rfl; exact rfl; exact rfl)
    | (apply g_call (Within_s _ _ _); exact rfl; (first | exact rfl | assumption); exact rfl; exact rfl; exact rfl; exact rfl)
    | (apply g_call (hC); exact rfl; (first | exact rfl | assumption); exact rfl; exact rfl; exact rfl; exact rfl)
    | (apply g_call (hL); exact rfl; (first | exact rfl | assumption); exact rfl; exact rfl; exact rfl; exact rfl)
    | (apply g_call (hS); exact rfl; (first | exact rfl | assumption); exact rfl; exact rfl; exact rfl; exact rfl)
    | (apply g_call (rC); exact rfl; (first | exact rfl | assumption); exact rfl; exact rfl; exact rfl; exact rfl)
    | (apply g_call (rL); exact rfl; (first | exact rfl | assumption); exact rfl; exact rfl; exact rfl; exact rfl)
    | (apply g_call (rS); exact rfl; (first | exact rfl | assumption); exact rfl; exact rfl; exact rfl; exact rfl)
    | (apply s_idxN TY; exact rfl; exact rfl; exact rfl; exact rfl; assumption; assumption)
    | (apply s_idxN_ow TY; exact rfl; exact rfl; exact rfl; exact rfl; exact rfl; assumption)
    | (apply s_idx TY; exact rfl; exact rfl; exact rfl; exact rfl; omega; omega; assumption)
    | (apply w_condT; exact rfl; (first | exact rfl | assumption))
    | (apply w_condF; exact rfl; (first | exact rfl | assumption)))
        exact lv_ret (ret1 rfl (res_tmp rfl))
      | true =>
        have g2 : (!withinB n 0 1000000) = false := by rw [w2]; rfl
        have b1 : 0 ≤ n ∧ n ≤ 1000000 := by simpa [withinB] using w2
        have rL := Latest_s h n v b1.1 b1.2
        have rS := Slowest_s h n v b1.1 b1.2
        rcases lat_cases v b1.1 b1.2 with ⟨e2, k1, k2⟩ | ⟨e2, k1, k2⟩ <;> rcases slow_cases v b1.1 b1.2 with ⟨e3, k3, k4⟩ | ⟨e3, k3, k4⟩
        all_goals rw [e2] at hL
        all_goals rw [e3] at hS
        all_goals repeat (first
    | (apply s_move_f; exact rfl; exact rfl)
    | (apply s_assign_f; exact rfl; exact rfl)
    | (apply s_fld_pt TY; exact rfl; exact rfl; exact rfl)
    | (apply s_load_pt TY; exact rfl; exact rfl; exact rfl; (first | exact rfl | assumption))
    | (apply s_load_pts TY; exact rfl; exact rfl; exact rfl; (first | assumption | exact rfl); exact rfl)
    | (apply s_len TY; exact rfl; exact rfl; exact rfl)
    | (apply s_extract; exact rfl; exact rfl; exact rfl)
    | (apply s_box; exact rfl; exact rfl; exact rfl)
    | (apply s_not; exact rfl; exact rfl)
    | (apply s_lss; exact rfl; exact rfl; exact rfl)
    | (apply s_gtr; exact rfl; exact rfl; exact rfl)
    | (apply s_geq; exact rfl; exact rfl; exact rfl)
    | (apply s_eql; exact rfl; exact rfl; exact rfl)
    | (apply s_neq; exact rfl; exact rfl; exact rfl)
    | (apply s_move_o; exact rfl; exact rfl)
    | (apply s_move_x; exact rfl; exact rfl)
    | (apply s_assign_x; exact rfl; exact rfl)
    | (apply s_assign_o; exact rfl; exact rfl)
    | (apply s_fld_bx TY; exact rfl; exact rfl; exact rfl)
    | (apply s_load_bx_f TY; exact rfl; exact rfl; exact rfl; exact rfl; exact rfl)
    | (apply s_load_bx_x TY; exact rfl; exact rfl; exact rfl; exact rfl; exact rfl)
    | (apply s_load_bx_o TY; exact rfl; exact rfl; exact rfl; exact rfl; exact rfl)
    | (apply s_load_bxs TY; exact rfl; exact rfl; exact rfl; exact rfl; exact rfl; exact rfl)
    | (apply s_load_row TY; exact rfl; exact rfl; exact rfl; exact rfl; (first | exact rfl | assumption))
    | (apply s_len_nil TY; exact rfl; exact rfl; exact rfl)
    | (apply s_len_ow TY; exact rfl; exact rfl; exact rfl; exact rfl)
    | (apply s_len_str TY; exact rfl; exact rfl; exact rfl)
    | (apply s_makefn; exact rfl; exact rfl)
    | (apply s_pickT; exact rfl; exact rfl; (first | exact rfl | assumption); exact rfl)
    | (apply s_pickF; exact rfl; exact rfl; (first | exact rfl | assumption); exact rfl)
    | apply w_seq
    | apply w_region
    | apply s_nil
    | apply t_norm
    | apply t_exit
    | apply t_ret
    | apply k_hit
    | (apply k_miss; exact rfl)
    | apply k_norm
    | apply k_ret
    | apply w_block
    | apply w_exit
    | apply w_ret
    | apply w_skip
    | (apply s_call (awake_s); exact rfl; exact rfl; exact rfl; exact rfl)
    | (apply s_call (CopyHole_s h (by omega) (by omega)); exact rfl; exact rfl; exact rfl; exact rfl)
    | (apply s_call (CheckHole_s h ⟨by omega, by omega⟩); exact rfl; exact rfl; exact rfl; exact rfl)
    | (apply s_call (refCheckHole_s h); exact rfl; exact rfl; exact rfl; exact rfl)
    | (apply s_call (Within_s _ _ _); exact rfl; exact rfl; exact rfl; exact rfl)
    | (apply s_call (hC); exact rfl; exact rfl; exact rfl; exact rfl)
    | (apply s_call (hL); exact rfl; exact rfl; exact rfl; exact rfl)
    | (apply s_call (hS); exact rfl; exact rfl; exact rfl; exact rfl)
    | (apply s_call (rC); exact rfl; exact rfl; exact rfl; exact rfl)
    | (apply s_call (rL); exact rfl; exact rfl; exact rfl; exact rfl)
    | (apply s_call (rS); exact rfl; exact rfl; exact rfl; exact rfl)
    | (apply s_sub; exact rfl; exact rfl; exact rfl; (omega))
    | (apply g_skip; exact rfl; (first | exact rfl | assumption); exact rfl)
    | (apply g_skipu; exact rfl; exact rfl; exact rfl)
    | (apply g_move_f; exact rfl; (first | exact rfl | assumption); exact rfl; exact rfl)
    | (apply g_assign_f; exact rfl; (first | exact rfl | assumption); exact rfl; exact rfl)
    | (apply g_fld_pt TY; exact rfl; (first | exact rfl | assumption); exact rfl; exact rfl; exact rfl)
    | (apply g_load_pt TY; exact rfl; (first | exact rfl | assumption); exact rfl; exact rfl; exact rfl; (first | exact rfl | assumption))
    | (apply g_load_pts TY; exact rfl; (first | exact rfl | assumption); exact rfl; exact rfl; exact rfl; (first | assumption | exact rfl); exact rfl)
    | (apply g_len TY; exact rfl; (first | exact rfl | assumption); exact rfl; exact rfl; exact rfl)
    | (apply g_gtr; exact rfl; (first | exact rfl | assumption); exact rfl; exact rfl; exact rfl)
    | (apply g_geq; exact rfl; (first | exact rfl | assumption); exact rfl; exact rfl; exact rfl)
    | (apply g_eql; exact rfl; (first | exact rfl | assumption); exact rfl; exact rfl; exact rfl)
    | (apply g_neq; exact rfl; (first | exact rfl | assumption); exact rfl; exact rfl; exact rfl)
    | (apply g_move_o; exact rfl; (first | exact rfl | assumption); exact rfl; exact rfl)
    | (apply g_move_x; exact rfl; (first | exact rfl | assumption); exact rfl; exact rfl)
    | (apply g_assign_x; exact rfl; (first | exact rfl | assumption); exact rfl; exact rfl)
    | (apply g_assign_o; exact rfl; (first | exact rfl | assumption); exact rfl; exact rfl)
    | (apply g_fld_bx TY; exact rfl; (first | exact rfl | assumption); exact rfl; exact rfl; exact rfl)
    | (apply g_load_bx_f TY; exact rfl; (first | exact rfl | assumption); exact rfl; exact rfl; exact rfl; exact rfl; exact rfl)
    | (apply g_load_bx_x TY; exact rfl; (first | exact rfl | assumption); exact rfl; exact rfl; exact rfl; exact rfl; exact rfl)
    | (apply g_load_bx_o TY; exact rfl; (first | exact rfl | assumption); exact rfl; exact rfl; exact rfl; exact rfl; exact rfl)
    | (apply g_load_bxs TY; exact rfl; (first | exact rfl | assumption); exact rfl; exact rfl; exact rfl; exact rfl; exact rfl; exact rfl)
    | (apply g_load_row TY; exact rfl; (first | exact rfl | assumption); exact rfl; exact rfl; exact rfl; exact rfl; (first | exact rfl | assumption))
    | (apply g_len_nil TY; exact rfl; (first | exact rfl | assumption); exact rfl; exact rfl; exact rfl)
    | (apply g_len_ow TY; exact rfl; (first | exact rfl | assumption); exact rfl; exact rfl; exact rfl; exact rfl)
    | (apply g_len_str TY; exact rfl; (first | exact rfl | assumption); exact rfl; exact rfl; exact rfl)
    | (apply g_pickT; exact rfl; (first | exact rfl | assumption); exact rfl; exact rfl; (first | exact rfl | assumption); exact rfl)
    | (apply g_pickF; exact rfl; (first | exact rfl | assumption); exact rfl; exact rfl; (first | exact rfl | assumption); exact rfl)
    | (apply g_call (awake_s); exact rfl; (first | exact rfl | assumption); exact rfl; exact rfl; exact rfl; exact rfl)
    | (apply g_call (CopyHole_s h (by omega) (by omega)); exact rfl; (first | exact rfl | assumption); exact rfl; exact rfl; exact rfl; exact rfl)
    | (apply g_call (CheckHole_s h ⟨by omega, by omega⟩); exact rfl; (first | exact rfl | assumption); exact rfl; exact rfl; exact rfl; exact rfl)
    | (apply g_call (refCheckHole_s h); exact rfl; (first | exact rfl | assumption); exact rfl; exact rfl; exact rfl; exact rfl)
    | (apply g_call (Within_s _ _ _); exact rfl; (first | exact rfl | assumption); exact rfl; exact rfl; exact rfl; exact rfl)
    | (apply g_call (hC); exact rfl; (first | exact rfl | assumption); exact rfl; exact rfl; exact rfl; exact rfl)
    | (apply g_call (hL); exact rfl; (first | exact rfl | assumption); exact rfl; exact rfl; exact rfl; exact rfl)
    | (apply g_call (hS); exact rfl; (first | exact rfl | assumption); exact rfl; exact rfl; exact rfl; exact rfl)
    | (apply g_call (rC); exact rfl; (first | exact rfl | assumption); exact rfl; exact rfl; exact rfl; exact rfl)
    | (apply g_call (rL); exact rfl; (first | exact rfl | assumption); exact rfl; exact rfl; exact rfl; exact rfl)
    | (apply g_call (rS); exact rfl; (first | exact rfl | assumption); exact rfl; exact rfl; exact rfl; exact rfl)
    | (apply s_idxN TY; exact rfl; exact rfl; exact rfl; exact rfl; assumption; assumption)
    | (apply s_idxN_ow TY; exact rfl; exact rfl; exact rfl; exact rfl; exact rfl; assumption)
    | (apply s_idx TY; exact rfl; exact rfl; exact rfl; exact rfl; omega; omega; assumption)
    | (apply w_condT; exact rfl; (first | exact rfl | assumption))
    | (apply w_condF; exact rfl; (first | exact rfl | assumption)))
        all_goals apply w_draw 5 rfl (by kernel_rfl)
        all_goals repeat (first
    | (apply s_idxA Tryd.underlying75 hi3 hz3; exact rfl; exact rfl; exact rfl; decide; decide)
    | (apply s_move_f; exact rfl; exact rfl)
    | (apply s_assign_f; exact rfl; exact rfl)
    | (apply s_fld_pt TY; exact rfl; exact rfl; exact rfl)
    | (apply s_load_pt TY; exact rfl; exact rfl; exact rfl; (first | exact rfl | assumption))
    | (apply s_load_pts TY; exact rfl; exact rfl; exact rfl; (first | assumption | exact rfl); exact rfl)
    | (apply s_len TY; exact rfl; exact rfl; exact rfl)
    | (apply s_extract; exact rfl; exact rfl; exact rfl)
    | (apply s_box; exact rfl; exact rfl; exact rfl)
    | (apply s_not; exact rfl; exact rfl)
    | (apply s_lss; exact rfl; exact rfl; exact rfl)
    | (apply s_gtr; exact rfl; exact rfl; exact rfl)
    | (apply s_geq; exact rfl; exact rfl; exact rfl)
    | (apply s_eql; exact rfl; exact rfl; exact rfl)
    | (apply s_neq; exact rfl; exact rfl; exact rfl)
    | (apply s_move_o; exact rfl; exact rfl)
    | (apply s_move_x; exact rfl; exact rfl)
    | (apply s_assign_x; exact rfl; exact rfl)
    | (apply s_assign_o; exact rfl; exact rfl)
    | (apply s_fld_bx TY; exact rfl; exact rfl; exact rfl)
    | (apply s_load_bx_f TY; exact rfl; exact rfl; exact rfl; exact rfl; exact rfl)
    | (apply s_load_bx_x TY; exact rfl; exact rfl; exact rfl; exact rfl; exact rfl)
    | (apply s_load_bx_o TY; exact rfl; exact rfl; exact rfl; exact rfl; exact rfl)
    | (apply s_load_bxs TY; exact rfl; exact rfl; exact rfl; exact rfl; exact rfl; exact rfl)
    | (apply s_load_row TY; exact rfl; exact rfl; exact rfl; exact rfl; (first | exact rfl | assumption))
    | (apply s_len_nil TY; exact rfl; exact rfl; exact rfl)
    | (apply s_len_ow TY; exact rfl; exact rfl; exact rfl; exact rfl)
    | (apply s_len_str TY; exact rfl; exact rfl; exact rfl)
    | (apply s_makefn; exact rfl; exact rfl)
    | (apply s_pickT; exact rfl; exact rfl; (first | exact rfl | assumption); exact rfl)
    | (apply s_pickF; exact rfl; exact rfl; (first | exact rfl | assumption); exact rfl)
    | apply w_seq
    | apply w_region
    | apply s_nil
    | apply t_norm
    | apply t_exit
    | apply t_ret
    | apply k_hit
    | (apply k_miss; exact rfl)
    | apply k_norm
    | apply k_ret
    | apply w_block
    | apply w_exit
    | apply w_ret
    | apply w_skip
    | (apply s_call (awake_s); exact rfl; exact rfl; exact rfl; exact rfl)
    | (apply s_call (CopyHole_s h (by omega) (by omega)); exact rfl; exact rfl; exact rfl; exact rfl)
    | (apply s_call (CheckHole_s h ⟨by omega, by omega⟩); exact rfl; exact rfl; exact rfl; exact rfl)
    | (apply s_call (refCheckHole_s h); exact rfl; exact rfl; exact rfl; exact rfl)
    | (apply s_call (Within_s _ _ _); exact rfl; exact rfl; exact rfl; exact rfl)
    | (apply s_call (hC); exact rfl; exact rfl; exact rfl; exact rfl)
    | (apply s_call (hL); exact rfl; exact rfl; exact rfl; exact rfl)
    | (apply s_call (hS); exact rfl; exact rfl; exact rfl; exact rfl)
    | (apply s_call (rC); exact rfl; exact rfl; exact rfl; exact rfl)
    | (apply s_call (rL); exact rfl; exact rfl; exact rfl; exact rfl)
    | (apply s_call (rS); exact rfl; exact rfl; exact rfl; exact rfl)
    | (apply s_sub; exact rfl; exact rfl; exact rfl; (omega))
    | (apply g_skip; exact rfl; (first | exact rfl | assumption); exact rfl)
    | (apply g_skipu; exact rfl; exact rfl; exact rfl)
    | (apply g_move_f; exact rfl; (first | exact rfl | assumption); exact rfl; exact rfl)
    | (apply g_assign_f; exact rfl; (first | exact rfl | assumption); exact rfl; exact rfl)
    | (apply g_fld_pt TY; exact rfl; (first | exact rfl | assumption); exact rfl; exact rfl; exact rfl)
    | (apply g_load_pt TY; exact rfl; (first | exact rfl | assumption); exact rfl; exact rfl; exact rfl; (first | exact rfl | assumption))
    | (apply g_load_pts TY; exact rfl; (first | exact rfl | assumption); exact rfl; exact rfl; exact rfl; (first | assumption | exact rfl); exact rfl)
    | (apply g_len TY; exact rfl; (first | exact rfl | assumption); exact rfl; exact rfl; exact rfl)
    | (apply g_gtr; exact rfl; (first | exact rfl | assumption); exact rfl; exact rfl; exact rfl)
    | (apply g_geq; exact rfl; (first | exact rfl | assumption); exact rfl; exact rfl; exact rfl)
    | (apply g_eql; exact rfl; (first | exact rfl | assumption); exact rfl; exact rfl; exact rfl)
    | (apply g_neq; exact rfl; (first | exact rfl | assumption); exact rfl; exact rfl; exact rfl)
    | (apply g_move_o; exact rfl; (first | exact rfl | assumption); exact rfl; exact rfl)
    | (apply g_move_x; exact rfl; (first | exact rfl | assumption); exact rfl; exact rfl)
    | (apply g_assign_x; exact rfl; (first | exact rfl | assumption); exact rfl; exact rfl)
    | (apply g_assign_o; exact rfl; (first | exact rfl | assumption); exact rfl; exact rfl)
    | (apply g_fld_bx TY; exact rfl; (first | exact rfl | assumption); exact rfl; exact rfl; exact rfl)
    | (apply g_load_bx_f TY; exact rfl; (first | exact rfl | assumption); exact rfl; exact rfl; exact rfl; exact rfl; exact rfl)
    | (apply g_load_bx_x TY; exact rfl; (first | exact rfl | assumption); exact rfl; exact rfl; exact rfl; exact rfl; exact rfl)
    | (apply g_load_bx_o TY; exact rfl; (first | exact rfl | assumption); exact rfl; exact rfl; exact rfl; exact rfl; exact rfl)
    | (apply g_load_bxs TY; exact rfl; (first | exact rfl | assumption); exact rfl; exact rfl; exact rfl; exact rfl; exact rfl; exact rfl)
    | (apply g_load_row TY; exact rfl; (first | exact rfl | assumption); exact rfl; exact rfl; exact rfl; exact rfl; (first | exact rfl | assumption))
    | (apply g_len_nil TY; exact rfl; (first | exact rfl | assumption); exact rfl; exact rfl; exact rfl)
    | (apply g_len_ow TY; exact rfl; (first | exact rfl | assumption); exact rfl; exact rfl; exact rfl; exact rfl)
    | (apply g_len_str TY; exact rfl; (first | exact rfl | assumption); exact rfl; exact rfl; exact rfl)
    | (apply g_pickT; exact rfl; (first | exact rfl | assumption); exact rfl; exact rfl; (first | exact rfl | assumption); exact rfl)
    | (apply g_pickF; exact rfl; (first | exact rfl | assumption); exact rfl; exact rfl; (first | exact rfl | assumption); exact rfl)
    | (apply g_call (awake_s); exact rfl; (first | exact rfl | assumption); exact rfl; exact rfl; exact rfl; exact rfl)
    | (apply g_call (CopyHole_s h (by omega) (by omega)); exact rfl; (first | exact rfl | assumption); exact rfl; exact rfl; exact rfl; exact rfl)
    | (apply g_call (CheckHole_s h ⟨by omega, by omega⟩); exact rfl; (first | exact rfl | assumption); exact rfl; exact rfl; exact rfl; exact rfl)
    | (apply g_call (refCheckHole_s h); exact rfl; (first | exact rfl | assumption); exact rfl; exact rfl; exact rfl; exact rfl)
    | (apply g_call (Within_s _ _ _); exact rfl; (first | exact rfl | assumption); exact rfl; exact rfl; exact rfl; exact rfl)
    | (apply g_call (hC); exact rfl; (first | exact rfl | assumption); exact rfl; exact rfl; exact rfl; exact rfl)
    | (apply g_call (hL); exact rfl; (first | exact rfl | assumption); exact rfl; exact rfl; exact rfl; exact rfl)
    | (apply g_call (hS); exact rfl; (first | exact rfl | assumption); exact rfl; exact rfl; exact rfl; exact rfl)
    | (apply g_call (rC); exact rfl; (first | exact rfl | assumption); exact rfl; exact rfl; exact rfl; exact rfl)
    | (apply g_call (rL); exact rfl; (first | exact rfl | assumption); exact rfl; exact rfl; exact rfl; exact rfl)
    | (apply g_call (rS); exact rfl; (first | exact rfl | assumption); exact rfl; exact rfl; exact rfl; exact rfl)
    | (apply s_idxN TY; exact rfl; exact rfl; exact rfl; exact rfl; assumption; assumption)
    | (apply s_idxN_ow TY; exact rfl; exact rfl; exact rfl; exact rfl; exact rfl; assumption)
    | (apply s_idx TY; exact rfl; exact rfl; exact rfl; exact rfl; omega; omega; assumption)
    | (apply w_condT; exact rfl; (first | exact rfl | assumption))
    | (apply w_condF; exact rfl; (first | exact rfl | assumption)))
        all_goals apply w_draw 5 rfl (by kernel_rfl)
        all_goals repeat (first
    | (apply s_move_f; exact rfl; exact rfl)
    | (apply s_assign_f; exact rfl; exact rfl)
    | (apply s_fld_pt TY; exact rfl; exact rfl; exact rfl)
    | (apply s_load_pt TY; exact rfl; exact rfl; exact rfl; (first | exact rfl | assumption))
    | (apply s_load_pts TY; exact rfl; exact rfl; exact rfl; (first | assumption | exact rfl); exact rfl)
    | (apply s_len TY; exact rfl; exact rfl; exact rfl)
    | (apply s_extract; exact rfl; exact rfl; exact rfl)
    | (apply s_box; exact rfl; exact rfl; exact rfl)
    | (apply s_not; exact rfl; exact rfl)
    | (apply s_lss; exact rfl; exact rfl; exact rfl)
    | (apply s_gtr; exact rfl; exact rfl; exact rfl)
    | (apply s_geq; exact rfl; exact rfl; exact rfl)
    | (apply s_eql; exact rfl; exact rfl; exact rfl)
    | (apply s_neq; exact rfl; exact rfl; exact rfl)
    | (apply s_move_o; exact rfl; exact rfl)
    | (apply s_move_x; exact rfl; exact rfl)
    | (apply s_assign_x; exact rfl; exact rfl)
    | (apply s_assign_o; exact rfl; exact rfl)
    | (apply s_fld_bx TY; exact rfl; exact rfl; exact rfl)
    | (apply s_load_bx_f TY; exact rfl; exact rfl; exact rfl; exact rfl; exact rfl)
    | (apply s_load_bx_x TY; exact rfl; exact rfl; exact rfl; exact rfl; exact rfl)
    | (apply s_load_bx_o TY; exact rfl; exact rfl; exact rfl; exact rfl; exact rfl)
    | (apply s_load_bxs TY; exact rfl; exact rfl; exact rfl; exact rfl; exact rfl; exact rfl)
    | (apply s_load_row TY; exact rfl; exact rfl; exact rfl; exact rfl; (first | exact rfl | assumption))
    | (apply s_len_nil TY; exact rfl; exact rfl; exact rfl)
    | (apply s_len_ow TY; exact rfl; exact rfl; exact rfl; exact rfl)
    | (apply s_len_str TY; exact rfl; exact rfl; exact rfl)
    | (apply s_makefn; exact rfl; exact rfl)
    | (apply s_pickT; exact rfl; exact rfl; (first | exact rfl | assumption); exact rfl)
    | (apply s_pickF; exact rfl; exact rfl; (first | exact rfl | assumption); exact rfl)
    | apply w_seq
    | apply w_region
    | apply s_nil
    | apply t_norm
    | apply t_exit
    | apply t_ret
    | apply k_hit
    | (apply k_miss; exact rfl)
    | apply k_norm
    | apply k_ret
    | apply w_block
    | apply w_exit
    | apply w_ret
    | apply w_skip
    | (apply s_call (awake_s); exact rfl; exact rfl; exact rfl; exact rfl)
    | (apply s_call (CopyHole_s h (by omega) (by omega)); exact rfl; exact rfl; exact rfl; exact rfl)
    | (apply s_call (CheckHole_s h ⟨by omega, by omega⟩); exact rfl; exact rfl; exact rfl; exact rfl)
    | (apply s_call (refCheckHole_s h); exact rfl; exact rfl; exact rfl; exact rfl)
    | (apply s_call (Within_s _ _ _); exact rfl; exact rfl; exact rfl; exact rfl)
    | (apply s_call (hC); exact rfl; exact rfl; exact rfl; exact rfl)
    | (apply s_call (hL); exact rfl; exact rfl; exact rfl; exact rfl)
    | (apply s_call (hS); exact rfl; exact rfl; exact rfl; exact rfl)
    | (apply s_call (rC); exact rfl; exact rfl; exact rfl; exact rfl)
    | (apply s_call (rL); exact rfl; exact rfl; exact rfl; exact rfl)
    | (apply s_call (rS); exact rfl; exact rfl; exact rfl; exact rfl)
    | (apply s_sub; exact rfl; exact rfl; exact rfl; (omega))
    | (apply g_skip; exact rfl; (first | exact rfl | assumption); exact rfl)
    | (apply g_skipu; exact rfl; exact rfl; exact rfl)
    | (apply g_move_f; exact rfl; (first | exact rfl | assumption); exact rfl; exact rfl)
    | (apply g_assign_f; exact rfl; (first | exact rfl | assumption); exact rfl; exact rfl)
    | (apply g_fld_pt TY; exact rfl; (first | exact rfl | assumption); exact rfl; exact rfl; exact rfl)
    | (apply g_load_pt TY; exact rfl; (first | exact rfl | assumption); exact rfl; exact rfl; exact rfl; (first | exact rfl | assumption))
    | (apply g_load_pts TY; exact rfl; (first | exact rfl | assumption); exact rfl; exact rfl; exact rfl; (first | assumption | exact rfl); exact rfl)
    | (apply g_len TY; exact rfl; (first | exact rfl | assumption); exact rfl; exact rfl; exact rfl)
    | (apply g_gtr; exact rfl; (first | exact rfl | assumption); exact rfl; exact rfl; exact rfl)
    | (apply g_geq; exact rfl; (first | exact rfl | assumption); exact rfl; exact rfl; exact rfl)
    | (apply g_eql; exact rfl; (first | exact rfl | assumption); exact rfl; exact rfl; exact rfl)
    | (apply g_neq; exact rfl; (first | exact rfl | assumption); exact rfl; exact rfl; exact rfl)
    | (apply g_move_o; exact rfl; (first | exact rfl | assumption); exact rfl; exact rfl)
    | (apply g_move_x; exact rfl; (first | exact rfl | assumption); exact rfl; exact rfl)
    | (apply g_assign_x; exact rfl; (first | exact rfl | assumption); exact rfl; exact rfl)
    | (apply g_assign_o; exact rfl; (first | exact rfl | assumption); exact rfl; exact rfl)
    | (apply g_fld_bx TY; exact rfl; (first | exact rfl | assumption); exact rfl; exact rfl; exact rfl)
    | (apply g_load_bx_f TY; exact rfl; (first | exact rfl | assumption); exact rfl; exact rfl; exact rfl; exact rfl; exact rfl)
    | (apply g_load_bx_x TY; exact rfl; (first | exact rfl | assumption); exact rfl; exact rfl; exact rfl; exact rfl; exact rfl)
    | (apply g_load_bx_o TY; exact rfl; (first | exact rfl | assumption); exact rfl; exact rfl; exact rfl; exact rfl; exact rfl)
    | (apply g_load_bxs TY; exact rfl; (first | exact rfl | assumption); exact rfl; exact rfl; exact rfl; exact rfl; exact rfl; exact rfl)
    | (apply g_load_row TY; exact rfl; (first | exact rfl | assumption); exact rfl; exact rfl; exact rfl; exact rfl; (first | exact rfl | assumption))
    | (apply g_len_nil TY; exact rfl; (first | exact rfl | assumption); exact rfl; exact rfl; exact rfl)
    | (apply g_len_ow TY; exact rfl; (first | exact rfl | assumption); exact rfl; exact rfl; exact rfl; exact rfl)
    | (apply g_len_str TY; exact rfl; (first | exact rfl | assumption); exact rfl; exact rfl; exact rfl)
    | (apply g_pickT; exact rfl; (first | exact rfl | assumption); exact rfl; exact rfl; (first | exact rfl | assumption); exact rfl)
    | (apply g_pickF; exact rfl; (first | exact rfl | assumption); exact rfl; exact rfl; (first | exact rfl | assumption); exact rfl)
    | (apply g_call (awake_s); exact rfl; (first | exact rfl | assumption); exact rfl; exact rfl; exact rfl; exact rfl)
    | (apply g_call (CopyHole_s h (by omega) (by omega)); exact rfl; (first | exact rfl | assumption); exact rfl; exact rfl; exact rfl; exact rfl)
    | (apply g_call (CheckHole_s h ⟨by omega, by omega⟩); exact rfl; (first | exact rfl | assumption); exact rfl; exact rfl; exact rfl; exact rfl)
    | (apply g_call (refCheckHole_s h); exact rfl; (first | exact rfl | assumption); exact rfl; exact rfl; exact rfl; exact rfl)
    | (apply g_call (Within_s _ _ _); exact rfl; (first | exact rfl | assumption); exact rfl; exact rfl; exact rfl; exact rfl)
    | (apply g_call (hC); exact rfl; (first | exact rfl | assumption); exact rfl; exact rfl; exact rfl; exact rfl)
    | (apply g_call (hL); exact rfl; (first | exact rfl | assumption); exact rfl; exact rfl; exact rfl; exact rfl)
    | (apply g_call (hS); exact rfl; (first | exact rfl | assumption); exact rfl; exact rfl; exact rfl; exact rfl)
    | (apply g_call (rC); exact rfl; (first | exact rfl | assumption); exact rfl; exact rfl; exact rfl; exact rfl)
    | (apply g_call (rL); exact rfl; (first | exact rfl | assumption); exact rfl; exact rfl; exact rfl; exact rfl)
    | (apply g_call (rS); exact rfl; (first | exact rfl | assumption); exact rfl; exact rfl; exact rfl; exact rfl)
    | (apply s_idxN TY; exact rfl; exact rfl; exact rfl; exact rfl; assumption; assumption)
    | (apply s_idxN_ow TY; exact rfl; exact rfl; exact rfl; exact rfl; exact rfl; assumption)
    | (apply s_idx TY; exact rfl; exact rfl; exact rfl; exact rfl; omega; omega; assumption)
    | (apply w_condT; exact rfl; (first | exact rfl | assumption))
    | (apply w_condF; exact rfl; (first | exact rfl | assumption)))
        all_goals first | exact lv_ret (ret1 rfl (res_tmp rfl)) | exact lv_ret (ret1 rfl (res_tmp (avb (by simp))))
  · obtain ⟨e1, e2, e3⟩ := hole_err e d n
    rw [e1] at hC; rw [e2] at hL; rw [e3] at hS
    have q3 : (!decide ((checkHole h).2 = 0)) = true := by simp [e]
    repeat (first
    | (apply s_move_f; exact rfl; exact rfl)
    | (apply s_assign_f; exact rfl; exact rfl)
    | (apply s_fld_pt TY; exact rfl; exact rfl; exact rfl)
    | (apply s_load_pt TY; exact rfl; exact rfl; exact rfl; (first | exact rfl | assumption))
    | (apply s_load_pts TY; exact rfl; exact rfl; exact rfl; (first | assumption | exact rfl); exact rfl)
    | (apply s_len TY; exact rfl; exact rfl; exact rfl)
    | (apply s_extract; exact rfl; exact rfl; exact rfl)
    | (apply s_box; exact rfl; exact rfl; exact rfl)
    | (apply s_not; exact rfl; exact rfl)
    | (apply s_lss; exact rfl; exact rfl; exact rfl)
    | (apply s_gtr; exact rfl; exact rfl; exact rfl)
    | (apply s_geq; exact rfl; exact rfl; exact rfl)
    | (apply s_eql; exact rfl; exact rfl; exact rfl)
    | (apply s_neq; exact rfl; exact rfl; exact rfl)
    | (apply s_move_o; exact rfl; exact rfl)
    | (apply s_move_x; exact rfl; exact rfl)
    | (apply s_assign_x; exact rfl; exact rfl)
    | (apply s_assign_o; exact rfl; exact rfl)
    | (apply s_fld_bx TY; exact rfl; exact rfl; exact rfl)
    | (apply s_load_bx_f TY; exact rfl; exact rfl; exact rfl; exact rfl; exact rfl)
    | (apply s_load_bx_x TY; exact rfl; exact rfl; exact rfl; exact rfl; exact rfl)
    | (apply s_load_bx_o TY; exact rfl; exact rfl; exact rfl; exact rfl; exact rfl)
    | (apply s_load_bxs TY; exact rfl; exact rfl; exact rfl; exact rfl; exact rfl; exact rfl)
    | (apply s_load_row TY; exact rfl; exact rfl; exact rfl; exact rfl; (first | exact rfl | assumption))
    | (apply s_len_nil TY; exact rfl; exact rfl; exact rfl)
    | (apply s_len_ow TY; exact rfl; exact rfl; exact rfl; exact rfl)
    | (apply s_len_str TY; exact rfl; exact rfl; exact rfl)
    | (apply s_makefn; exact rfl; exact rfl)
    | (apply s_pickT; exact rfl; exact rfl; (first | exact rfl | assumption); exact rfl)
    | (apply s_pickF; exact rfl; exact rfl; (first | exact rfl | assumption); exact rfl)
    | apply w_seq
    | apply w_region
    | apply s_nil
    | apply t_norm
    | apply t_exit
    | apply t_ret
    | apply k_hit
    | (apply k_miss; exact rfl)
    | apply k_norm
    | apply k_ret
    | apply w_block
    | apply w_exit
    | apply w_ret
    | apply w_skip
    | (apply s_call (awake_s); exact rfl; exact rfl; exact rfl; exact rfl)
    | (apply s_call (CopyHole_s h (by omega) (by omega)); exact rfl; exact rfl; exact rfl; exact rfl)
    | (apply s_call (CheckHole_s h ⟨by omega, by omega⟩); exact rfl; exact rfl; exact rfl; exact rfl)
    | (apply s_call (refCheckHole_s h); exact rfl; exact rfl; exact rfl; exact rfl)
    | (apply s_call (Within_s _ _ _); exact rfl; exact rfl; exact rfl; exact rfl)
    | (apply s_call (hC); exact rfl; exact rfl; exact rfl; exact rfl)
    | (apply s_call (hL); exact rfl; exact rfl; exact rfl; exact rfl)
    | (apply s_call (hS); exact rfl; exact rfl; exact rfl; exact rfl)
    | (apply s_call (rC); exact rfl; exact rfl; exact rfl; exact rfl)
    | (apply s_call (rL); exact rfl; exact rfl; exact rfl; exact rfl)
    | (apply s_call (rS); exact rfl; exact rfl; exact rfl; exact rfl)
    | (apply s_sub; exact rfl; exact rfl; exact rfl; (omega))
    | (apply g_skip; exact rfl; (first | exact rfl | assumption); exact rfl)
    | (apply g_skipu; exact rfl; exact rfl; exact rfl)
    | (apply g_move_f; exact rfl; (first | exact rfl | assumption); exact rfl; exact rfl)
    | (apply g_assign_f; exact rfl; (first | exact rfl | assumption); exact rfl; exact rfl)
    | (apply g_fld_pt TY; exact rfl; (first | exact rfl | assumption); exact rfl; exact rfl; exact rfl)
    | (apply g_load_pt TY; exact rfl; (first | exact rfl | assumption); exact rfl; exact rfl; exact rfl; (first | exact rfl | assumption))
    | (apply g_load_pts TY; exact rfl; (first | exact rfl | assumption); exact rfl; exact rfl; exact rfl; (first | assumption | exact rfl); exact rfl)
    | (apply g_len TY; exact rfl; (first | exact rfl | assumption); exact rfl; exact rfl; exact rfl)
    | (apply g_gtr; exact rfl; (first | exact rfl | assumption); exact rfl; exact rfl; exact rfl)
    | (apply g_geq; exact rfl; (first | exact rfl | assumption); exact rfl; exact rfl; exact rfl)
    | (apply g_eql; exact rfl; (first | exact rfl | assumption); exact rfl; exact rfl; exact rfl)
    | (apply g_neq; exact rfl; (first | exact rfl | assumption); exact rfl; exact rfl; exact rfl)
    | (apply g_move_o; exact rfl; (first | exact rfl | assumption); exact rfl; exact rfl)
    | (apply g_move_x; exact rfl; (first | exact rfl | assumption); exact rfl; exact rfl)
    | (apply g_assign_x; exact rfl; (first | exact rfl | assumption); exact rfl; exact rfl)
    | (apply g_assign_o; exact rfl; (first | exact rfl | assumption); exact rfl; exact rfl)
    | (apply g_fld_bx TY; exact rfl; (first | exact rfl | assumption); exact rfl; exact rfl; exact rfl)
    | (apply g_load_bx_f TY; exact rfl; (first | exact rfl | assumption); exact rfl; exact rfl; exact rfl; exact rfl; exact rfl)
    | (apply g_load_bx_x TY; exact rfl; (first | exact rfl | assumption); exact rfl; exact rfl; exact rfl; exact rfl; exact rfl)
    | (apply g_load_bx_o TY; exact rfl; (first | exact rfl | assumption); exact rfl; exact rfl; exact rfl; exact rfl; exact rfl)
    | (apply g_load_bxs TY; exact rfl; (first | exact rfl | assumption); exact rfl; exact rfl; exact rfl; exact rfl; exact rfl; exact rfl)
    | (apply g_load_row TY; exact rfl; (first | exact rfl | assumption); exact rfl; exact rfl; exact rfl; exact rfl; (first | exact rfl | assumption))
    | (apply g_len_nil TY; exact rfl; (first | exact rfl | assumption); exact rfl; exact rfl; exact rfl)
    | (apply g_len_ow TY; exact rfl; (first | exact rfl | assumption); exact rfl; exact rfl; exact rfl; exact rfl)
    | (apply g_len_str TY; exact rfl; (first | exact rfl | assumption); exact rfl; exact rfl; exact rfl)
    | (apply g_pickT; exact rfl; (first | exact rfl | assumption); exact rfl; exact rfl; (first | exact rfl | assumption); exact rfl)
    | (apply g_pickF; exact rfl; (first | exact rfl | assumption); exact rfl; exact rfl; (first | exact rfl | assumption); exact rfl)
    | (apply g_call (awake_s); exact rfl; (first | exact rfl | assumption); exact rfl; exact rfl; exact rfl; exact rfl)
    | (apply g_call (CopyHole_s h (by omega) (by omega)); exact rfl; (first | exact rfl | assumption); exact rfl; exact rfl; exact rfl; exact rfl)
    | (apply g_call (CheckHole_s h ⟨by omega, by omega⟩); exact rfl; (first | exact rfl | assumption); exact rfl; exact rfl; exact rfl; exact rfl)
    | (apply g_call (refCheckHole_s h); exact rfl; (first | exact rfl | assumption); exact rfl; exact rfl; exact rfl; exact rfl)
    | (apply g_call (Within_s _ _ _); exact rfl; (first | exact rfl | assumption); exact rfl; exact rfl; exact rfl; exact rfl)
    | (apply g_call (hC); exact rfl; (first | exact rfl | assumption); exact rfl; exact rfl; exact rfl; exact rfl)
    | (apply g_call (hL); exact rfl; (first | exact rfl | assumption); exact rfl; exact rfl; exact rfl; exact rfl)
    | (apply g_call (hS); exact rfl; (first | exact rfl | assumption); exact rfl; exact rfl; exact rfl; exact rfl)
    | (apply g_call (rC); exact rfl; (first | exact rfl | assumption); exact rfl; exact rfl; exact rfl; exact rfl)
    | (apply g_call (rL); exact rfl; (first | exact rfl | assumption); exact rfl; exact rfl; exact rfl; exact rfl)
    | (apply g_call (rS); exact rfl; (first | exact rfl | assumption); exact rfl; exact rfl; exact rfl; exact rfl)
    | (apply s_idxN TY; exact rfl; exact rfl; exact rfl; exact rfl; assumption; assumption)
    | (apply s_idxN_ow TY; exact rfl; exact rfl; exact rfl; exact rfl; exact rfl; assumption)
    | (apply s_idx TY; exact rfl; exact rfl; exact rfl; exact rfl; omega; omega; assumption)
    | (apply w_condT; exact rfl; (first | exact rfl | assumption))
    | (apply w_condF; exact rfl; (first | exact rfl | assumption)))
    apply w_draw 5 rfl (by kernel_rfl)
    repeat (first
    | (apply s_idxA Tryd.underlying75 hi3 hz3; exact rfl; exact rfl; exact rfl; decide; decide)
    | (apply s_move_f; exact rfl; exact rfl)
    | (apply s_assign_f; exact rfl; exact rfl)
    | (apply s_fld_pt TY; exact rfl; exact rfl; exact rfl)
    | (apply s_load_pt TY; exact rfl; exact rfl; exact rfl; (first | exact rfl | assumption))
    | (apply s_load_pts TY; exact rfl; exact rfl; exact rfl; (first | assumption | exact rfl); exact rfl)
    | (apply s_len TY; exact rfl; exact rfl; exact rfl)
    | (apply s_extract; exact rfl; exact rfl; exact rfl)
    | (apply s_box; exact rfl; exact rfl; exact rfl)
    | (apply s_not; exact rfl; exact rfl)
    | (apply s_lss; exact rfl; exact rfl; exact rfl)
    | (apply s_gtr; exact rfl; exact rfl; exact rfl)
    | (apply s_geq; exact rfl; exact rfl; exact rfl)
    | (apply s_eql; exact rfl; exact rfl; exact rfl)
    | (apply s_neq; exact rfl; exact rfl; exact rfl)
    | (apply s_move_o; exact rfl; exact rfl)
    | (apply s_move_x; exact rfl; exact rfl)
    | (apply s_assign_x; exact rfl; exact rfl)
    | (apply s_assign_o; exact rfl; exact rfl)
    | (apply s_fld_bx TY; exact rfl; exact rfl; exact rfl)
    | (apply s_load_bx_f TY; exact rfl; exact rfl; exact rfl; exact rfl; exact rfl)
    | (apply s_load_bx_x TY; exact rfl; exact rfl; exact rfl; exact rfl; exact rfl)
    | (apply s_load_bx_o TY; exact rfl; exact rfl; exact rfl; exact rfl; exact rfl)
    | (apply s_load_bxs TY; exact rfl; exact rfl; exact rfl; exact rfl; exact rfl; exact rfl)
    | (apply s_load_row TY; exact rfl; exact rfl; exact rfl; exact rfl; (first | exact rfl | assumption))
    | (apply s_len_nil TY; exact rfl; exact rfl; exact rfl)
    | (apply s_len_ow TY; exact rfl; exact rfl; exact rfl; exact rfl)
    | (apply s_len_str TY; exact rfl; exact rfl; exact rfl)
    | (apply s_makefn; exact rfl; exact rfl)
    | (apply s_pickT; exact rfl; exact rfl; (first | exact rfl | assumption); exact rfl)
    | (apply s_pickF; exact rfl; exact rfl; (first | exact rfl | assumption); exact rfl)
    | apply w_seq
    | apply w_region
    | apply s_nil
    | apply t_norm
    | apply t_exit
    | apply t_ret
    | apply k_hit
    | (apply k_miss; exact rfl)
    | apply k_norm
    | apply k_ret
    | apply w_block
    | apply w_exit
    | apply w_ret
    | apply w_skip
    | (apply s_call (awake_s); exact rfl; exact rfl; exact rfl; exact rfl)
    | (apply s_call (CopyHole_s h (by omega) (by omega)); exact rfl; exact rfl; exact rfl; exact rfl)
    | (apply s_call (CheckHole_s h ⟨by omega, by omega⟩); exact rfl; exact rfl; exact rfl; exact rfl)
    | (apply s_call (refCheckHole_s h); exact rfl; exact rfl; exact rfl; exact rfl)
    | (apply s_call (Within_s _ _ _); exact rfl; exact rfl; exact rfl; exact rfl)
    | (apply s_call (hC); exact rfl; exact rfl; exact rfl; exact rfl)
    | (apply s_call (hL); exact rfl; exact rfl; exact rfl; exact rfl)
    | (apply s_call (hS); exact rfl; exact rfl; exact rfl; exact rfl)
    | (apply s_call (rC); exact rfl; exact rfl; exact rfl; exact rfl)
    | (apply s_call (rL); exact rfl; exact rfl; exact rfl; exact rfl)
    | (apply s_call (rS); exact rfl; exact rfl; exact rfl; exact rfl)
    | (apply s_sub; exact rfl; exact rfl; exact rfl; (omega))
    | (apply g_skip; exact rfl; (first | exact rfl | assumption); exact rfl)
    | (apply g_skipu; exact rfl; exact rfl; exact rfl)
    | (apply g_move_f; exact rfl; (first | exact rfl | assumption); exact rfl; exact rfl)
    | (apply g_assign_f; exact rfl; (first | exact rfl | assumption); exact rfl; exact rfl)
    | (apply g_fld_pt TY; exact rfl; (first | exact rfl | assumption); exact rfl; exact rfl; exact rfl)
    | (apply g_load_pt TY; exact rfl; (first | exact rfl | assumption); exact rfl; exact rfl; exact rfl; (first | exact rfl | assumption))
    | (apply g_load_pts TY; exact rfl; (first | exact rfl | assumption); exact rfl; exact rfl; exact rfl; (first | assumption | exact rfl); exact rfl)
    | (apply g_len TY; exact rfl; (first | exact rfl | assumption); exact rfl; exact rfl; exact rfl)
    | (apply g_gtr; exact rfl; (first | exact rfl | assumption); exact rfl; exact rfl; exact rfl)
    | (apply g_geq; exact rfl; (first | exact rfl | assumption); exact rfl; exact rfl; exact rfl)
    | (apply g_eql; exact rfl; (first | exact rfl | assumption); exact rfl; exact rfl; exact rfl)
    | (apply g_neq; exact rfl; (first | exact rfl | assumption); exact rfl; exact rfl; exact rfl)
    | (apply g_move_o; exact rfl; (first | exact rfl | assumption); exact rfl; exact rfl)
    | (apply g_move_x; exact rfl; (first | exact rfl | assumption); exact rfl; exact rfl)
    | (apply g_assign_x; exact rfl; (first | exact rfl | assumption); exact rfl; exact rfl)
    | (apply g_assign_o; exact rfl; (first | exact rfl | assumption); exact rfl; exact rfl)
    | (apply g_fld_bx TY; exact rfl; (first | exact rfl | assumption); exact rfl; exact rfl; exact rfl)
    | (apply g_load_bx_f TY; exact rfl; (first | exact rfl | assumption); exact rfl; exact rfl; exact rfl; exact rfl; exact rfl)
    | (apply g_load_bx_x TY; exact rfl; (first | exact rfl | assumption); exact rfl; exact rfl; exact rfl; exact rfl; exact rfl)
    | (apply g_load_bx_o TY; exact rfl; (first | exact rfl | assumption); exact rfl; exact rfl; exact rfl; exact rfl; exact rfl)
    | (apply g_load_bxs TY; exact rfl; (first | exact rfl | assumption); exact rfl; exact rfl; exact rfl; exact rfl; exact rfl; exact rfl)
    | (apply g_load_row TY; exact rfl; (first | exact rfl | assumption); exact rfl; exact rfl; exact rfl; exact rfl; (first | exact rfl | assumption))
    | (apply g_len_nil TY; exact rfl; (first | exact rfl | assumption); exact rfl; exact rfl; exact rfl)
    | (apply g_len_ow TY; exact rfl; (first | exact rfl | assumption); exact rfl; exact rfl; exact rfl; exact rfl)
    | (apply g_len_str TY; exact rfl; (first | exact rfl | assumption); exact rfl; exact rfl; exact rfl)
    | (apply g_pickT; exact rfl; (first | exact rfl | assumption); exact rfl; exact rfl; (first | exact rfl | assumption); exact rfl)
    | (apply g_pickF; exact rfl; (first | exact rfl | assumption); exact rfl; exact rfl; (first | exact rfl | assumption); exact rfl)
    | (apply g_call (awake_s); exact rfl; (first | exact rfl | assumption); exact rfl; exact rfl; exact rfl; exact rfl)
    | (apply g_call (CopyHole_s h (by omega) (by omega)); exact rfl; (first | exact rfl | assumption); exact rfl; exact rfl; exact rfl; exact rfl)
    | (apply g_call (CheckHole_s h ⟨by omega, by omega⟩); exact rfl; (first | exact rfl | assumption); exact rfl; exact rfl; exact rfl; exact rfl)
    | (apply g_call (refCheckHole_s h); exact rfl; (first | exact rfl | assumption); exact rfl; exact rfl; exact rfl; exact rfl)
    | (apply g_call (Within_s _ _ _); exact rfl; (first | exact rfl | assumption); exact rfl; exact rfl; exact rfl; exact rfl)
    | (apply g_call (hC); exact rfl; (first | exact rfl | assumption); exact rfl; exact rfl; exact rfl; exact rfl)
    | (apply g_call (hL); exact rfl; (first | exact rfl | assumption); exact rfl; exact rfl; exact rfl; exact rfl)
    | (apply g_call (hS); exact rfl; (first | exact rfl | assumption); exact rfl; exact rfl; exact rfl; exact rfl)
    | (apply g_call (rC); exact rfl; (first | exact rfl | assumption); exact rfl; exact rfl; exact rfl; exact rfl)
    | (apply g_call (rL); exact rfl; (first | exact rfl | assumption); exact rfl; exact rfl; exact rfl; exact rfl)
    | (apply g_call (rS); exact rfl; (first | exact rfl | assumption); exact rfl; exact rfl; exact rfl; exact rfl)
    | (apply s_idxN TY; exact rfl; exact rfl; exact rfl; exact rfl; assumption; assumption)
    | (apply s_idxN_ow TY; exact rfl; exact rfl; exact rfl; exact rfl; exact rfl; assumption)
    | (apply s_idx TY; exact rfl; exact rfl; exact rfl; exact rfl; omega; omega; assumption)
    | (apply w_condT; exact rfl; (first | exact rfl | assumption))
    | (apply w_condF; exact rfl; (first | exact rfl | assumption)))
    exact lv_ret (ret1 rfl (res_tmp rfl))
end Go.Proofs.YtienhiloecfgnaaDoor
namespace Go.Proofs.YtienhiloecfgnaaDoor
open Go Go.Ab Go.ChangeShapes Go.WideShapes Go.ChangeAt Go.RowKit
def arrL (p : Int × Int) : List FV := [iv p.1, iv p.2]
set_option maxRecDepth 100000 in
theorem opens_arr {W : World} : Opens Tryd.prog W 75 arrL := fun H enc base sp hd fuel cs x hx => by
  obtain ⟨xs, m, _, _, hlen, hn, hel⟩ := DataW.trod_array Tryd.underlying75 hx
  have c75 : Tryd.prog.cellsOf 75 = 2 := by kernel_rfl
  have c3 : Tryd.prog.cellsOf 3 = 1 := by kernel_rfl
  rw [c75] at hlen
  rw [c3] at hel
  obtain ⟨v0, v1, rfl⟩ : ∃ v0 v1, cs = [v0, v1] := by
    match cs, hlen with
    | [a, b], _ => exact ⟨a, b, rfl⟩
  obtain ⟨x0, x1, rfl⟩ : ∃ x0 x1, xs = [x0, x1] := by
    match xs, hn with
    | [a, b], _ => exact ⟨a, b, rfl⟩
  obtain ⟨k, q1, _, _⟩ := DataW.trod_int Tryd.underlying3 (show DataW.trod _ Tryd.prog W base sp hd m 3 [v0] = some x0 from hel 0 (by decide))
  obtain ⟨j, r1, _, _⟩ := DataW.trod_int Tryd.underlying3 (show DataW.trod _ Tryd.prog W base sp hd m 3 [v1] = some x1 from hel 1 (by decide))
  simp only [List.cons.injEq, and_true] at q1 r1
  subst q1; subst r1
  exact ⟨(k, j), RepL.cons (RepF.v _) (RepL.cons (RepF.v _) (RepL.nil _ _)), by simp [Value.oneCell']⟩
set_option maxRecDepth 100000 in
theorem arg_arr {H : Type} {enc : TypeId × Value → H} {W : World} {base : Nat} {v : Value} {d : DataW H} {ps : List MemPlace} (hv : Value.okWide Tryd.prog W .any base 75 v) (hd : DataW.Trod enc Tryd.prog W 0 (fun _ => true) true 75 v d ps) : ∃ a : Int × Int, RepF W (fun _ => False) v (.agg (arrL a)) := by
  have hv' := hv
  simp only [Value.okWide, Tryd.underlying75] at hv'
  obtain ⟨cs, e, _⟩ := hv'
  exact arg_agg opens_arr e hd
end Go.Proofs.YtienhiloecfgnaaDoor
