/- Laws on which the proofs of this seat stand. No condition. -/
import Derived.Test.YtienhiloecfgnaaDoorWays6
namespace Go.Proofs.YtienhiloecfgnaaDoor
open Go Go.RowKit Go.Proofs Go.Shelf Go.Ab
theorem celsF_len (l : List Cel) : (celsF l).length = l.length * 2 := by
  induction l with
  | nil => rfl
  | cons y l ih => simp only [celsF, List.flatMap_cons, List.length_append, List.length_cons] at *; rw [ih]; simp [celF]; omega
set_option maxRecDepth 100000 in
theorem CopyWay_s (l : List Cel) (hl : l.length ≤ 1000000) : Summ Tryd.prog GG 72 [.sl l.length (celsF l)] (.sl l.length (celsF l)) := by
  have h1 := celsF_len l
  refine summW Tryd.func72 rfl rfl 6 rfl (by simp) (fun M0 => ?_)
  repeat (first
    | (apply s_bslice_clip TY; exact rfl; exact rfl; exact rfl; exact rfl; exact rfl; exact rfl)
    | (apply s_append_copy TY; exact rfl; exact rfl; exact rfl; exact rfl; exact rfl; exact rfl; exact rfl; assumption; (unfold maxLen; omega); omega)
    | (apply s_a TY; exact rfl)
    | apply w_seq
    | apply w_region
    | apply s_nil
    | apply t_norm
    | apply t_exit
    | apply t_ret
    | apply k_hit
    | (apply k_miss; exact rfl)
    | apply k_norm
    | apply k_ret
    | apply w_block
    | apply w_exit
    | apply w_ret
    | apply w_skip
    | (apply w_condT; exact rfl; exact rfl)
    | (apply w_condF; exact rfl; exact rfl)
    | (apply s_append TY; exact rfl; exact rfl; exact rfl; exact rfl; exact rfl; exact rfl; exact rfl; exact rfl; exact rfl; (unfold maxLen; omega); omega))
  exact lv_ret (ret1 rfl (res_tmp rfl))
theorem layer_s (x : Grid) (c : Cel) (v : Valid x) (hc : InG x c) : Summ Tryd.prog GG 105 [gridF x, .agg (celF c)] (iv (layerI x c)) := by
  refine ⟨enters_of Tryd.func105 (by kernel_rfl) rfl, fun w M us hM hG R => ?_⟩
  obtain ⟨u1, us1, rfl, r1, R1⟩ := R.head
  obtain ⟨u2, us2, rfl, r2, R2⟩ := R1.head
  have := R2.end; subst this
  have := v.l6; have := v.t8; have := in_bd v hc
  obtain ⟨la, ta, lc, tc, rfl, hg⟩ := rep_gridF r1 (by omega) (by omega)
  have := rep_cel r2; subst this
  exact (layer_any la ta lc tc x c w hg v hc.1.1 hc.1.2 (by omega) (by omega)).mono fun e w' ⟨h1, h2⟩ => ⟨_, h1, RepF.v _, h2⟩
theorem isPhotons_T (n : Int) (h : photE n = 0) : Summ Tryd.prog GG 108 [iv n] (.v (.bool true)) := by
  have W := within_s n 0 1000000
  rw [show withinB n 0 1000000 = true by simpa [photE, unlessE] using h] at W
  refine summW Tryd.func108 rfl rfl 5 rfl (by simp) (fun M0 => ?_)
  repeat (first
    | (apply s_a TY; exact rfl)
    | apply w_seq
    | apply w_region
    | apply s_nil
    | apply t_norm
    | apply t_exit
    | apply t_ret
    | apply k_hit
    | (apply k_miss; exact rfl)
    | apply k_norm
    | apply k_ret
    | apply w_block
    | apply w_exit
    | apply w_ret
    | apply w_skip
    | (apply w_condT; exact rfl; exact rfl)
    | (apply w_condF; exact rfl; exact rfl)
    | (apply s_k (W); exact rfl)
    | (apply s_k (within_s _ _ _); exact rfl))
  exact lv_ret (ret1 rfl (res_tmp rfl))
theorem isPhotons_F (n : Int) (h : photE n ≠ 0) : Summ Tryd.prog GG 108 [iv n] (.v (.bool false)) := by
  have W := within_s n 0 1000000
  rw [show withinB n 0 1000000 = false by simpa [photE, unlessE] using h] at W
  refine summW Tryd.func108 rfl rfl 5 rfl (by simp) (fun M0 => ?_)
  repeat (first
    | (apply s_a TY; exact rfl)
    | apply w_seq
    | apply w_region
    | apply s_nil
    | apply t_norm
    | apply t_exit
    | apply t_ret
    | apply k_hit
    | (apply k_miss; exact rfl)
    | apply k_norm
    | apply k_ret
    | apply w_block
    | apply w_exit
    | apply w_ret
    | apply w_skip
    | (apply w_condT; exact rfl; exact rfl)
    | (apply w_condF; exact rfl; exact rfl)
    | (apply s_k (W); exact rfl)
    | (apply s_k (within_s _ _ _); exact rfl))
  exact lv_ret (ret1 rfl (res_tmp rfl))
set_option maxRecDepth 100000 in
theorem flash_s (n : Int) : Summ Tryd.prog GG 112 [iv n] (.sl (beamL n).length (intsF (beamL n))) := by
  refine summW Tryd.func112 rfl rfl 9 rfl (by simp) (fun M0 => ?_)
  repeat (first
    | (apply s_a TY; exact rfl)
    | apply w_seq
    | apply w_region
    | apply s_nil
    | apply t_norm
    | apply t_exit
    | apply t_ret
    | apply k_hit
    | (apply k_miss; exact rfl)
    | apply k_norm
    | apply k_ret
    | apply w_block
    | apply w_exit
    | apply w_ret
    | apply w_skip
    | (apply w_condT; exact rfl; exact rfl)
    | (apply w_condF; exact rfl; exact rfl)
    | (apply s_c TY; exact rfl; (first | omega | exact ⟨by omega, by (first | with_reducible assumption | ((with_reducible apply intsF_ne); omega) | assumption)⟩))
    | (apply s_z TY; exact rfl; (first | omega | exact ⟨by omega, by (first | with_reducible assumption | ((with_reducible apply intsF_ne); omega) | assumption)⟩))
    | (apply s_store TY; exact rfl; exact rfl; exact rfl; exact rfl; exact rfl; exact rfl)
    | (apply s_storeR TY; exact rfl; exact rfl; exact rfl; exact rfl; exact rfl; (first | exact rfl | ((repeat apply le_set); (first | apply le_int | apply le_ini); show _ + 1 ≤ _; omega)))
    | (apply s_make TY; exact rfl; exact rfl; exact rfl; exact rfl; exact rfl; exact rfl; omega; omega; omega; omega))
  refine lv_ret (ret_gh (gh_row 0 rfl) ?_)
  refine ret1 rfl (res_tmp ?_)
  show AV.f (.sl 30 (Ab.setAt (initF [.int .i64 0] (30 * 1)) 0 [iv n])) = _
  rw [initF_ints, setI0, beamL_len]; rfl
def chkV (x : Grid) (way : List Cel) : Int × Int := if iceErrE x = 0 then wayV x way else (0, iceErrE x)
set_option maxRecDepth 100000 in
theorem CheckWay_s (x : Grid) (way : List Cel) (b : SmallG x) (hw : way.length ≤ 1000000) : Summ Tryd.prog GG 71 [gridF x, .sl way.length (celsF way)] (.tup [iv (chkV x way).1, iv (chkV x way).2]) := by
  unfold chkV
  have IE := iceErr_s x b
  refine summW Tryd.func71 rfl rfl 17 rfl (by simp) (fun M0 => ?_)
  by_cases h : iceErrE x = 0
  · rw [if_pos h]
    have WE := wayErr_s x way ((checkIce_zero x).1 h) hw
    repeat (first
    | (apply s_a TY; exact rfl)
    | (apply s_t; exact rfl; (first | assumption | omega))
    | (apply s_f; exact rfl; (first | assumption | omega))
    | apply w_seq
    | apply w_region
    | apply s_nil
    | apply t_norm
    | apply t_exit
    | apply t_ret
    | apply k_hit
    | (apply k_miss; exact rfl)
    | apply k_norm
    | apply k_ret
    | apply w_block
    | apply w_exit
    | apply w_ret
    | apply w_skip
    | (apply w_condT; exact rfl; exact rfl)
    | (apply w_condF; exact rfl; exact rfl)
    | (apply s_k (IE); exact rfl)
    | (apply s_k (WE); exact rfl)
    | (apply s_l TY; exact rfl; (first | exact rfl | with_reducible assumption | assumption))
    | (apply s_m TY; exact rfl; (first | with_reducible assumption | exact rfl); exact rfl)
    | (apply s_r TY; exact rfl; (first | exact rfl | with_reducible assumption | assumption)))
    exact lv_ret (ret2 rfl (res_tmp rfl) (res_tmp rfl))
  · rw [if_neg h]
    repeat (first
    | (apply s_a TY; exact rfl)
    | (apply s_t; exact rfl; (first | assumption | omega))
    | (apply s_f; exact rfl; (first | assumption | omega))
    | apply w_seq
    | apply w_region
    | apply s_nil
    | apply t_norm
    | apply t_exit
    | apply t_ret
    | apply k_hit
    | (apply k_miss; exact rfl)
    | apply k_norm
    | apply k_ret
    | apply w_block
    | apply w_exit
    | apply w_ret
    | apply w_skip
    | (apply w_condT; exact rfl; exact rfl)
    | (apply w_condF; exact rfl; exact rfl)
    | (apply s_k (IE); exact rfl)
    | (apply s_l TY; exact rfl; (first | exact rfl | with_reducible assumption | assumption))
    | (apply s_m TY; exact rfl; (first | with_reducible assumption | exact rfl); exact rfl)
    | (apply s_r TY; exact rfl; (first | exact rfl | with_reducible assumption | assumption)))
    exact lv_ret (ret2 rfl (res_tmp rfl) (res_tmp rfl))
set_option maxRecDepth 100000 in
set_option maxHeartbeats 1000000 in
theorem WayErr_s (x : Grid) (way : List Cel) (v : Valid x) : Summ Tryd.prog GG 74 [gridF x, .sl way.length (celsF way)] (iv (wayErrE x way)) := by
  refine summW Tryd.func74 rfl rfl 43 rfl (by simp) (fun M0 => ?_)
  by_cases h0 : way.length = 0
  · rw [wayE_none h0]
    repeat (first
    | (apply s_a TY; exact rfl)
    | (apply s_t; exact rfl; (first | assumption | omega))
    | (apply s_f; exact rfl; (first | assumption | omega))
    | apply w_seq
    | apply w_region
    | (apply w_draw (id := 8) 5 rfl (by kernel_rfl))
    | (apply w_draw (id := 11) 12 rfl (by kernel_rfl))
    | apply s_nil
    | apply t_norm
    | apply t_exit
    | apply t_ret
    | apply k_hit
    | (apply k_miss; exact rfl)
    | apply k_norm
    | apply k_ret
    | apply w_block
    | apply w_exit
    | apply w_ret
    | apply w_skip
    | (apply w_condT; exact rfl; exact rfl)
    | (apply w_condF; exact rfl; exact rfl)
    | (apply s_k1 (CellErr_s _ _); exact rfl; (first | assumption | omega | decide))
    | (apply s_s; exact rfl)
    | (apply s_c TY; exact rfl; (first | omega | exact ⟨by omega, by (first | with_reducible assumption | ((with_reducible apply celsF_ne); omega) | assumption)⟩))
    | (apply s_z TY; exact rfl; (first | omega | exact ⟨by omega, by (first | with_reducible assumption | ((with_reducible apply celsF_ne); omega) | assumption)⟩))
    | (apply s_l TY; exact rfl; (first | exact rfl | with_reducible assumption | assumption))
    | (apply s_m TY; exact rfl; (first | with_reducible assumption | ((with_reducible apply celsF_sub); omega) | exact rfl); exact rfl)
    | (apply s_r TY; exact rfl; (first | exact rfl | with_reducible assumption | assumption)))
    exact lv_ret (ret1 rfl (res_tmp rfl))
  by_cases h1 : 41 < way.length
  · rw [wayE_many h1]
    repeat (first
    | (apply s_a TY; exact rfl)
    | (apply s_t; exact rfl; (first | assumption | omega))
    | (apply s_f; exact rfl; (first | assumption | omega))
    | apply w_seq
    | apply w_region
    | (apply w_draw (id := 8) 5 rfl (by kernel_rfl))
    | (apply w_draw (id := 11) 12 rfl (by kernel_rfl))
    | apply s_nil
    | apply t_norm
    | apply t_exit
    | apply t_ret
    | apply k_hit
    | (apply k_miss; exact rfl)
    | apply k_norm
    | apply k_ret
    | apply w_block
    | apply w_exit
    | apply w_ret
    | apply w_skip
    | (apply w_condT; exact rfl; exact rfl)
    | (apply w_condF; exact rfl; exact rfl)
    | (apply s_k1 (CellErr_s _ _); exact rfl; (first | assumption | omega | decide))
    | (apply s_s; exact rfl)
    | (apply s_c TY; exact rfl; (first | omega | exact ⟨by omega, by (first | with_reducible assumption | ((with_reducible apply celsF_ne); omega) | assumption)⟩))
    | (apply s_z TY; exact rfl; (first | omega | exact ⟨by omega, by (first | with_reducible assumption | ((with_reducible apply celsF_ne); omega) | assumption)⟩))
    | (apply s_l TY; exact rfl; (first | exact rfl | with_reducible assumption | assumption))
    | (apply s_m TY; exact rfl; (first | with_reducible assumption | ((with_reducible apply celsF_sub); omega) | exact rfl); exact rfl)
    | (apply s_r TY; exact rfl; (first | exact rfl | with_reducible assumption | assumption)))
    exact lv_ret (ret1 rfl (res_tmp rfl))
  repeat (first
    | (apply s_a TY; exact rfl)
    | (apply s_t; exact rfl; (first | assumption | omega))
    | (apply s_f; exact rfl; (first | assumption | omega))
    | apply w_seq
    | apply w_region
    | (apply w_draw (id := 8) 5 rfl (by kernel_rfl))
    | (apply w_draw (id := 11) 12 rfl (by kernel_rfl))
    | apply s_nil
    | apply t_norm
    | apply t_exit
    | apply t_ret
    | apply k_hit
    | (apply k_miss; exact rfl)
    | apply k_norm
    | apply k_ret
    | apply w_block
    | apply w_exit
    | apply w_ret
    | apply w_skip
    | (apply w_condT; exact rfl; exact rfl)
    | (apply w_condF; exact rfl; exact rfl)
    | (apply s_k1 (CellErr_s _ _); exact rfl; (first | assumption | omega | decide))
    | (apply s_s; exact rfl)
    | (apply s_c TY; exact rfl; (first | omega | exact ⟨by omega, by (first | with_reducible assumption | ((with_reducible apply celsF_ne); omega) | assumption)⟩))
    | (apply s_z TY; exact rfl; (first | omega | exact ⟨by omega, by (first | with_reducible assumption | ((with_reducible apply celsF_ne); omega) | assumption)⟩))
    | (apply s_l TY; exact rfl; (first | exact rfl | with_reducible assumption | assumption))
    | (apply s_m TY; exact rfl; (first | with_reducible assumption | ((with_reducible apply celsF_sub); omega) | exact rfl); exact rfl)
    | (apply s_r TY; exact rfl; (first | exact rfl | with_reducible assumption | assumption)))
  apply w_loop (fun k : Nat => ⟨(Ab.upd (Ab.upd (Ab.upd (fun _ => .bot) 1 (.f (.sl way.length (celsF way)))) 2 (.f (.pt (gridL x) 0))) 5 (.f (iv (k : Nat)))), (fun _ => none), 0⟩) (fun k => k ≤ way.length ∧ ∀ j, j < k → wayAt x way j = 0) (fun k => way.length - k) 0 (⟨Nat.zero_le _, fun j h => absurd h (Nat.not_lt_zero j)⟩) (gh_le ⟨le_upd rfl trivial (le_upd rfl trivial (le_upd rfl trivial (le_nil _))), le_h0 _ _⟩)
  intro k ⟨hk, hall⟩
  by_cases hkc : k < way.length
  case neg =>
    rw [wayE_ok (by omega) (by omega) (fun j hj => hall j (by omega))]
    repeat (first
    | (apply s_a TY; exact rfl)
    | (apply s_t; exact rfl; (first | assumption | omega))
    | (apply s_f; exact rfl; (first | assumption | omega))
    | apply w_seq
    | apply w_region
    | (apply w_draw (id := 8) 5 rfl (by kernel_rfl))
    | (apply w_draw (id := 11) 12 rfl (by kernel_rfl))
    | apply s_nil
    | apply t_norm
    | apply t_exit
    | apply t_ret
    | apply k_hit
    | (apply k_miss; exact rfl)
    | apply k_norm
    | apply k_ret
    | apply w_block
    | apply w_exit
    | apply w_ret
    | apply w_skip
    | (apply w_condT; exact rfl; exact rfl)
    | (apply w_condF; exact rfl; exact rfl)
    | (apply s_k1 (CellErr_s _ _); exact rfl; (first | assumption | omega | decide))
    | (apply s_s; exact rfl)
    | (apply s_c TY; exact rfl; (first | omega | exact ⟨by omega, by (first | with_reducible assumption | ((with_reducible apply celsF_ne); omega) | assumption)⟩))
    | (apply s_z TY; exact rfl; (first | omega | exact ⟨by omega, by (first | with_reducible assumption | ((with_reducible apply celsF_ne); omega) | assumption)⟩))
    | (apply s_l TY; exact rfl; (first | exact rfl | with_reducible assumption | assumption))
    | (apply s_m TY; exact rfl; (first | with_reducible assumption | ((with_reducible apply celsF_sub); omega) | exact rfl); exact rfl)
    | (apply s_r TY; exact rfl; (first | exact rfl | with_reducible assumption | assumption)))
    exact lv_ret (ret1 rfl (res_tmp rfl))
  have CE := CellErr_s x way[k] v
  by_cases he : cellErrE x way[k] = 0
  case neg =>
    rw [wayE_bad (by omega) (by omega) hkc hall (by rw [wayAt_out hkc he]; decide), wayAt_out hkc he]
    rw [cellE_six he] at CE
    repeat (first
    | (apply s_a TY; exact rfl)
    | (apply s_t; exact rfl; (first | assumption | omega))
    | (apply s_f; exact rfl; (first | assumption | omega))
    | apply w_seq
    | apply w_region
    | (apply w_draw (id := 8) 5 rfl (by kernel_rfl))
    | (apply w_draw (id := 11) 12 rfl (by kernel_rfl))
    | apply s_nil
    | apply t_norm
    | apply t_exit
    | apply t_ret
    | apply k_hit
    | (apply k_miss; exact rfl)
    | apply k_norm
    | apply k_ret
    | apply w_block
    | apply w_exit
    | apply w_ret
    | apply w_skip
    | (apply w_condT; exact rfl; exact rfl)
    | (apply w_condF; exact rfl; exact rfl)
    | (apply s_k (CE); exact rfl)
    | (apply s_k1 (CellErr_s _ _); exact rfl; (first | assumption | omega | decide))
    | (apply s_s; exact rfl)
    | (apply s_c TY; exact rfl; (first | omega | exact ⟨by omega, by (first | with_reducible assumption | ((with_reducible apply celsF_ne); omega) | assumption)⟩))
    | (apply s_z TY; exact rfl; (first | omega | exact ⟨by omega, by (first | with_reducible assumption | ((with_reducible apply celsF_ne); omega) | assumption)⟩))
    | (apply s_l TY; exact rfl; (first | exact rfl | with_reducible assumption | assumption))
    | (apply s_m TY; exact rfl; (first | with_reducible assumption | ((with_reducible apply celsF_sub); omega) | exact rfl); exact rfl)
    | (apply s_r TY; exact rfl; (first | exact rfl | with_reducible assumption | assumption)))
    exact lv_ret (ret1 rfl (res_tmp rfl))
  rw [he] at CE
  cases k with
  | zero =>
    repeat (first
    | (apply s_a TY; exact rfl)
    | (apply s_t; exact rfl; (first | assumption | omega))
    | (apply s_f; exact rfl; (first | assumption | omega))
    | apply w_seq
    | apply w_region
    | (apply w_draw (id := 8) 5 rfl (by kernel_rfl))
    | (apply w_draw (id := 11) 12 rfl (by kernel_rfl))
    | apply s_nil
    | apply t_norm
    | apply t_exit
    | apply t_ret
    | apply k_hit
    | (apply k_miss; exact rfl)
    | apply k_norm
    | apply k_ret
    | apply w_block
    | apply w_exit
    | apply w_ret
    | apply w_skip
    | (apply w_condT; exact rfl; exact rfl)
    | (apply w_condF; exact rfl; exact rfl)
    | (apply s_k (CE); exact rfl)
    | (apply s_k1 (CellErr_s _ _); exact rfl; (first | assumption | omega | decide))
    | (apply s_s; exact rfl)
    | (apply s_c TY; exact rfl; (first | omega | exact ⟨by omega, by (first | with_reducible assumption | ((with_reducible apply celsF_ne); omega) | assumption)⟩))
    | (apply s_z TY; exact rfl; (first | omega | exact ⟨by omega, by (first | with_reducible assumption | ((with_reducible apply celsF_ne); omega) | assumption)⟩))
    | (apply s_l TY; exact rfl; (first | exact rfl | with_reducible assumption | assumption))
    | (apply s_m TY; exact rfl; (first | with_reducible assumption | ((with_reducible apply celsF_sub); omega) | exact rfl); exact rfl)
    | (apply s_r TY; exact rfl; (first | exact rfl | with_reducible assumption | assumption)))
    exact ⟨0 + 1, ⟨by omega, fun j hj => by rw [show j = 0 by omega]; exact wayAt_ok0 hkc he⟩, by omega, gh_le ⟨le_upd rfl trivial (le_upd rfl trivial (le_upd rfl trivial (le_nil _))), le_h0 _ _⟩⟩
  | succ j =>
  have hjl : j < way.length := by omega
  have hin : InG x way[j + 1] := (cellE_in v).1 he
  have hpr : InG x way[j] := (cellE_in v).1 (wayAt_in hjl (hall j (by omega)))
  have hz : (((j + 1 : Nat) : Int) - 1).toNat = j := by omega
  have hsb : ((celsF way).drop ((((j + 1 : Nat) : Int) - 1).toNat * 2)).take 2 = celF way[j] := by rw [hz]; exact celsF_sub hjl
  by_cases ha : adjE way[j] way[j + 1] = 1
  · have AN := AreNeighbours_t x v _ _ hpr hin ha
    repeat (first
    | (apply s_a TY; exact rfl)
    | (apply s_t; exact rfl; (first | assumption | omega))
    | (apply s_f; exact rfl; (first | assumption | omega))
    | apply w_seq
    | apply w_region
    | (apply w_draw (id := 8) 5 rfl (by kernel_rfl))
    | (apply w_draw (id := 11) 12 rfl (by kernel_rfl))
    | apply s_nil
    | apply t_norm
    | apply t_exit
    | apply t_ret
    | apply k_hit
    | (apply k_miss; exact rfl)
    | apply k_norm
    | apply k_ret
    | apply w_block
    | apply w_exit
    | apply w_ret
    | apply w_skip
    | (apply w_condT; exact rfl; exact rfl)
    | (apply w_condF; exact rfl; exact rfl)
    | (apply s_k (CE); exact rfl)
    | (apply s_k (AN); exact rfl)
    | (apply s_k1 (CellErr_s _ _); exact rfl; (first | assumption | omega | decide))
    | (apply s_s; exact rfl)
    | (apply s_c TY; exact rfl; (first | omega | exact ⟨by omega, by (first | with_reducible assumption | ((with_reducible apply celsF_ne); omega) | assumption)⟩))
    | (apply s_z TY; exact rfl; (first | omega | exact ⟨by omega, by (first | with_reducible assumption | ((with_reducible apply celsF_ne); omega) | assumption)⟩))
    | (apply s_l TY; exact rfl; (first | exact rfl | with_reducible assumption | assumption))
    | (apply s_m TY; exact rfl; (first | with_reducible assumption | ((with_reducible apply celsF_sub); omega) | exact rfl); exact rfl)
    | (apply s_r TY; exact rfl; (first | exact rfl | with_reducible assumption | assumption)))
    exact ⟨j + 1 + 1, ⟨by omega, fun i hi => by
      by_cases e : i = j + 1
      · subst e; exact wayAt_ok hkc he ha
      · exact hall i (by omega)⟩, by omega, gh_le ⟨le_upd rfl trivial (le_upd rfl trivial (le_upd rfl trivial (le_nil _))), le_h0 _ _⟩⟩
  · rw [wayE_bad (by omega) (by omega) hkc hall (by rw [wayAt_gap hkc he ha]; decide), wayAt_gap hkc he ha]
    have AN := AreNeighbours_f x v _ _ hpr hin ha
    repeat (first
    | (apply s_a TY; exact rfl)
    | (apply s_t; exact rfl; (first | assumption | omega))
    | (apply s_f; exact rfl; (first | assumption | omega))
    | apply w_seq
    | apply w_region
    | (apply w_draw (id := 8) 5 rfl (by kernel_rfl))
    | (apply w_draw (id := 11) 12 rfl (by kernel_rfl))
    | apply s_nil
    | apply t_norm
    | apply t_exit
    | apply t_ret
    | apply k_hit
    | (apply k_miss; exact rfl)
    | apply k_norm
    | apply k_ret
    | apply w_block
    | apply w_exit
    | apply w_ret
    | apply w_skip
    | (apply w_condT; exact rfl; exact rfl)
    | (apply w_condF; exact rfl; exact rfl)
    | (apply s_k (CE); exact rfl)
    | (apply s_k (AN); exact rfl)
    | (apply s_k1 (CellErr_s _ _); exact rfl; (first | assumption | omega | decide))
    | (apply s_s; exact rfl)
    | (apply s_c TY; exact rfl; (first | omega | exact ⟨by omega, by (first | with_reducible assumption | ((with_reducible apply celsF_ne); omega) | assumption)⟩))
    | (apply s_z TY; exact rfl; (first | omega | exact ⟨by omega, by (first | with_reducible assumption | ((with_reducible apply celsF_ne); omega) | assumption)⟩))
    | (apply s_l TY; exact rfl; (first | exact rfl | with_reducible assumption | assumption))
    | (apply s_m TY; exact rfl; (first | with_reducible assumption | ((with_reducible apply celsF_sub); omega) | exact rfl); exact rfl)
    | (apply s_r TY; exact rfl; (first | exact rfl | with_reducible assumption | assumption)))
    exact lv_ret (ret1 rfl (res_tmp rfl))
structure WayOk (x : Grid) (way : List Cel) : Prop where
  v : Valid x
  n1 : 1 ≤ way.length
  n41 : way.length ≤ 41
  inn : ∀ k (h : k < way.length), InG x way[k]
theorem wayOk {x : Grid} {way : List Cel} (v : Valid x) (h : wayErrE x way = 0) : WayOk x way := by
  have h0 : ¬ way.length = 0 := fun e => by rw [wayE_none e] at h; cases h
  have h1 : ¬ 41 < way.length := fun e => by rw [wayE_many e] at h; cases h
  refine ⟨v, by omega, by omega, fun k hk => ?_⟩
  have all : ∀ n, ∀ k, k < n → k < way.length → wayAt x way k = 0 := fun n => by
    induction n with
    | zero => intro k hk; omega
    | succ n ih =>
      intro k hk hkl
      refine Classical.byContradiction fun hc => ?_
      have e := wayE_bad (by omega) (by omega) hkl (fun j hj => ih j (by omega) (by omega)) hc
      rw [h] at e; exact hc e.symm
  exact (cellE_in v).1 (wayAt_in hk (all _ k (Nat.lt_succ_self k) hk))
set_option maxRecDepth 100000 in
theorem Delay_s (x : Grid) (way : List Cel) (h : WayOk x way) : Summ Tryd.prog GG 75 [gridF x, .sl way.length (celsF way)] (iv (delayTo x way way.length)) := by
  have n1 := h.n1; have n41 := h.n41
  refine summW Tryd.func75 rfl rfl 27 rfl (by simp) (fun M0 => ?_)
  repeat (first
    | (apply s_a TY; exact rfl)
    | (apply s_t; exact rfl; (first | assumption | omega))
    | (apply s_f; exact rfl; (first | assumption | omega))
    | apply w_seq
    | apply w_region
    | (apply w_draw (id := 5) 12 rfl (by kernel_rfl))
    | apply s_nil
    | apply t_norm
    | apply t_exit
    | apply t_ret
    | apply k_hit
    | (apply k_miss; exact rfl)
    | apply k_norm
    | apply k_ret
    | apply w_block
    | apply w_exit
    | apply w_ret
    | apply w_skip
    | (apply w_condT; exact rfl; exact rfl)
    | (apply w_condF; exact rfl; exact rfl)
    | (apply s_c TY; exact rfl; (first | omega | exact ⟨by omega, by (first | with_reducible assumption | ((with_reducible apply celsF_ne); omega) | assumption)⟩))
    | (apply s_z TY; exact rfl; (first | omega | exact ⟨by omega, by (first | with_reducible assumption | ((with_reducible apply celsF_ne); omega) | assumption)⟩))
    | (apply s_l TY; exact rfl; (first | exact rfl | with_reducible assumption | assumption))
    | (apply s_m TY; exact rfl; (first | with_reducible assumption | ((with_reducible apply celsF_sub); omega) | exact rfl); exact rfl)
    | (apply s_r TY; exact rfl; (first | exact rfl | with_reducible assumption | assumption)))
  apply w_loop (fun k : Nat => ⟨(Ab.upd (Ab.upd (Ab.upd (Ab.upd (fun _ => .bot) 1 (.f (.sl way.length (celsF way)))) 2 (.f (.pt (gridL x) 0))) 5 (.f (iv (delayTo x way k)))) 6 (.f (iv (k : Nat)))), (fun _ => none), 0⟩) (fun k => 1 ≤ k ∧ k ≤ way.length) (fun k => way.length - k) 1 (⟨Nat.le_refl _, n1⟩) (gh_le ⟨le_upd rfl trivial (le_upd rfl trivial (le_upd rfl trivial (le_upd rfl trivial (le_nil _)))), le_h0 _ _⟩)
  intro k ⟨hk1, hk⟩
  by_cases hkc : k < way.length
  · obtain ⟨j, rfl⟩ : ∃ j, k = j + 1 := ⟨k - 1, by omega⟩
    have hjl : j < way.length := by omega
    have hz : (((j + 1 : Nat) : Int) - 1).toNat = j := by omega
    have hsb : ((celsF way).drop ((((j + 1 : Nat) : Int) - 1).toNat * 2)).take 2 = celF way[j] := by rw [hz]; exact celsF_sub hjl
    have ST := Step_s x way[j] way[j + 1] h.v (h.inn j hjl) (h.inn (j + 1) hkc)
    have sb := stepI_bd h.v way[j] way[j + 1]
    have db := delayTo_bd h.v way (j + 1)
    repeat (first
    | (apply s_a TY; exact rfl)
    | (apply s_t; exact rfl; (first | assumption | omega))
    | (apply s_f; exact rfl; (first | assumption | omega))
    | apply w_seq
    | apply w_region
    | (apply w_draw (id := 5) 12 rfl (by kernel_rfl))
    | apply s_nil
    | apply t_norm
    | apply t_exit
    | apply t_ret
    | apply k_hit
    | (apply k_miss; exact rfl)
    | apply k_norm
    | apply k_ret
    | apply w_block
    | apply w_exit
    | apply w_ret
    | apply w_skip
    | (apply w_condT; exact rfl; exact rfl)
    | (apply w_condF; exact rfl; exact rfl)
    | (apply s_k (ST); exact rfl)
    | (apply s_c TY; exact rfl; (first | omega | exact ⟨by omega, by (first | with_reducible assumption | ((with_reducible apply celsF_ne); omega) | assumption)⟩))
    | (apply s_z TY; exact rfl; (first | omega | exact ⟨by omega, by (first | with_reducible assumption | ((with_reducible apply celsF_ne); omega) | assumption)⟩))
    | (apply s_l TY; exact rfl; (first | exact rfl | with_reducible assumption | assumption))
    | (apply s_m TY; exact rfl; (first | with_reducible assumption | ((with_reducible apply celsF_sub); omega) | exact rfl); exact rfl)
    | (apply s_r TY; exact rfl; (first | exact rfl | with_reducible assumption | assumption)))
    exact ⟨j + 1 + 1, by omega, by omega, gh_le ⟨le_upd rfl trivial (le_upd (avi (delayTo_succ hkc)) trivial (le_upd rfl trivial (le_upd rfl trivial (le_nil _)))), le_h0 _ _⟩⟩
  · have hke : k = way.length := by omega
    subst hke
    repeat (first
    | (apply s_a TY; exact rfl)
    | (apply s_t; exact rfl; (first | assumption | omega))
    | (apply s_f; exact rfl; (first | assumption | omega))
    | apply w_seq
    | apply w_region
    | (apply w_draw (id := 5) 12 rfl (by kernel_rfl))
    | apply s_nil
    | apply t_norm
    | apply t_exit
    | apply t_ret
    | apply k_hit
    | (apply k_miss; exact rfl)
    | apply k_norm
    | apply k_ret
    | apply w_block
    | apply w_exit
    | apply w_ret
    | apply w_skip
    | (apply w_condT; exact rfl; exact rfl)
    | (apply w_condF; exact rfl; exact rfl)
    | (apply s_c TY; exact rfl; (first | omega | exact ⟨by omega, by (first | with_reducible assumption | ((with_reducible apply celsF_ne); omega) | assumption)⟩))
    | (apply s_z TY; exact rfl; (first | omega | exact ⟨by omega, by (first | with_reducible assumption | ((with_reducible apply celsF_ne); omega) | assumption)⟩))
    | (apply s_l TY; exact rfl; (first | exact rfl | with_reducible assumption | assumption))
    | (apply s_m TY; exact rfl; (first | with_reducible assumption | ((with_reducible apply celsF_sub); omega) | exact rfl); exact rfl)
    | (apply s_r TY; exact rfl; (first | exact rfl | with_reducible assumption | assumption)))
    exact lv_ret (ret1 rfl (res_tmp rfl))
def alongL (x : Grid) (way : List Cel) : List Int := (way.drop 1).map (layerI x)
theorem along_take {x : Grid} {way : List Cel} {k : Nat} (hk : k + 1 < way.length) : intsF ((alongL x way).take (k + 1)) = intsF ((alongL x way).take k) ++ [iv (layerI x way[k + 1])] := by
  have h : k < (alongL x way).length := by simp [alongL]; omega
  rw [List.take_succ_eq_append_getElem h]
  simp [intsF, alongL]
theorem along_len (x : Grid) (way : List Cel) : (alongL x way).length = way.length - 1 := by simp [alongL]
theorem along_bd {x : Grid} (v : Valid x) {way : List Cel} : ∀ k ∈ alongL x way, 0 ≤ k ∧ k < x.layers.length := fun k hk => by
  obtain ⟨c, _, rfl⟩ := List.mem_map.1 hk
  exact layerI_bd v c
theorem cels_drop (way : List Cel) (n : Nat) : (celsF way).drop (n * 2) = celsF (way.drop n) := by
  induction n generalizing way with
  | zero => simp
  | succ n ih =>
    cases way with
    | nil => simp [celsF]
    | cons c l =>
      rw [List.drop_succ_cons, ← ih l, show (n + 1) * 2 = 2 + n * 2 by omega, ← List.drop_drop]
      rfl
set_option maxRecDepth 100000 in
theorem Along_s (x : Grid) (way : List Cel) (h : WayOk x way) : Summ Tryd.prog GG 76 [gridF x, .sl way.length (celsF way)] (.sl (way.length - 1) (intsF (alongL x way))) := by
  have n1 := h.n1; have n41 := h.n41
  refine summW Tryd.func76 rfl rfl 23 rfl (by simp) (fun M0 => ?_)
  repeat (first
    | (apply s_a TY; exact rfl)
    | (apply s_t; exact rfl; (first | assumption | omega))
    | (apply s_f; exact rfl; (first | assumption | omega))
    | apply w_seq
    | apply w_region
    | (apply w_draw (id := 5) 8 rfl (by kernel_rfl))
    | apply s_nil
    | apply t_norm
    | apply t_exit
    | apply t_ret
    | apply k_hit
    | (apply k_miss; exact rfl)
    | apply k_norm
    | apply k_ret
    | apply w_block
    | apply w_exit
    | apply w_ret
    | apply w_skip
    | (apply w_condT; exact rfl; exact rfl)
    | (apply w_condF; exact rfl; exact rfl)
    | (apply s_c TY; exact rfl; (first | omega | exact ⟨by omega, by (first | with_reducible assumption | ((with_reducible apply celsF_ne); omega) | assumption)⟩))
    | (apply s_z TY; exact rfl; (first | omega | exact ⟨by omega, by (first | with_reducible assumption | ((with_reducible apply celsF_ne); omega) | assumption)⟩))
    | (apply s_l TY; exact rfl; (first | exact rfl | with_reducible assumption | assumption))
    | (apply s_m TY; exact rfl; (first | with_reducible assumption | ((with_reducible apply celsF_sub); omega) | exact rfl); exact rfl)
    | (apply s_r TY; exact rfl; (first | exact rfl | with_reducible assumption | assumption))
    | (apply s_append TY; exact rfl; exact rfl; exact rfl; exact rfl; exact rfl; exact rfl; exact rfl; exact rfl; exact rfl; (unfold maxLen; omega); omega))
  apply w_gh (gh_own 5 3 1 rfl rfl)
  apply w_loop (fun k : Nat => ⟨(Ab.upd (Ab.upd (Ab.upd (Ab.upd (fun _ => .bot) 1 (.f (.sl way.length (celsF way)))) 2 (.f (.pt (gridL x) 0))) 5 (.ow 0)) 6 (.f (iv ((k + 1 : Nat) : Int)))), (Ab.upd (fun _ => none) 0 (some (.row 3 1 k (intsF ((alongL x way).take k))))), 1⟩) (fun k => k + 1 ≤ way.length) (fun k => way.length - k) 0 (n1) (gh_le ⟨le_upd rfl trivial (le_upd rfl rfl (le_upd rfl trivial (le_upd rfl trivial (le_nil _)))), le_hupd rfl trivial (le_h0 _ _)⟩)
  intro k hk
  by_cases hkc : k + 1 < way.length
  · have LA := Layer_s x way[k + 1] h.v (h.inn _ hkc)
    repeat (first
    | (apply s_append TY; exact rfl; exact rfl; exact rfl; exact rfl; exact rfl; exact rfl; exact rfl; exact rfl; exact rfl; (unfold maxLen; omega); omega)
    | (apply s_a TY; exact rfl)
    | (apply s_t; exact rfl; (first | assumption | omega))
    | (apply s_f; exact rfl; (first | assumption | omega))
    | apply w_seq
    | apply w_region
    | (apply w_draw (id := 5) 8 rfl (by kernel_rfl))
    | apply s_nil
    | apply t_norm
    | apply t_exit
    | apply t_ret
    | apply k_hit
    | (apply k_miss; exact rfl)
    | apply k_norm
    | apply k_ret
    | apply w_block
    | apply w_exit
    | apply w_ret
    | apply w_skip
    | (apply w_condT; exact rfl; exact rfl)
    | (apply w_condF; exact rfl; exact rfl)
    | (apply s_k (LA); exact rfl)
    | (apply s_c TY; exact rfl; (first | omega | exact ⟨by omega, by (first | with_reducible assumption | ((with_reducible apply celsF_ne); omega) | assumption)⟩))
    | (apply s_z TY; exact rfl; (first | omega | exact ⟨by omega, by (first | with_reducible assumption | ((with_reducible apply celsF_ne); omega) | assumption)⟩))
    | (apply s_l TY; exact rfl; (first | exact rfl | with_reducible assumption | assumption))
    | (apply s_m TY; exact rfl; (first | with_reducible assumption | ((with_reducible apply celsF_sub); omega) | exact rfl); exact rfl)
    | (apply s_r TY; exact rfl; (first | exact rfl | with_reducible assumption | assumption))
    | (apply s_append TY; exact rfl; exact rfl; exact rfl; exact rfl; exact rfl; exact rfl; exact rfl; exact rfl; exact rfl; (unfold maxLen; omega); omega))
    exact ⟨k + 1, by omega, by omega, gh_le ⟨le_upd rfl trivial (le_upd rfl rfl (le_upd rfl trivial (le_upd rfl trivial (le_nil _)))), le_hupd (by rw [along_take hkc]; rfl) trivial (le_h0 _ _)⟩⟩
  · have hke : k = way.length - 1 := by omega
    subst hke
    repeat (first
    | (apply s_a TY; exact rfl)
    | (apply s_t; exact rfl; (first | assumption | omega))
    | (apply s_f; exact rfl; (first | assumption | omega))
    | apply w_seq
    | apply w_region
    | (apply w_draw (id := 5) 8 rfl (by kernel_rfl))
    | apply s_nil
    | apply t_norm
    | apply t_exit
    | apply t_ret
    | apply k_hit
    | (apply k_miss; exact rfl)
    | apply k_norm
    | apply k_ret
    | apply w_block
    | apply w_exit
    | apply w_ret
    | apply w_skip
    | (apply w_condT; exact rfl; exact rfl)
    | (apply w_condF; exact rfl; exact rfl)
    | (apply s_c TY; exact rfl; (first | omega | exact ⟨by omega, by (first | with_reducible assumption | ((with_reducible apply celsF_ne); omega) | assumption)⟩))
    | (apply s_z TY; exact rfl; (first | omega | exact ⟨by omega, by (first | with_reducible assumption | ((with_reducible apply celsF_ne); omega) | assumption)⟩))
    | (apply s_l TY; exact rfl; (first | exact rfl | with_reducible assumption | assumption))
    | (apply s_m TY; exact rfl; (first | with_reducible assumption | ((with_reducible apply celsF_sub); omega) | exact rfl); exact rfl)
    | (apply s_r TY; exact rfl; (first | exact rfl | with_reducible assumption | assumption))
    | (apply s_append TY; exact rfl; exact rfl; exact rfl; exact rfl; exact rfl; exact rfl; exact rfl; exact rfl; exact rfl; (unfold maxLen; omega); omega))
    refine lv_ret (ret_gh (gh_row 0 rfl) ?_)
    exact ret1 rfl (res_tmp (congrArg (fun z => AV.f (.sl (way.length - 1) (intsF z))) (List.take_of_length_le (by rw [along_len]; exact Nat.le_refl _))))
set_option maxRecDepth 100000 in
set_option maxHeartbeats 1000000 in
theorem Arrival_err (x : Grid) (n : Int) (way : List Cel) (b : SmallG x) (e : Int) (h : (iceErrE x ≠ 0 ∧ e = iceErrE x) ∨ (iceErrE x = 0 ∧ photE n ≠ 0 ∧ e = photE n)) : Summ Tryd.prog GG 73 [gridF x, iv n, .sl way.length (celsF way)] (.tup [.agg [iv 0, .v (.slice none 0 0)], iv e]) := by
  have IE := iceErr_s x b
  have p2 : photE n = 0 ∨ photE n = 2 := by unfold photE unlessE; split <;> simp
  refine summW Tryd.func73 rfl rfl 56 rfl (by simp) (fun M0 => ?_)
  rcases h with ⟨h, rfl⟩ | ⟨h, h2, rfl⟩
  · by_cases hp : photE n = 0
    · repeat (first
    | (apply s_a TY; exact rfl)
    | (apply s_t; exact rfl; (first | assumption | omega))
    | (apply s_f; exact rfl; (first | assumption | omega))
    | apply w_seq
    | apply w_region
    | (apply w_draw (id := 13) 6 rfl (by kernel_rfl))
    | apply s_nil
    | apply t_norm
    | apply t_exit
    | apply t_ret
    | apply k_hit
    | (apply k_miss; exact rfl)
    | apply k_norm
    | apply k_ret
    | apply w_block
    | apply w_exit
    | apply w_ret
    | apply w_skip
    | (apply w_condT; exact rfl; exact rfl)
    | (apply w_condF; exact rfl; exact rfl)
    | (apply s_k (IE); exact rfl)
    | (apply s_k1 (isPhotons_T _); exact rfl; (first | assumption | omega | decide))
    | (apply s_k1 (isPhotons_F _); exact rfl; (first | assumption | omega | decide))
    | (apply s_k1 (first2_0 _ _); exact rfl; (first | assumption | omega | decide))
    | (apply s_k1 (first2_1 _ _); exact rfl; (first | assumption | omega | decide))
    | (apply s_k1 (first_s _); exact rfl; (first | assumption | omega | decide))
    | (apply s_k (unless_T _); exact rfl)
    | (apply s_k (unless_F _); exact rfl)
    | (apply s_k (unless_s _ _); exact rfl)
    | (apply s_c TY; exact rfl; (first | omega | exact ⟨by omega, by (first | with_reducible assumption | ((with_reducible apply celsF_ne); omega) | assumption)⟩))
    | (apply s_z TY; exact rfl; (first | omega | exact ⟨by omega, by (first | with_reducible assumption | ((with_reducible apply celsF_ne); omega) | assumption)⟩))
    | (apply s_l TY; exact rfl; (first | exact rfl | with_reducible assumption | assumption))
    | (apply s_m TY; exact rfl; (first | with_reducible assumption | ((with_reducible apply celsF_sub); omega) | exact rfl); exact rfl)
    | (apply s_r TY; exact rfl; (first | exact rfl | with_reducible assumption | assumption))
    | (apply s_alloc TY; exact rfl; exact rfl; exact rfl)
    | (apply s_store TY; exact rfl; exact rfl; exact rfl; exact rfl; exact rfl; exact rfl)
    | (apply s_storeR TY; exact rfl; exact rfl; exact rfl; exact rfl; exact rfl; (first | exact rfl | ((repeat apply le_set); (first | apply le_int | apply le_ini); show _ + 1 ≤ _; omega)))
    | (apply s_append TY; exact rfl; exact rfl; exact rfl; exact rfl; exact rfl; exact rfl; exact rfl; exact rfl; exact rfl; (unfold maxLen; omega); omega)
    | (apply s_slice TY; exact rfl; exact rfl; exact rfl; (first | exact rfl | exact ⟨_, rfl⟩); (first | exact rfl | exact ⟨_, rfl⟩); omega; omega; omega))
      exact lv_ret (ret2 rfl (res_bxs (sub := [iv 0, .v (.slice none 0 0)]) TY rfl rfl rfl rfl rfl) (res_tmp rfl))
    · repeat (first
    | (apply s_a TY; exact rfl)
    | (apply s_t; exact rfl; (first | assumption | omega))
    | (apply s_f; exact rfl; (first | assumption | omega))
    | apply w_seq
    | apply w_region
    | (apply w_draw (id := 13) 6 rfl (by kernel_rfl))
    | apply s_nil
    | apply t_norm
    | apply t_exit
    | apply t_ret
    | apply k_hit
    | (apply k_miss; exact rfl)
    | apply k_norm
    | apply k_ret
    | apply w_block
    | apply w_exit
    | apply w_ret
    | apply w_skip
    | (apply w_condT; exact rfl; exact rfl)
    | (apply w_condF; exact rfl; exact rfl)
    | (apply s_k (IE); exact rfl)
    | (apply s_k1 (isPhotons_T _); exact rfl; (first | assumption | omega | decide))
    | (apply s_k1 (isPhotons_F _); exact rfl; (first | assumption | omega | decide))
    | (apply s_k1 (first2_0 _ _); exact rfl; (first | assumption | omega | decide))
    | (apply s_k1 (first2_1 _ _); exact rfl; (first | assumption | omega | decide))
    | (apply s_k1 (first_s _); exact rfl; (first | assumption | omega | decide))
    | (apply s_k (unless_T _); exact rfl)
    | (apply s_k (unless_F _); exact rfl)
    | (apply s_k (unless_s _ _); exact rfl)
    | (apply s_c TY; exact rfl; (first | omega | exact ⟨by omega, by (first | with_reducible assumption | ((with_reducible apply celsF_ne); omega) | assumption)⟩))
    | (apply s_z TY; exact rfl; (first | omega | exact ⟨by omega, by (first | with_reducible assumption | ((with_reducible apply celsF_ne); omega) | assumption)⟩))
    | (apply s_l TY; exact rfl; (first | exact rfl | with_reducible assumption | assumption))
    | (apply s_m TY; exact rfl; (first | with_reducible assumption | ((with_reducible apply celsF_sub); omega) | exact rfl); exact rfl)
    | (apply s_r TY; exact rfl; (first | exact rfl | with_reducible assumption | assumption))
    | (apply s_alloc TY; exact rfl; exact rfl; exact rfl)
    | (apply s_store TY; exact rfl; exact rfl; exact rfl; exact rfl; exact rfl; exact rfl)
    | (apply s_storeR TY; exact rfl; exact rfl; exact rfl; exact rfl; exact rfl; (first | exact rfl | ((repeat apply le_set); (first | apply le_int | apply le_ini); show _ + 1 ≤ _; omega)))
    | (apply s_append TY; exact rfl; exact rfl; exact rfl; exact rfl; exact rfl; exact rfl; exact rfl; exact rfl; exact rfl; (unfold maxLen; omega); omega)
    | (apply s_slice TY; exact rfl; exact rfl; exact rfl; (first | exact rfl | exact ⟨_, rfl⟩); (first | exact rfl | exact ⟨_, rfl⟩); omega; omega; omega))
      exact lv_ret (ret2 rfl (res_bxs (sub := [iv 0, .v (.slice none 0 0)]) TY rfl rfl rfl rfl rfl) (res_tmp rfl))
  · rw [h] at IE
    have e2 : photE n = 2 := by omega
    repeat (first
    | (apply s_a TY; exact rfl)
    | (apply s_t; exact rfl; (first | assumption | omega))
    | (apply s_f; exact rfl; (first | assumption | omega))
    | apply w_seq
    | apply w_region
    | (apply w_draw (id := 13) 6 rfl (by kernel_rfl))
    | apply s_nil
    | apply t_norm
    | apply t_exit
    | apply t_ret
    | apply k_hit
    | (apply k_miss; exact rfl)
    | apply k_norm
    | apply k_ret
    | apply w_block
    | apply w_exit
    | apply w_ret
    | apply w_skip
    | (apply w_condT; exact rfl; exact rfl)
    | (apply w_condF; exact rfl; exact rfl)
    | (apply s_k (IE); exact rfl)
    | (apply s_k1 (isPhotons_T _); exact rfl; (first | assumption | omega | decide))
    | (apply s_k1 (isPhotons_F _); exact rfl; (first | assumption | omega | decide))
    | (apply s_k1 (first2_0 _ _); exact rfl; (first | assumption | omega | decide))
    | (apply s_k1 (first2_1 _ _); exact rfl; (first | assumption | omega | decide))
    | (apply s_k1 (first_s _); exact rfl; (first | assumption | omega | decide))
    | (apply s_k (unless_T _); exact rfl)
    | (apply s_k (unless_F _); exact rfl)
    | (apply s_k (unless_s _ _); exact rfl)
    | (apply s_c TY; exact rfl; (first | omega | exact ⟨by omega, by (first | with_reducible assumption | ((with_reducible apply celsF_ne); omega) | assumption)⟩))
    | (apply s_z TY; exact rfl; (first | omega | exact ⟨by omega, by (first | with_reducible assumption | ((with_reducible apply celsF_ne); omega) | assumption)⟩))
    | (apply s_l TY; exact rfl; (first | exact rfl | with_reducible assumption | assumption))
    | (apply s_m TY; exact rfl; (first | with_reducible assumption | ((with_reducible apply celsF_sub); omega) | exact rfl); exact rfl)
    | (apply s_r TY; exact rfl; (first | exact rfl | with_reducible assumption | assumption))
    | (apply s_alloc TY; exact rfl; exact rfl; exact rfl)
    | (apply s_store TY; exact rfl; exact rfl; exact rfl; exact rfl; exact rfl; exact rfl)
    | (apply s_storeR TY; exact rfl; exact rfl; exact rfl; exact rfl; exact rfl; (first | exact rfl | ((repeat apply le_set); (first | apply le_int | apply le_ini); show _ + 1 ≤ _; omega)))
    | (apply s_append TY; exact rfl; exact rfl; exact rfl; exact rfl; exact rfl; exact rfl; exact rfl; exact rfl; exact rfl; (unfold maxLen; omega); omega)
    | (apply s_slice TY; exact rfl; exact rfl; exact rfl; (first | exact rfl | exact ⟨_, rfl⟩); (first | exact rfl | exact ⟨_, rfl⟩); omega; omega; omega))
    rw [e2]
    exact lv_ret (ret2 rfl (res_bxs (sub := [iv 0, .v (.slice none 0 0)]) TY rfl rfl rfl rfl rfl) (res_tmp rfl))
set_option maxRecDepth 100000 in
set_option maxHeartbeats 1000000 in
theorem Arrival_way (x : Grid) (n : Int) (way : List Cel) (b : SmallG x) (hw : way.length ≤ 1000000) (h : iceErrE x = 0) (hp : photE n = 0) (he : wayErrE x way ≠ 0) : Summ Tryd.prog GG 73 [gridF x, iv n, .sl way.length (celsF way)] (.tup [.agg [iv 0, .v (.slice none 0 0)], iv (wayErrE x way)]) := by
  have IE := iceErr_s x b
  rw [h] at IE
  have WE := wayErr_s x way ((checkIce_zero x).1 h) hw
  rw [show wayV x way = (0, wayErrE x way) by unfold wayV; rw [if_neg he]] at WE
  refine summW Tryd.func73 rfl rfl 56 rfl (by simp) (fun M0 => ?_)
  repeat (first
    | (apply s_a TY; exact rfl)
    | (apply s_t; exact rfl; (first | assumption | omega))
    | (apply s_f; exact rfl; (first | assumption | omega))
    | apply w_seq
    | apply w_region
    | (apply w_draw (id := 13) 6 rfl (by kernel_rfl))
    | apply s_nil
    | apply t_norm
    | apply t_exit
    | apply t_ret
    | apply k_hit
    | (apply k_miss; exact rfl)
    | apply k_norm
    | apply k_ret
    | apply w_block
    | apply w_exit
    | apply w_ret
    | apply w_skip
    | (apply w_condT; exact rfl; exact rfl)
    | (apply w_condF; exact rfl; exact rfl)
    | (apply s_k (IE); exact rfl)
    | (apply s_k (WE); exact rfl)
    | (apply s_k1 (isPhotons_T _); exact rfl; (first | assumption | omega | decide))
    | (apply s_k1 (isPhotons_F _); exact rfl; (first | assumption | omega | decide))
    | (apply s_k1 (first2_0 _ _); exact rfl; (first | assumption | omega | decide))
    | (apply s_k1 (first2_1 _ _); exact rfl; (first | assumption | omega | decide))
    | (apply s_k1 (first_s _); exact rfl; (first | assumption | omega | decide))
    | (apply s_k (unless_T _); exact rfl)
    | (apply s_k (unless_F _); exact rfl)
    | (apply s_k (unless_s _ _); exact rfl)
    | (apply s_c TY; exact rfl; (first | omega | exact ⟨by omega, by (first | with_reducible assumption | ((with_reducible apply celsF_ne); omega) | assumption)⟩))
    | (apply s_z TY; exact rfl; (first | omega | exact ⟨by omega, by (first | with_reducible assumption | ((with_reducible apply celsF_ne); omega) | assumption)⟩))
    | (apply s_l TY; exact rfl; (first | exact rfl | with_reducible assumption | assumption))
    | (apply s_m TY; exact rfl; (first | with_reducible assumption | ((with_reducible apply celsF_sub); omega) | exact rfl); exact rfl)
    | (apply s_r TY; exact rfl; (first | exact rfl | with_reducible assumption | assumption))
    | (apply s_alloc TY; exact rfl; exact rfl; exact rfl)
    | (apply s_store TY; exact rfl; exact rfl; exact rfl; exact rfl; exact rfl; exact rfl)
    | (apply s_storeR TY; exact rfl; exact rfl; exact rfl; exact rfl; exact rfl; (first | exact rfl | ((repeat apply le_set); (first | apply le_int | apply le_ini); show _ + 1 ≤ _; omega)))
    | (apply s_append TY; exact rfl; exact rfl; exact rfl; exact rfl; exact rfl; exact rfl; exact rfl; exact rfl; exact rfl; (unfold maxLen; omega); omega)
    | (apply s_slice TY; exact rfl; exact rfl; exact rfl; (first | exact rfl | exact ⟨_, rfl⟩); (first | exact rfl | exact ⟨_, rfl⟩); omega; omega; omega))
  exact lv_ret (ret2 rfl (res_bxs (sub := [iv 0, .v (.slice none 0 0)]) TY rfl rfl rfl rfl rfl) (res_tmp rfl))
set_option maxRecDepth 100000 in
set_option maxHeartbeats 1000000 in
theorem Arrival_ok (x : Grid) (n : Int) (way : List Cel) (b : SmallG x) (hi : iceErrE x = 0) (hp : photE n = 0) (he : wayErrE x way = 0) : Summ Tryd.prog GG 73 [gridF x, iv n, .sl way.length (celsF way)] (.tup [.agg [iv (delayTo x way way.length), (.sl 30 (intsF (spreadL x (beamL n) (alongL x way))))], iv 0]) := by
  have v : Valid x := (checkIce_zero x).1 hi
  have h := wayOk v he
  have n1 := h.n1; have n41 := h.n41
  have IE := iceErr_s x b
  rw [hi] at IE
  have WE := wayErr_s x way v (by omega)
  rw [show wayV x way = (delayTo x way way.length, 0) by unfold wayV; rw [if_pos he]] at WE
  have pb := photE_zero.1 hp
  have al := along_len x way
  have KO : SpreadOk x (beamL n) (alongL x way) := ⟨v, by rw [beamL_len]; decide, by rw [beamL_len]; decide, by omega, along_bd v, beamL_nonneg pb.1, by rw [beamL_sum]; omega⟩
  have SP := spread_s x (beamL n) (alongL x way) KO
  have FL := flash_s n
  rw [beamL_len] at FL SP
  rw [al] at SP
  refine summW Tryd.func73 rfl rfl 56 rfl (by simp) (fun M0 => ?_)
  repeat (first
    | (apply s_a TY; exact rfl)
    | (apply s_t; exact rfl; (first | assumption | omega))
    | (apply s_f; exact rfl; (first | assumption | omega))
    | apply w_seq
    | apply w_region
    | (apply w_draw (id := 13) 6 rfl (by kernel_rfl))
    | apply s_nil
    | apply t_norm
    | apply t_exit
    | apply t_ret
    | apply k_hit
    | (apply k_miss; exact rfl)
    | apply k_norm
    | apply k_ret
    | apply w_block
    | apply w_exit
    | apply w_ret
    | apply w_skip
    | (apply w_condT; exact rfl; exact rfl)
    | (apply w_condF; exact rfl; exact rfl)
    | (apply s_k (IE); exact rfl)
    | (apply s_k (WE); exact rfl)
    | (apply s_k1 (isPhotons_T _); exact rfl; (first | assumption | omega | decide))
    | (apply s_k1 (isPhotons_F _); exact rfl; (first | assumption | omega | decide))
    | (apply s_k1 (first2_0 _ _); exact rfl; (first | assumption | omega | decide))
    | (apply s_k1 (first2_1 _ _); exact rfl; (first | assumption | omega | decide))
    | (apply s_k1 (first_s _); exact rfl; (first | assumption | omega | decide))
    | (apply s_k (unless_T _); exact rfl)
    | (apply s_k (unless_F _); exact rfl)
    | (apply s_k (unless_s _ _); exact rfl)
    | (apply s_c TY; exact rfl; (first | omega | exact ⟨by omega, by (first | with_reducible assumption | ((with_reducible apply celsF_ne); omega) | assumption)⟩))
    | (apply s_z TY; exact rfl; (first | omega | exact ⟨by omega, by (first | with_reducible assumption | ((with_reducible apply celsF_ne); omega) | assumption)⟩))
    | (apply s_l TY; exact rfl; (first | exact rfl | with_reducible assumption | assumption))
    | (apply s_m TY; exact rfl; (first | with_reducible assumption | ((with_reducible apply celsF_sub); omega) | exact rfl); exact rfl)
    | (apply s_r TY; exact rfl; (first | exact rfl | with_reducible assumption | assumption))
    | (apply s_alloc TY; exact rfl; exact rfl; exact rfl)
    | (apply s_store TY; exact rfl; exact rfl; exact rfl; exact rfl; exact rfl; exact rfl)
    | (apply s_storeR TY; exact rfl; exact rfl; exact rfl; exact rfl; exact rfl; (first | exact rfl | ((repeat apply le_set); (first | apply le_int | apply le_ini); show _ + 1 ≤ _; omega)))
    | (apply s_append TY; exact rfl; exact rfl; exact rfl; exact rfl; exact rfl; exact rfl; exact rfl; exact rfl; exact rfl; (unfold maxLen; omega); omega)
    | (apply s_slice TY; exact rfl; exact rfl; exact rfl; (first | exact rfl | exact ⟨_, rfl⟩); (first | exact rfl | exact ⟨_, rfl⟩); omega; omega; omega))
  have hsl : List.take (((way.length : Int).toNat - (1 : Int).toNat) * 2) (List.drop ((1 : Int).toNat * 2) (celsF way)) = celsF (way.drop 1) := by
    have e1 : (1 : Int).toNat * 2 = 1 * 2 := rfl
    rw [e1, cels_drop, List.take_of_length_le]
    rw [celsF_len]; simp
  apply w_gh (gh_own 11 3 1 rfl rfl)
  apply w_loop (fun k : Nat => ⟨(Ab.upd (Ab.upd (Ab.upd (Ab.upd (Ab.upd (Ab.upd (Ab.upd (Ab.upd (fun _ => .bot) 3 (.f (.pt (gridL x) 0))) 1 (.f (iv n))) 6 (.bx 0 0)) 9 (.f (iv (delayTo x way way.length)))) 11 (.ow 1)) 36 (.f (.sl (way.length - 1) (celsF (way.drop 1))))) 37 (.f (iv ((way.length - 1 : Nat) : Int)))) 38 (.f (iv (k : Nat)))), (Ab.upd (Ab.upd (fun _ => none) 0 (some (.box [.f (iv 0), .f (.v (.slice none 0 0))]))) 1 (some (.row 3 1 k (intsF ((alongL x way).take k))))), 2⟩) (fun k => k + 1 ≤ way.length) (fun k => way.length - k) 0 (n1) (gh_le ⟨le_upd rfl trivial (le_upd rfl trivial (le_upd (congrArg (fun z => AV.f (.sl (way.length - 1) z)) hsl.symm) trivial (le_upd rfl rfl (le_upd rfl trivial (le_upd rfl rfl (le_upd rfl trivial (le_upd rfl trivial (le_nil _)))))))), le_hupd rfl trivial (le_hupd rfl (fun y hy => by simp at hy; rcases hy with rfl | rfl <;> first | trivial | rfl) (le_h0 _ _))⟩)
  intro k hk
  by_cases hkc : k + 1 < way.length
  · have LA := layer_s x way[k + 1] v (h.inn _ hkc)
    have hd : k < (way.drop 1).length := by simp; omega
    have sb : ((celsF (way.drop 1)).drop (k * 2)).take 2 = celF way[k + 1] := by
      rw [celsF_sub hd]; simp
    repeat (first
    | (apply s_append TY; exact rfl; exact rfl; exact rfl; exact rfl; exact rfl; exact rfl; exact rfl; exact rfl; exact rfl; (unfold maxLen; omega); omega)
    | (apply s_a TY; exact rfl)
    | (apply s_t; exact rfl; (first | assumption | omega))
    | (apply s_f; exact rfl; (first | assumption | omega))
    | apply w_seq
    | apply w_region
    | (apply w_draw (id := 13) 6 rfl (by kernel_rfl))
    | apply s_nil
    | apply t_norm
    | apply t_exit
    | apply t_ret
    | apply k_hit
    | (apply k_miss; exact rfl)
    | apply k_norm
    | apply k_ret
    | apply w_block
    | apply w_exit
    | apply w_ret
    | apply w_skip
    | (apply w_condT; exact rfl; exact rfl)
    | (apply w_condF; exact rfl; exact rfl)
    | (apply s_k (LA); exact rfl)
    | (apply s_k1 (first2_0 _ _); exact rfl; (first | assumption | omega | decide))
    | (apply s_k1 (first2_1 _ _); exact rfl; (first | assumption | omega | decide))
    | (apply s_k1 (first_s _); exact rfl; (first | assumption | omega | decide))
    | (apply s_k (unless_T _); exact rfl)
    | (apply s_k (unless_F _); exact rfl)
    | (apply s_k (unless_s _ _); exact rfl)
    | (apply s_c TY; exact rfl; (first | omega | exact ⟨by omega, by (first | with_reducible assumption | ((with_reducible apply celsF_ne); omega) | assumption)⟩))
    | (apply s_z TY; exact rfl; (first | omega | exact ⟨by omega, by (first | with_reducible assumption | ((with_reducible apply celsF_ne); omega) | assumption)⟩))
    | (apply s_l TY; exact rfl; (first | exact rfl | with_reducible assumption | assumption))
    | (apply s_m TY; exact rfl; (first | with_reducible assumption | ((with_reducible apply celsF_sub); omega) | exact rfl); exact rfl)
    | (apply s_r TY; exact rfl; (first | exact rfl | with_reducible assumption | assumption))
    | (apply s_alloc TY; exact rfl; exact rfl; exact rfl)
    | (apply s_store TY; exact rfl; exact rfl; exact rfl; exact rfl; exact rfl; exact rfl)
    | (apply s_storeR TY; exact rfl; exact rfl; exact rfl; exact rfl; exact rfl; (first | exact rfl | ((repeat apply le_set); (first | apply le_int | apply le_ini); show _ + 1 ≤ _; omega)))
    | (apply s_append TY; exact rfl; exact rfl; exact rfl; exact rfl; exact rfl; exact rfl; exact rfl; exact rfl; exact rfl; (unfold maxLen; omega); omega)
    | (apply s_slice TY; exact rfl; exact rfl; exact rfl; (first | exact rfl | exact ⟨_, rfl⟩); (first | exact rfl | exact ⟨_, rfl⟩); omega; omega; omega))
    exact ⟨k + 1, by omega, by omega, gh_le ⟨le_upd rfl trivial (le_upd rfl trivial (le_upd rfl trivial (le_upd rfl rfl (le_upd rfl trivial (le_upd rfl rfl (le_upd rfl trivial (le_upd rfl trivial (le_nil _)))))))), le_hupd (by rw [along_take hkc]; rfl) trivial (le_hupd rfl (fun y hy => by simp at hy; rcases hy with rfl | rfl <;> first | trivial | rfl) (le_h0 _ _))⟩⟩
  · have hke : k = way.length - 1 := by omega
    subst hke
    have et : (alongL x way).take (way.length - 1) = alongL x way := List.take_of_length_le (by rw [al]; exact Nat.le_refl _)
    rw [et]
    apply w_gh (gh_row 1 rfl)
    repeat (first
    | (apply s_a TY; exact rfl)
    | (apply s_t; exact rfl; (first | assumption | omega))
    | (apply s_f; exact rfl; (first | assumption | omega))
    | apply w_seq
    | apply w_region
    | (apply w_draw (id := 13) 6 rfl (by kernel_rfl))
    | apply s_nil
    | apply t_norm
    | apply t_exit
    | apply t_ret
    | apply k_hit
    | (apply k_miss; exact rfl)
    | apply k_norm
    | apply k_ret
    | apply w_block
    | apply w_exit
    | apply w_ret
    | apply w_skip
    | (apply w_condT; exact rfl; exact rfl)
    | (apply w_condF; exact rfl; exact rfl)
    | (apply s_k (SP); exact rfl)
    | (apply s_k (FL); exact rfl)
    | (apply s_k1 (first2_0 _ _); exact rfl; (first | assumption | omega | decide))
    | (apply s_k1 (first2_1 _ _); exact rfl; (first | assumption | omega | decide))
    | (apply s_k1 (first_s _); exact rfl; (first | assumption | omega | decide))
    | (apply s_k (unless_T _); exact rfl)
    | (apply s_k (unless_F _); exact rfl)
    | (apply s_k (unless_s _ _); exact rfl)
    | (apply s_c TY; exact rfl; (first | omega | exact ⟨by omega, by (first | with_reducible assumption | ((with_reducible apply celsF_ne); omega) | assumption)⟩))
    | (apply s_z TY; exact rfl; (first | omega | exact ⟨by omega, by (first | with_reducible assumption | ((with_reducible apply celsF_ne); omega) | assumption)⟩))
    | (apply s_l TY; exact rfl; (first | exact rfl | with_reducible assumption | assumption))
    | (apply s_m TY; exact rfl; (first | with_reducible assumption | ((with_reducible apply celsF_sub); omega) | exact rfl); exact rfl)
    | (apply s_r TY; exact rfl; (first | exact rfl | with_reducible assumption | assumption))
    | (apply s_alloc TY; exact rfl; exact rfl; exact rfl)
    | (apply s_store TY; exact rfl; exact rfl; exact rfl; exact rfl; exact rfl; exact rfl)
    | (apply s_storeR TY; exact rfl; exact rfl; exact rfl; exact rfl; exact rfl; (first | exact rfl | ((repeat apply le_set); (first | apply le_int | apply le_ini); show _ + 1 ≤ _; omega)))
    | (apply s_append TY; exact rfl; exact rfl; exact rfl; exact rfl; exact rfl; exact rfl; exact rfl; exact rfl; exact rfl; (unfold maxLen; omega); omega)
    | (apply s_slice TY; exact rfl; exact rfl; exact rfl; (first | exact rfl | exact ⟨_, rfl⟩); (first | exact rfl | exact ⟨_, rfl⟩); omega; omega; omega))
    exact lv_ret (ret2 rfl (res_bxs (sub := [iv (delayTo x way way.length), (.sl 30 (intsF (spreadL x (beamL n) (alongL x way))))]) TY rfl rfl rfl rfl rfl) (res_tmp rfl))
set_option maxRecDepth 100000 in
set_option maxHeartbeats 2000000 in
theorem IceWays_s (x : Grid) (way : List Cel) (n : Int) : Summ Tryd.prog GG 12 [gridF x, .sl way.length (celsF way), iv n] (bv true) := by
  have F := Few_s x
  refine summW Tryd.func12 rfl rfl 119 rfl (by simp) (fun M0 => ?_)
  cases hf : fewB x with
  | false =>
    rw [hf] at F
    repeat (first
    | (apply s_a TY; exact rfl)
    | (apply s_t; exact rfl; (first | assumption | omega))
    | (apply s_f; exact rfl; (first | assumption | omega))
    | apply w_seq
    | apply w_region
    | (apply w_draw (id := 19) 20 rfl (by kernel_rfl))
    | apply s_nil
    | apply t_norm
    | apply t_exit
    | apply t_ret
    | apply k_hit
    | (apply k_miss; exact rfl)
    | apply k_norm
    | apply k_ret
    | apply w_block
    | apply w_exit
    | apply w_ret
    | apply w_skip
    | (apply w_condT; exact rfl; exact rfl)
    | (apply w_condF; exact rfl; exact rfl)
    | (apply s_k (F); exact rfl)
    | (apply s_k (awake_s); exact rfl)
    | (apply s_k (Few_s _); exact rfl)
    | (apply s_k (IceErr_s _); exact rfl)
    | (apply s_k2 (CopyIce_s _); exact rfl; (first | assumption | omega | decide); (first | assumption | omega | decide))
    | (apply s_k1 (Ints_s _ _); exact rfl; (first | assumption | omega | decide))
    | (apply s_s; exact rfl)
    | (apply s_l TY; exact rfl; (first | exact rfl | with_reducible assumption | assumption))
    | (apply s_m TY; exact rfl; (first | with_reducible assumption | exact rfl); exact rfl)
    | (apply s_r TY; exact rfl; (first | exact rfl | with_reducible assumption | assumption))
    | (apply s_alloc TY; exact rfl; exact rfl; exact rfl)
    | (apply s_store TY; exact rfl; exact rfl; exact rfl; exact rfl; exact rfl; exact rfl)
    | (apply s_storeR TY; exact rfl; exact rfl; exact rfl; exact rfl; exact rfl; (first | exact rfl | ((repeat apply le_set); (first | apply le_int | apply le_ini); show _ + 1 ≤ _; omega))))
    exact lv_ret (ret1 rfl (res_tmp rfl))
  | true =>
  rw [hf] at F
  obtain ⟨f1, f2⟩ := fewB_true hf
  have b : SmallG x := ⟨by omega, by omega⟩
  by_cases hl : 43 < way.length
  · repeat (first
    | (apply s_a TY; exact rfl)
    | (apply s_t; exact rfl; (first | assumption | omega))
    | (apply s_f; exact rfl; (first | assumption | omega))
    | apply w_seq
    | apply w_region
    | (apply w_draw (id := 19) 20 rfl (by kernel_rfl))
    | apply s_nil
    | apply t_norm
    | apply t_exit
    | apply t_ret
    | apply k_hit
    | (apply k_miss; exact rfl)
    | apply k_norm
    | apply k_ret
    | apply w_block
    | apply w_exit
    | apply w_ret
    | apply w_skip
    | (apply w_condT; exact rfl; exact rfl)
    | (apply w_condF; exact rfl; exact rfl)
    | (apply s_k (F); exact rfl)
    | (apply s_k (awake_s); exact rfl)
    | (apply s_k (Few_s _); exact rfl)
    | (apply s_k (IceErr_s _); exact rfl)
    | (apply s_k2 (CopyIce_s _); exact rfl; (first | assumption | omega | decide); (first | assumption | omega | decide))
    | (apply s_k1 (Ints_s _ _); exact rfl; (first | assumption | omega | decide))
    | (apply s_s; exact rfl)
    | (apply s_l TY; exact rfl; (first | exact rfl | with_reducible assumption | assumption))
    | (apply s_m TY; exact rfl; (first | with_reducible assumption | exact rfl); exact rfl)
    | (apply s_r TY; exact rfl; (first | exact rfl | with_reducible assumption | assumption))
    | (apply s_alloc TY; exact rfl; exact rfl; exact rfl)
    | (apply s_store TY; exact rfl; exact rfl; exact rfl; exact rfl; exact rfl; exact rfl)
    | (apply s_storeR TY; exact rfl; exact rfl; exact rfl; exact rfl; exact rfl; (first | exact rfl | ((repeat apply le_set); (first | apply le_int | apply le_ini); show _ + 1 ≤ _; omega))))
    exact lv_ret (ret1 rfl (res_tmp rfl))
  have C0 := CopyWay_s way (by omega)
  have CW := CheckWay_s x way b (by omega)
  have PE : Summ Tryd.prog GG 43 [iv n] (iv (photE n)) := PhotonsErr_s n
  unfold chkV at CW
  by_cases i0 : iceErrE x = 0
  case neg =>
    rw [if_neg i0] at CW
    have AR := Arrival_err x n way b (iceErrE x) (.inl ⟨i0, rfl⟩)
    repeat (first
    | (apply s_a TY; exact rfl)
    | (apply s_t; exact rfl; (first | assumption | omega))
    | (apply s_f; exact rfl; (first | assumption | omega))
    | apply w_seq
    | apply w_region
    | (apply w_draw (id := 19) 20 rfl (by kernel_rfl))
    | apply s_nil
    | apply t_norm
    | apply t_exit
    | apply t_ret
    | apply k_hit
    | (apply k_miss; exact rfl)
    | apply k_norm
    | apply k_ret
    | apply w_block
    | apply w_exit
    | apply w_ret
    | apply w_skip
    | (apply w_condT; exact rfl; exact rfl)
    | (apply w_condF; exact rfl; exact rfl)
    | (apply s_k (F); exact rfl)
    | (apply s_k (C0); exact rfl)
    | (apply s_k (CW); exact rfl)
    | (apply s_k (AR); exact rfl)
    | (apply s_k (PE); exact rfl)
    | (apply s_k (awake_s); exact rfl)
    | (apply s_k (Few_s _); exact rfl)
    | (apply s_k (IceErr_s _); exact rfl)
    | (apply s_k2 (CopyIce_s _); exact rfl; (first | assumption | omega | decide); (first | assumption | omega | decide))
    | (apply s_k1 (Ints_s _ _); exact rfl; (first | assumption | omega | decide))
    | (apply s_s; exact rfl)
    | (apply s_l TY; exact rfl; (first | exact rfl | with_reducible assumption | assumption))
    | (apply s_m TY; exact rfl; (first | with_reducible assumption | exact rfl); exact rfl)
    | (apply s_r TY; exact rfl; (first | exact rfl | with_reducible assumption | assumption))
    | (apply s_alloc TY; exact rfl; exact rfl; exact rfl)
    | (apply s_store TY; exact rfl; exact rfl; exact rfl; exact rfl; exact rfl; exact rfl)
    | (apply s_storeR TY; exact rfl; exact rfl; exact rfl; exact rfl; exact rfl; (first | exact rfl | ((repeat apply le_set); (first | apply le_int | apply le_ini); show _ + 1 ≤ _; omega))))
    exact lv_ret (ret1 rfl (res_tmp rfl))
  have v : Valid x := (checkIce_zero x).1 i0
  rw [if_pos i0] at CW
  have WE := WayErr_s x way v
  by_cases w0 : wayErrE x way = 0
  case neg =>
    rw [show wayV x way = (0, wayErrE x way) by unfold wayV; rw [if_neg w0]] at CW
    by_cases p0 : photE n = 0
    · have AR := Arrival_way x n way b (by omega) i0 p0 w0
      repeat (first
    | (apply s_a TY; exact rfl)
    | (apply s_t; exact rfl; (first | assumption | omega))
    | (apply s_f; exact rfl; (first | assumption | omega))
    | apply w_seq
    | apply w_region
    | (apply w_draw (id := 19) 20 rfl (by kernel_rfl))
    | apply s_nil
    | apply t_norm
    | apply t_exit
    | apply t_ret
    | apply k_hit
    | (apply k_miss; exact rfl)
    | apply k_norm
    | apply k_ret
    | apply w_block
    | apply w_exit
    | apply w_ret
    | apply w_skip
    | (apply w_condT; exact rfl; exact rfl)
    | (apply w_condF; exact rfl; exact rfl)
    | (apply s_k (F); exact rfl)
    | (apply s_k (C0); exact rfl)
    | (apply s_k (CW); exact rfl)
    | (apply s_k (AR); exact rfl)
    | (apply s_k (PE); exact rfl)
    | (apply s_k (WE); exact rfl)
    | (apply s_k (awake_s); exact rfl)
    | (apply s_k (Few_s _); exact rfl)
    | (apply s_k (IceErr_s _); exact rfl)
    | (apply s_k2 (CopyIce_s _); exact rfl; (first | assumption | omega | decide); (first | assumption | omega | decide))
    | (apply s_k1 (Ints_s _ _); exact rfl; (first | assumption | omega | decide))
    | (apply s_s; exact rfl)
    | (apply s_l TY; exact rfl; (first | exact rfl | with_reducible assumption | assumption))
    | (apply s_m TY; exact rfl; (first | with_reducible assumption | exact rfl); exact rfl)
    | (apply s_r TY; exact rfl; (first | exact rfl | with_reducible assumption | assumption))
    | (apply s_alloc TY; exact rfl; exact rfl; exact rfl)
    | (apply s_store TY; exact rfl; exact rfl; exact rfl; exact rfl; exact rfl; exact rfl)
    | (apply s_storeR TY; exact rfl; exact rfl; exact rfl; exact rfl; exact rfl; (first | exact rfl | ((repeat apply le_set); (first | apply le_int | apply le_ini); show _ + 1 ≤ _; omega))))
      exact lv_ret (ret1 rfl (res_tmp rfl))
    · have AR := Arrival_err x n way b (photE n) (.inr ⟨i0, p0, rfl⟩)
      repeat (first
    | (apply s_a TY; exact rfl)
    | (apply s_t; exact rfl; (first | assumption | omega))
    | (apply s_f; exact rfl; (first | assumption | omega))
    | apply w_seq
    | apply w_region
    | (apply w_draw (id := 19) 20 rfl (by kernel_rfl))
    | apply s_nil
    | apply t_norm
    | apply t_exit
    | apply t_ret
    | apply k_hit
    | (apply k_miss; exact rfl)
    | apply k_norm
    | apply k_ret
    | apply w_block
    | apply w_exit
    | apply w_ret
    | apply w_skip
    | (apply w_condT; exact rfl; exact rfl)
    | (apply w_condF; exact rfl; exact rfl)
    | (apply s_k (F); exact rfl)
    | (apply s_k (C0); exact rfl)
    | (apply s_k (CW); exact rfl)
    | (apply s_k (AR); exact rfl)
    | (apply s_k (PE); exact rfl)
    | (apply s_k (WE); exact rfl)
    | (apply s_k (awake_s); exact rfl)
    | (apply s_k (Few_s _); exact rfl)
    | (apply s_k (IceErr_s _); exact rfl)
    | (apply s_k2 (CopyIce_s _); exact rfl; (first | assumption | omega | decide); (first | assumption | omega | decide))
    | (apply s_k1 (Ints_s _ _); exact rfl; (first | assumption | omega | decide))
    | (apply s_s; exact rfl)
    | (apply s_l TY; exact rfl; (first | exact rfl | with_reducible assumption | assumption))
    | (apply s_m TY; exact rfl; (first | with_reducible assumption | exact rfl); exact rfl)
    | (apply s_r TY; exact rfl; (first | exact rfl | with_reducible assumption | assumption))
    | (apply s_alloc TY; exact rfl; exact rfl; exact rfl)
    | (apply s_store TY; exact rfl; exact rfl; exact rfl; exact rfl; exact rfl; exact rfl)
    | (apply s_storeR TY; exact rfl; exact rfl; exact rfl; exact rfl; exact rfl; (first | exact rfl | ((repeat apply le_set); (first | apply le_int | apply le_ini); show _ + 1 ≤ _; omega))))
      exact lv_ret (ret1 rfl (res_tmp rfl))
  rw [show wayV x way = (delayTo x way way.length, 0) by unfold wayV; rw [if_pos w0]] at CW
  have h := wayOk v w0
  have DE := Delay_s x way h
  by_cases p0 : photE n = 0
  case neg =>
    have AR := Arrival_err x n way b (photE n) (.inr ⟨i0, p0, rfl⟩)
    repeat (first
    | (apply s_a TY; exact rfl)
    | (apply s_t; exact rfl; (first | assumption | omega))
    | (apply s_f; exact rfl; (first | assumption | omega))
    | apply w_seq
    | apply w_region
    | (apply w_draw (id := 19) 20 rfl (by kernel_rfl))
    | apply s_nil
    | apply t_norm
    | apply t_exit
    | apply t_ret
    | apply k_hit
    | (apply k_miss; exact rfl)
    | apply k_norm
    | apply k_ret
    | apply w_block
    | apply w_exit
    | apply w_ret
    | apply w_skip
    | (apply w_condT; exact rfl; exact rfl)
    | (apply w_condF; exact rfl; exact rfl)
    | (apply s_k (F); exact rfl)
    | (apply s_k (C0); exact rfl)
    | (apply s_k (CW); exact rfl)
    | (apply s_k (AR); exact rfl)
    | (apply s_k (PE); exact rfl)
    | (apply s_k (WE); exact rfl)
    | (apply s_k (DE); exact rfl)
    | (apply s_k (awake_s); exact rfl)
    | (apply s_k (Few_s _); exact rfl)
    | (apply s_k (IceErr_s _); exact rfl)
    | (apply s_k2 (CopyIce_s _); exact rfl; (first | assumption | omega | decide); (first | assumption | omega | decide))
    | (apply s_k1 (Ints_s _ _); exact rfl; (first | assumption | omega | decide))
    | (apply s_s; exact rfl)
    | (apply s_l TY; exact rfl; (first | exact rfl | with_reducible assumption | assumption))
    | (apply s_m TY; exact rfl; (first | with_reducible assumption | exact rfl); exact rfl)
    | (apply s_r TY; exact rfl; (first | exact rfl | with_reducible assumption | assumption))
    | (apply s_alloc TY; exact rfl; exact rfl; exact rfl)
    | (apply s_store TY; exact rfl; exact rfl; exact rfl; exact rfl; exact rfl; exact rfl)
    | (apply s_storeR TY; exact rfl; exact rfl; exact rfl; exact rfl; exact rfl; (first | exact rfl | ((repeat apply le_set); (first | apply le_int | apply le_ini); show _ + 1 ≤ _; omega))))
    exact lv_ret (ret1 rfl (res_tmp rfl))
  have AR := Arrival_ok x n way b i0 p0 w0
  have AL := Along_s x way h
  have BE := Beam_s n
  have pb := photE_zero.1 p0
  have al := along_len x way
  have n1 := h.n1; have n41 := h.n41
  have KO : SpreadOk x (beamL n) (alongL x way) := ⟨v, by rw [beamL_len]; decide, by rw [beamL_len]; decide, by omega, along_bd v, beamL_nonneg pb.1, by rw [beamL_sum]; omega⟩
  have SP := refSpread_s x (beamL n) (alongL x way) KO
  have II := Ints_s (spreadL x (beamL n) (alongL x way)) (spreadL x (beamL n) (alongL x way)) (by rw [spreadL_len, beamL_len]; decide)
  rw [show decide (spreadL x (beamL n) (alongL x way) = spreadL x (beamL n) (alongL x way)) = true by simp, spreadL_len, beamL_len] at II
  rw [beamL_len] at BE SP
  rw [al] at SP
  repeat (first
    | (apply s_a TY; exact rfl)
    | (apply s_t; exact rfl; (first | assumption | omega))
    | (apply s_f; exact rfl; (first | assumption | omega))
    | apply w_seq
    | apply w_region
    | (apply w_draw (id := 19) 20 rfl (by kernel_rfl))
    | apply s_nil
    | apply t_norm
    | apply t_exit
    | apply t_ret
    | apply k_hit
    | (apply k_miss; exact rfl)
    | apply k_norm
    | apply k_ret
    | apply w_block
    | apply w_exit
    | apply w_ret
    | apply w_skip
    | (apply w_condT; exact rfl; exact rfl)
    | (apply w_condF; exact rfl; exact rfl)
    | (apply s_k (F); exact rfl)
    | (apply s_k (C0); exact rfl)
    | (apply s_k (CW); exact rfl)
    | (apply s_k (AR); exact rfl)
    | (apply s_k (PE); exact rfl)
    | (apply s_k (WE); exact rfl)
    | (apply s_k (DE); exact rfl)
    | (apply s_k (AL); exact rfl)
    | (apply s_k (BE); exact rfl)
    | (apply s_k (SP); exact rfl)
    | (apply s_k (II); exact rfl)
    | (apply s_k (awake_s); exact rfl)
    | (apply s_k (Few_s _); exact rfl)
    | (apply s_k (IceErr_s _); exact rfl)
    | (apply s_k2 (CopyIce_s _); exact rfl; (first | assumption | omega | decide); (first | assumption | omega | decide))
    | (apply s_k1 (Ints_s _ _); exact rfl; (first | assumption | omega | decide))
    | (apply s_s; exact rfl)
    | (apply s_l TY; exact rfl; (first | exact rfl | with_reducible assumption | assumption))
    | (apply s_m TY; exact rfl; (first | with_reducible assumption | exact rfl); exact rfl)
    | (apply s_r TY; exact rfl; (first | exact rfl | with_reducible assumption | assumption))
    | (apply s_alloc TY; exact rfl; exact rfl; exact rfl)
    | (apply s_store TY; exact rfl; exact rfl; exact rfl; exact rfl; exact rfl; exact rfl)
    | (apply s_storeR TY; exact rfl; exact rfl; exact rfl; exact rfl; exact rfl; (first | exact rfl | ((repeat apply le_set); (first | apply le_int | apply le_ini); show _ + 1 ≤ _; omega))))
  exact lv_ret (ret1 rfl (res_tmp rfl))
end Go.Proofs.YtienhiloecfgnaaDoor
