/- Laws on which the proofs of this seat stand. No condition. -/
import Derived.Test.YtienhiloecfgnaaDoorK3
import Derived.Deep.Slices
import Derived.ChangeArms
import Derived.Test.YtienhiloecfgnaaDoorRows
import Derived.ProofKit
import Derived.LaidMore
import Derived.OpenShut
import Derived.Stop.Joined
import Derived.LaidHandle
namespace Go.Proofs.YtienhiloecfgnaaDoor
open Go Go.RowKit Go.Proofs Go.Shelf Go.Ab
def bv (b : Bool) : FV := .v (.bool b)
theorem avb {a b : Bool} (h : a = b) : AV.f (bv a) = AV.f (bv b) := by rw [h]
theorem avi {a b : Int} (h : a = b) : AV.f (iv a) = AV.f (iv b) := by rw [h]
theorem Within_s (n lo hi : Int) : Summ Tryd.prog GG 46 [iv n, iv lo, iv hi] (bv (withinB n lo hi)) := by
  refine summW Tryd.func46 rfl rfl 15 rfl (by simp) (fun M0 => ?_)
  by_cases h1 : lo ≤ n
  · have hc : decide (lo ≤ n) = true := by simpa using h1
    repeat (first
    | (apply s_move_f; exact rfl; exact rfl)
    | (apply s_assign_f; exact rfl; exact rfl)
    | (apply s_leq; exact rfl; exact rfl; exact rfl)
    | (apply s_pickT; exact rfl; exact rfl; (first | exact rfl | assumption); exact rfl)
    | apply w_seq
    | apply w_region
    | apply s_nil
    | apply t_norm
    | apply w_ret
    | (apply g_move_f; exact rfl; (first | exact rfl | assumption); exact rfl; exact rfl)
    | (apply g_leq; exact rfl; (first | exact rfl | assumption); exact rfl; exact rfl; exact rfl))
    exact lv_ret (ret1 rfl (res_tmp (avb (by unfold withinB; rw [hc]; rfl))))
  · have hc : decide (lo ≤ n) = false := by simpa using h1
    repeat (first
    | (apply s_move_f; exact rfl; exact rfl)
    | (apply s_assign_f; exact rfl; exact rfl)
    | (apply s_leq; exact rfl; exact rfl; exact rfl)
    | (apply s_pickF; exact rfl; exact rfl; (first | exact rfl | assumption); exact rfl)
    | apply w_seq
    | apply w_region
    | apply s_nil
    | apply t_norm
    | apply w_ret
    | (apply g_skip; exact rfl; (first | exact rfl | assumption); exact rfl))
    exact lv_ret (ret1 rfl (res_tmp (avb (by unfold withinB; rw [hc]; rfl))))
def fewB (x : Grid) : Bool := decide ((x.layers.length : Int) ≤ 8) && decide ((x.tilt.length : Int) ≤ 10)
theorem fewB_true {x : Grid} (h : fewB x = true) : x.layers.length ≤ 8 ∧ x.tilt.length ≤ 10 := by
  unfold fewB at h
  simp only [Bool.and_eq_true, decide_eq_true_eq] at h
  omega
theorem Few_s (x : Grid) : Summ Tryd.prog GG 16 [gridF x] (bv (fewB x)) := by
  refine summW Tryd.func16 rfl rfl 13 rfl (by simp) (fun M0 => ?_)
  by_cases h1 : (x.layers.length : Int) ≤ 8
  · have hc : decide ((x.layers.length : Int) ≤ 8) = true := by simpa using h1
    repeat (first
    | (apply s_move_f; exact rfl; exact rfl)
    | (apply s_assign_f; exact rfl; exact rfl)
    | (apply s_fld_pt TY; exact rfl; exact rfl; exact rfl)
    | (apply s_load_pt TY; exact rfl; exact rfl; exact rfl; (first | exact rfl | assumption))
    | (apply s_len TY; exact rfl; exact rfl; exact rfl)
    | (apply s_box; exact rfl; exact rfl; exact rfl)
    | (apply s_leq; exact rfl; exact rfl; exact rfl)
    | (apply s_pickT; exact rfl; exact rfl; (first | exact rfl | assumption); exact rfl)
    | apply w_seq
    | apply w_region
    | apply s_nil
    | apply t_norm
    | apply w_ret
    | (apply g_fld_pt TY; exact rfl; (first | exact rfl | assumption); exact rfl; exact rfl; exact rfl)
    | (apply g_load_pt TY; exact rfl; (first | exact rfl | assumption); exact rfl; exact rfl; exact rfl; (first | exact rfl | assumption))
    | (apply g_len TY; exact rfl; (first | exact rfl | assumption); exact rfl; exact rfl; exact rfl)
    | (apply g_leq; exact rfl; (first | exact rfl | assumption); exact rfl; exact rfl; exact rfl))
    exact lv_ret (ret1 rfl (res_tmp (avb (by unfold fewB; rw [hc]; rfl))))
  · have hc : decide ((x.layers.length : Int) ≤ 8) = false := by simpa using h1
    repeat (first
    | (apply s_move_f; exact rfl; exact rfl)
    | (apply s_assign_f; exact rfl; exact rfl)
    | (apply s_fld_pt TY; exact rfl; exact rfl; exact rfl)
    | (apply s_load_pt TY; exact rfl; exact rfl; exact rfl; (first | exact rfl | assumption))
    | (apply s_len TY; exact rfl; exact rfl; exact rfl)
    | (apply s_box; exact rfl; exact rfl; exact rfl)
    | (apply s_leq; exact rfl; exact rfl; exact rfl)
    | (apply s_pickF; exact rfl; exact rfl; (first | exact rfl | assumption); exact rfl)
    | apply w_seq
    | apply w_region
    | apply s_nil
    | apply t_norm
    | apply w_ret
    | (apply g_skip; exact rfl; (first | exact rfl | assumption); exact rfl))
    exact lv_ret (ret1 rfl (res_tmp (avb (by unfold fewB; rw [hc]; rfl))))
theorem intsF_len (l : List Int) : (intsF l).length = l.length * 1 := by simp [intsF]
theorem laysF_len (l : List Layer) : (laysF l).length = l.length * 3 := by
  induction l with
  | nil => rfl
  | cons y l ih => simp only [laysF, List.flatMap_cons, List.length_append, List.length_cons] at *; rw [ih]; simp [layF]; omega
theorem CopyInts_s (l : List Int) (hl : l.length ≤ 1000000) : Summ Tryd.prog GG 38 [.sl l.length (intsF l)] (.sl l.length (intsF l)) := by
  have h1 := intsF_len l
  refine summW Tryd.func38 rfl rfl 6 rfl (by simp) (fun M0 => ?_)
  repeat (first
    | (apply s_bslice_clip TY; exact rfl; exact rfl; exact rfl; exact rfl; exact rfl; exact rfl)
    | (apply s_append_copy TY; exact rfl; exact rfl; exact rfl; exact rfl; exact rfl; exact rfl; exact rfl; assumption; (unfold maxLen; omega); omega)
    | (apply s_move_f; exact rfl; exact rfl)
    | (apply s_assign_f; exact rfl; exact rfl)
    | apply w_seq
    | apply w_region
    | apply s_nil
    | apply t_norm
    | apply w_ret)
  exact lv_ret (ret1 rfl (res_tmp rfl))
set_option maxRecDepth 100000 in
theorem CopyIce_s (x : Grid) (hl : x.layers.length ≤ 1000000) (ht : x.tilt.length ≤ 1000000) : Summ Tryd.prog GG 20 [gridF x] (gridF x) := by
  have h1 := intsF_len x.tilt
  have h2 := laysF_len x.layers
  refine summW Tryd.func20 rfl rfl 13 rfl (by simp) (fun M0 => ?_)
  repeat (first
    | (apply s_boxw; exact rfl; exact rfl; exact rfl; exact rfl)
    | apply w_seq
    | apply w_region
    | apply s_nil
    | apply t_norm
    | (apply s_alloc TY; exact rfl; exact rfl; exact rfl))
  apply w_draw 8 rfl (by kernel_rfl)
  repeat (first
    | (apply s_bslice_clip TY; exact rfl; exact rfl; exact rfl; exact rfl; exact rfl; exact rfl)
    | (apply s_append_copy TY; exact rfl; exact rfl; exact rfl; exact rfl; exact rfl; exact rfl; exact rfl; assumption; (unfold maxLen; omega); omega)
    | (apply s_fld_bx TY; exact rfl; exact rfl; exact rfl)
    | (apply s_load_bx_f TY; exact rfl; exact rfl; exact rfl; exact rfl; exact rfl)
    | (apply s_load_bxs TY; exact rfl; exact rfl; exact rfl; exact rfl; exact rfl; exact rfl)
    | apply w_seq
    | apply w_region
    | apply s_nil
    | apply t_norm
    | apply w_ret
    | (apply s_call (CopyInts_s x.tilt ht); exact rfl; exact rfl; exact rfl; exact rfl)
    | (apply s_store TY; exact rfl; exact rfl; exact rfl; exact rfl; exact rfl; exact rfl))
  exact lv_ret (ret1 rfl (res_bxs (sub := gridL x) TY rfl rfl rfl rfl rfl))
set_option maxRecDepth 100000 in
theorem CellErr_s (x : Grid) (c : Cel) (v : Valid x) : Summ Tryd.prog GG 18 [gridF x, .agg (celF c)] (iv (cellErrE x c)) := by
  have r1 := v.r1
  have r12 := v.r12
  have t8 := v.t8
  have hw : wrap64 (x.rows - 1) = x.rows - 1 := by unfold wrap64; omega
  refine summW Tryd.func18 rfl rfl 22 rfl (by simp) (fun M0 => ?_)
  by_cases h1 : withinB c.col 0 ((x.tilt.length : Int) - 1) = true
  · have hc : (!withinB c.col 0 ((x.tilt.length : Int) - 1)) = false := by rw [h1]; rfl
    by_cases h2 : withinB c.row 0 (x.rows - 1) = true
    · have hd : (!withinB c.row 0 (x.rows - 1)) = false := by rw [h2]; rfl
      repeat (first
    | (apply s_move_f; exact rfl; exact rfl)
    | (apply s_assign_f; exact rfl; exact rfl)
    | (apply s_fld_pt TY; exact rfl; exact rfl; exact rfl)
    | (apply s_load_pt TY; exact rfl; exact rfl; exact rfl; (first | exact rfl | assumption))
    | (apply s_len TY; exact rfl; exact rfl; exact rfl)
    | (apply s_box; exact rfl; exact rfl; exact rfl)
    | (apply s_not; exact rfl; exact rfl)
    | (apply s_pickF; exact rfl; exact rfl; (first | exact rfl | assumption); exact rfl)
    | apply w_seq
    | apply w_region
    | apply s_nil
    | apply t_norm
    | apply w_ret
    | apply w_skip
    | (apply s_call (Within_s _ _ _); exact rfl; exact rfl; exact rfl; exact rfl)
    | (apply s_sub; exact rfl; exact rfl; exact rfl; (omega))
    | (apply g_fld_pt TY; exact rfl; (first | exact rfl | assumption); exact rfl; exact rfl; exact rfl)
    | (apply g_load_pt TY; exact rfl; (first | exact rfl | assumption); exact rfl; exact rfl; exact rfl; (first | exact rfl | assumption))
    | (apply g_not; exact rfl; (first | exact rfl | assumption); exact rfl; exact rfl)
    | (apply g_call (Within_s _ _ _); exact rfl; (first | exact rfl | assumption); exact rfl; exact rfl; exact rfl; exact rfl)
    | (apply g_sub; exact rfl; (first | exact rfl | assumption); exact rfl; exact rfl; exact rfl; (omega))
    | (apply w_condF; exact rfl; (first | exact rfl | assumption)))
      exact lv_ret (ret1 rfl (res_tmp (avi (by unfold cellErrE cellB; rw [hw, h1, h2]; rfl))))
    · have h2 := Bool.eq_false_iff.2 h2
      have hd : (!withinB c.row 0 (x.rows - 1)) = true := by rw [h2]; rfl
      repeat (first
    | (apply s_move_f; exact rfl; exact rfl)
    | (apply s_assign_f; exact rfl; exact rfl)
    | (apply s_fld_pt TY; exact rfl; exact rfl; exact rfl)
    | (apply s_load_pt TY; exact rfl; exact rfl; exact rfl; (first | exact rfl | assumption))
    | (apply s_len TY; exact rfl; exact rfl; exact rfl)
    | (apply s_box; exact rfl; exact rfl; exact rfl)
    | (apply s_not; exact rfl; exact rfl)
    | (apply s_pickF; exact rfl; exact rfl; (first | exact rfl | assumption); exact rfl)
    | apply w_seq
    | apply w_region
    | apply s_nil
    | apply t_norm
    | apply t_ret
    | apply w_ret
    | (apply s_call (Within_s _ _ _); exact rfl; exact rfl; exact rfl; exact rfl)
    | (apply s_sub; exact rfl; exact rfl; exact rfl; (omega))
    | (apply g_fld_pt TY; exact rfl; (first | exact rfl | assumption); exact rfl; exact rfl; exact rfl)
    | (apply g_load_pt TY; exact rfl; (first | exact rfl | assumption); exact rfl; exact rfl; exact rfl; (first | exact rfl | assumption))
    | (apply g_not; exact rfl; (first | exact rfl | assumption); exact rfl; exact rfl)
    | (apply g_call (Within_s _ _ _); exact rfl; (first | exact rfl | assumption); exact rfl; exact rfl; exact rfl; exact rfl)
    | (apply g_sub; exact rfl; (first | exact rfl | assumption); exact rfl; exact rfl; exact rfl; (omega))
    | (apply w_condT; exact rfl; (first | exact rfl | assumption)))
      exact lv_ret (ret1 rfl (res_tmp (avi (by unfold cellErrE cellB; rw [hw, h1, h2]; rfl))))
  · have h1 := Bool.eq_false_iff.2 h1
    have hc : (!withinB c.col 0 ((x.tilt.length : Int) - 1)) = true := by rw [h1]; rfl
    repeat (first
    | (apply s_move_f; exact rfl; exact rfl)
    | (apply s_assign_f; exact rfl; exact rfl)
    | (apply s_fld_pt TY; exact rfl; exact rfl; exact rfl)
    | (apply s_load_pt TY; exact rfl; exact rfl; exact rfl; (first | exact rfl | assumption))
    | (apply s_len TY; exact rfl; exact rfl; exact rfl)
    | (apply s_box; exact rfl; exact rfl; exact rfl)
    | (apply s_not; exact rfl; exact rfl)
    | (apply s_pickT; exact rfl; exact rfl; (first | exact rfl | assumption); exact rfl)
    | apply w_seq
    | apply w_region
    | apply s_nil
    | apply t_norm
    | apply t_ret
    | apply w_ret
    | (apply s_call (Within_s _ _ _); exact rfl; exact rfl; exact rfl; exact rfl)
    | (apply s_sub; exact rfl; exact rfl; exact rfl; (omega))
    | (apply g_skip; exact rfl; (first | exact rfl | assumption); exact rfl)
    | (apply w_condT; exact rfl; (first | exact rfl | assumption)))
    exact lv_ret (ret1 rfl (res_tmp (avi (by unfold cellErrE cellB; rw [h1]; rfl))))
set_option maxRecDepth 100000 in
theorem Layer_s (x : Grid) (c : Cel) (v : Valid x) (hc : InG x c) : Summ Tryd.prog GG 36 [gridF x, .agg (celF c)] (iv (layerI x c)) := by
  have l6 := v.l6
  have t8 := v.t8
  have r12 := v.r12
  obtain ⟨⟨c0, c1⟩, d0, d1⟩ := hc
  have hk : c.col.toNat < x.tilt.length := by omega
  have hn : intsF x.tilt ≠ [] := map_ne hk
  have hg : (intsF x.tilt)[c.col.toNat * 1]? = some (iv x.tilt[c.col.toNat]) := map_at hk
  have hb := v.til _ (List.getElem_mem hk)
  refine summW Tryd.func36 rfl rfl 20 rfl (by simp) (fun M0 => ?_)
  repeat (first
    | (apply s_assign_f; exact rfl; exact rfl)
    | (apply s_box; exact rfl; exact rfl; exact rfl)
    | apply w_seq
    | apply w_region
    | apply s_nil
    | apply t_norm)
  apply w_draw 16 rfl (by kernel_rfl)
  repeat (first
    | (apply s_assign_f; exact rfl; exact rfl)
    | (apply s_fld_pt TY; exact rfl; exact rfl; exact rfl)
    | (apply s_load_pt TY; exact rfl; exact rfl; exact rfl; (first | exact rfl | assumption))
    | (apply s_len TY; exact rfl; exact rfl; exact rfl)
    | (apply s_min; exact rfl; exact rfl; exact rfl)
    | (apply s_max; exact rfl; exact rfl; exact rfl)
    | apply s_nil
    | apply t_norm
    | apply w_ret
    | (apply s_sub; exact rfl; exact rfl; exact rfl; (omega))
    | (apply s_idx TY; exact rfl; exact rfl; exact rfl; exact rfl; omega; omega; assumption))
  exact lv_ret (ret1 rfl (res_tmp (avi (by unfold layerI; rw [List.getD_eq_getElem?_getD, List.getElem?_eq_getElem hk, Option.getD_some]; omega))))
end Go.Proofs.YtienhiloecfgnaaDoor
namespace Go.Proofs.YtienhiloecfgnaaDoor
open Go Go.RowKit Go.Proofs Go.Shelf Go.Ab
theorem ck_none {x : Grid} (h : x.layers.length = 0) : checkIce x = (0, 10) := by
  have e : iceE1 x = 10 := by unfold iceE1; rw [h]; rfl
  unfold checkIce; rw [e]; rfl
theorem ck_many {x : Grid} (h : 6 < x.layers.length) : checkIce x = (0, 8) := by
  have e : iceE1 x = 8 := by
    unfold iceE1 unlessE
    rw [if_pos (by simpa using (by omega : 0 < x.layers.length)), if_neg (by simpa using (by omega : (6 : Int) < x.layers.length))]; rfl
  unfold checkIce; rw [e]; rfl
theorem ck_e1 {x : Grid} (h : 0 < x.layers.length) (h2 : x.layers.length ≤ 6) : (iceE1 x != 0) = false := by
  have e : iceE1 x = 0 := by
    unfold iceE1 unlessE
    rw [if_pos (by simpa using h), if_pos (by simpa using (by omega : (x.layers.length : Int) ≤ 6))]; rfl
  rw [e]; rfl
theorem ck_layer {x : Grid} (h : 0 < x.layers.length) (h2 : x.layers.length ≤ 6) {k : Nat} (hk : k < x.layers.length) (hb : layerOk x.layers[k] = false) (hf : ∀ j, (h : j < x.layers.length) → j < k → layerOk x.layers[j] = true) : checkIce x = ((k : Int), 2) := by
  have e : iceI1 x = k := by
    unfold iceI1
    rw [findIdx_some (p := fun l => !layerOk l) hk (by simp [hb]) (fun j h hj => by simp [hf j h hj])]; rfl
  unfold checkIce
  rw [ck_e1 h h2, if_neg (by decide), e, if_pos (by omega)]
structure LayOk (x : Grid) : Prop where
  h : 0 < x.layers.length
  h2 : x.layers.length ≤ 6
  all : ∀ j, (h : j < x.layers.length) → layerOk x.layers[j] = true
theorem ck_i1 {x : Grid} (L : LayOk x) : ¬ 0 ≤ iceI1 x := by
  have : iceI1 x = -1 := by
    unfold iceI1
    rw [List.findIdx?_eq_none_iff.2 (fun y hy => by
      obtain ⟨j, hj, rfl⟩ := List.getElem_of_mem hy
      simp [L.all j hj])]; rfl
  rw [this]; decide
theorem ck_rows {x : Grid} (L : LayOk x) (h : withinB x.rows 1 12 = false) : checkIce x = (0, 2) := by
  have e : iceE2 x = 2 := by unfold iceE2; rw [h]; rfl
  unfold checkIce
  rw [ck_e1 L.h L.h2, if_neg (by decide), if_neg (ck_i1 L), e]; rfl
theorem ck_tilt0 {x : Grid} (L : LayOk x) (h : withinB x.rows 1 12 = true) (h0 : x.tilt.length = 0) : checkIce x = (0, 10) := by
  have e : iceE2 x = 10 := by unfold iceE2; rw [h, h0]; rfl
  unfold checkIce
  rw [ck_e1 L.h L.h2, if_neg (by decide), if_neg (ck_i1 L), e]; rfl
theorem ck_tilt8 {x : Grid} (L : LayOk x) (h : withinB x.rows 1 12 = true) (h0 : 8 < x.tilt.length) : checkIce x = (0, 8) := by
  have e : iceE2 x = 8 := by
    unfold iceE2
    rw [h]
    unfold unlessE
    rw [if_pos rfl, if_pos (by simpa using (by omega : 0 < x.tilt.length)), if_neg (by simpa using (by omega : (8 : Int) < x.tilt.length))]; rfl
  unfold checkIce
  rw [ck_e1 L.h L.h2, if_neg (by decide), if_neg (ck_i1 L), e]; rfl
theorem ck_e2 {x : Grid} (h : withinB x.rows 1 12 = true) (h0 : 0 < x.tilt.length) (h8 : x.tilt.length ≤ 8) : (iceE2 x != 0) = false := by
  have e : iceE2 x = 0 := by
    unfold iceE2
    rw [h]
    unfold unlessE
    rw [if_pos rfl, if_pos (by simpa using h0), if_pos (by simpa using (by omega : (x.tilt.length : Int) ≤ 8))]; rfl
  rw [e]; rfl
theorem ck_tilt {x : Grid} (L : LayOk x) (h : withinB x.rows 1 12 = true) (h0 : 0 < x.tilt.length) (h8 : x.tilt.length ≤ 8) {k : Nat} (hk : k < x.tilt.length) (hb : withinB x.tilt[k] (-12) 12 = false) (hf : ∀ j, (h : j < x.tilt.length) → j < k → withinB x.tilt[j] (-12) 12 = true) : checkIce x = ((k : Int), 2) := by
  have e : iceI2 x = k := by
    unfold iceI2
    rw [findIdx_some (p := fun n => !withinB n (-12) 12) hk (by simp [hb]) (fun j h hj => by simp [hf j h hj])]; rfl
  unfold checkIce
  rw [ck_e1 L.h L.h2, if_neg (by decide), if_neg (ck_i1 L), ck_e2 h h0 h8, if_neg (by decide), e, if_pos (by omega)]
theorem ck_ok {x : Grid} (L : LayOk x) (h : withinB x.rows 1 12 = true) (h0 : 0 < x.tilt.length) (h8 : x.tilt.length ≤ 8) (hf : ∀ j, (h : j < x.tilt.length) → withinB x.tilt[j] (-12) 12 = true) : checkIce x = (0, 0) := by
  have e : iceI2 x = -1 := by
    unfold iceI2
    rw [List.findIdx?_eq_none_iff.2 (fun y hy => by
      obtain ⟨j, hj, rfl⟩ := List.getElem_of_mem hy
      simp [hf j hj])]; rfl
  unfold checkIce
  rw [ck_e1 L.h L.h2, if_neg (by decide), if_neg (ck_i1 L), ck_e2 h h0 h8, if_neg (by decide), e, if_neg (by decide)]
theorem av1 {p q : Int × Int} (h : p = q) : AV.f (iv q.1) = AV.f (iv p.1) := by rw [h]
theorem av2 {p q : Int × Int} (h : p = q) : AV.f (iv q.2) = AV.f (iv p.2) := by rw [h]
set_option maxRecDepth 100000 in
set_option maxHeartbeats 1000000 in
theorem refCheckIce_s (x : Grid) : Summ Tryd.prog GG 35 [gridF x] (.tup [iv (checkIce x).1, iv (checkIce x).2]) := by
  refine summW Tryd.func35 rfl rfl 71 rfl (by simp) (fun M0 => ?_)
  by_cases h0 : x.layers.length = 0
  · have hc : decide ((x.layers.length : Int) = 0) = true := by simpa using h0
    repeat (first
    | (apply s_assign_f; exact rfl; exact rfl)
    | (apply s_fld_pt TY; exact rfl; exact rfl; exact rfl)
    | (apply s_load_pt TY; exact rfl; exact rfl; exact rfl; (first | exact rfl | assumption))
    | (apply s_len TY; exact rfl; exact rfl; exact rfl)
    | (apply s_box; exact rfl; exact rfl; exact rfl)
    | (apply s_eql; exact rfl; exact rfl; exact rfl)
    | apply w_seq
    | apply w_region
    | apply s_nil
    | apply t_norm
    | apply t_ret
    | apply w_ret
    | (apply w_condT; exact rfl; (first | exact rfl | assumption)))
    have e := ck_none h0
    exact lv_ret (ret2 rfl (res_tmp (av1 e)) (res_tmp (av2 e)))
  have hc : decide ((x.layers.length : Int) = 0) = false := by simpa using h0
  by_cases h6 : 6 < x.layers.length
  · have hd : decide ((6 : Int) < x.layers.length) = true := decide_eq_true (by omega)
    repeat (first
    | (apply s_assign_f; exact rfl; exact rfl)
    | (apply s_fld_pt TY; exact rfl; exact rfl; exact rfl)
    | (apply s_load_pt TY; exact rfl; exact rfl; exact rfl; (first | exact rfl | assumption))
    | (apply s_len TY; exact rfl; exact rfl; exact rfl)
    | (apply s_box; exact rfl; exact rfl; exact rfl)
    | (apply s_gtr; exact rfl; exact rfl; exact rfl)
    | (apply s_eql; exact rfl; exact rfl; exact rfl)
    | apply w_seq
    | apply w_region
    | apply s_nil
    | apply t_norm
    | apply t_ret
    | apply w_ret
    | apply w_skip
    | (apply w_condT; exact rfl; (first | exact rfl | assumption))
    | (apply w_condF; exact rfl; (first | exact rfl | assumption)))
    have e := ck_many h6
    exact lv_ret (ret2 rfl (res_tmp (av1 e)) (res_tmp (av2 e)))
  have hd : decide ((6 : Int) < x.layers.length) = false := decide_eq_false (by omega)
  repeat (first
    | (apply s_assign_f; exact rfl; exact rfl)
    | (apply s_fld_pt TY; exact rfl; exact rfl; exact rfl)
    | (apply s_load_pt TY; exact rfl; exact rfl; exact rfl; (first | exact rfl | assumption))
    | (apply s_len TY; exact rfl; exact rfl; exact rfl)
    | (apply s_box; exact rfl; exact rfl; exact rfl)
    | (apply s_gtr; exact rfl; exact rfl; exact rfl)
    | (apply s_eql; exact rfl; exact rfl; exact rfl)
    | apply w_seq
    | apply w_region
    | apply s_nil
    | apply t_norm
    | apply w_block
    | apply w_skip
    | (apply w_condF; exact rfl; (first | exact rfl | assumption)))
  apply w_loop (fun k : Nat => ⟨(Ab.upd (Ab.upd (Ab.upd (Ab.upd (fun _ => .bot) 1 (.f (.pt (gridL x) 0))) 2 (.f (iv 0))) 3 (.f (iv 0))) 4 (.f (iv (k : Nat)))), (fun _ => none), 0⟩) (fun k => k ≤ x.layers.length ∧ ∀ j, (h : j < x.layers.length) → j < k → layerOk x.layers[j] = true) (fun k => x.layers.length - k) 0 ⟨Nat.zero_le _, fun j _ h => absurd h (Nat.not_lt_zero j)⟩ (gh_le ⟨le_upd rfl trivial (le_upd rfl trivial (le_upd rfl trivial (le_upd rfl trivial (le_nil _)))), le_h0 _ _⟩)
  intro k ⟨hk, hall⟩
  by_cases hkc : k < x.layers.length
  · have hcc : decide ((k : Int) < (x.layers.length : Int)) = true := by simpa using hkc
    have hsub : ((laysF x.layers).drop (k * 3)).take 3 = layF x.layers[k] := flat_sub (f := layF) (fun _ => rfl) hkc
    have hne : laysF x.layers ≠ [] := flat_ne (f := layF) (s := 3) (fun _ => rfl) (by decide) hkc
    cases w1 : withinB x.layers[k].delay 1 1000 with
    | false =>
      have g1 : (!withinB x.layers[k].delay 1 1000) = true := by rw [w1]; rfl
      repeat (first
    | (apply s_move_f; exact rfl; exact rfl)
    | (apply s_assign_f; exact rfl; exact rfl)
    | (apply s_fld_pt TY; exact rfl; exact rfl; exact rfl)
    | (apply s_load_pt TY; exact rfl; exact rfl; exact rfl; (first | exact rfl | assumption))
    | (apply s_load_pts TY; exact rfl; exact rfl; exact rfl; (first | assumption | exact rfl); exact rfl)
    | (apply s_len TY; exact rfl; exact rfl; exact rfl)
    | (apply s_not; exact rfl; exact rfl)
    | (apply s_lss; exact rfl; exact rfl; exact rfl)
    | (apply s_fld_bx TY; exact rfl; exact rfl; exact rfl)
    | (apply s_load_bx_f TY; exact rfl; exact rfl; exact rfl; exact rfl; exact rfl)
    | (apply s_pickT; exact rfl; exact rfl; (first | exact rfl | assumption); exact rfl)
    | apply w_seq
    | apply w_region
    | apply s_nil
    | apply t_norm
    | apply t_ret
    | apply k_ret
    | apply w_block
    | apply w_ret
    | apply w_skip
    | (apply s_call (Within_s _ _ _); exact rfl; exact rfl; exact rfl; exact rfl)
    | (apply g_skip; exact rfl; (first | exact rfl | assumption); exact rfl)
    | (apply s_idxN TY; exact rfl; exact rfl; exact rfl; exact rfl; assumption; assumption)
    | (apply s_alloc TY; exact rfl; exact rfl; exact rfl)
    | (apply s_store TY; exact rfl; exact rfl; exact rfl; exact rfl; exact rfl; exact rfl)
    | (apply w_condT; exact rfl; (first | exact rfl | assumption)))
      have e := ck_layer (by omega) (by omega) hkc (by unfold layerOk; rw [w1]; rfl) hall
      exact lv_ret (ret2 rfl (res_tmp (av1 e)) (res_tmp (av2 e)))
    | true =>
      have g1 : (!withinB x.layers[k].delay 1 1000) = false := by rw [w1]; rfl
      cases w2 : withinB x.layers[k].loss 0 1000 with
      | false =>
        have g2 : (!withinB x.layers[k].loss 0 1000) = true := by rw [w2]; rfl
        repeat (first
    | (apply s_move_f; exact rfl; exact rfl)
    | (apply s_assign_f; exact rfl; exact rfl)
    | (apply s_fld_pt TY; exact rfl; exact rfl; exact rfl)
    | (apply s_load_pt TY; exact rfl; exact rfl; exact rfl; (first | exact rfl | assumption))
    | (apply s_load_pts TY; exact rfl; exact rfl; exact rfl; (first | assumption | exact rfl); exact rfl)
    | (apply s_len TY; exact rfl; exact rfl; exact rfl)
    | (apply s_not; exact rfl; exact rfl)
    | (apply s_lss; exact rfl; exact rfl; exact rfl)
    | (apply s_fld_bx TY; exact rfl; exact rfl; exact rfl)
    | (apply s_load_bx_f TY; exact rfl; exact rfl; exact rfl; exact rfl; exact rfl)
    | (apply s_pickT; exact rfl; exact rfl; (first | exact rfl | assumption); exact rfl)
    | (apply s_pickF; exact rfl; exact rfl; (first | exact rfl | assumption); exact rfl)
    | apply w_seq
    | apply w_region
    | apply s_nil
    | apply t_norm
    | apply t_ret
    | apply k_ret
    | apply w_block
    | apply w_ret
    | apply w_skip
    | (apply s_call (Within_s _ _ _); exact rfl; exact rfl; exact rfl; exact rfl)
    | (apply g_skip; exact rfl; (first | exact rfl | assumption); exact rfl)
    | (apply g_not; exact rfl; (first | exact rfl | assumption); exact rfl; exact rfl)
    | (apply g_fld_bx TY; exact rfl; (first | exact rfl | assumption); exact rfl; exact rfl; exact rfl)
    | (apply g_load_bx_f TY; exact rfl; (first | exact rfl | assumption); exact rfl; exact rfl; exact rfl; exact rfl; exact rfl)
    | (apply g_call (Within_s _ _ _); exact rfl; (first | exact rfl | assumption); exact rfl; exact rfl; exact rfl; exact rfl)
    | (apply s_idxN TY; exact rfl; exact rfl; exact rfl; exact rfl; assumption; assumption)
    | (apply s_alloc TY; exact rfl; exact rfl; exact rfl)
    | (apply s_store TY; exact rfl; exact rfl; exact rfl; exact rfl; exact rfl; exact rfl)
    | (apply w_condT; exact rfl; (first | exact rfl | assumption)))
        have e := ck_layer (by omega) (by omega) hkc (by unfold layerOk; rw [w1, w2]; rfl) hall
        exact lv_ret (ret2 rfl (res_tmp (av1 e)) (res_tmp (av2 e)))
      | true =>
        have g2 : (!withinB x.layers[k].loss 0 1000) = false := by rw [w2]; rfl
        cases w3 : withinB x.layers[k].scatter 0 1000 with
        | false =>
          have g3 : (!withinB x.layers[k].scatter 0 1000) = true := by rw [w3]; rfl
          repeat (first
    | (apply s_move_f; exact rfl; exact rfl)
    | (apply s_assign_f; exact rfl; exact rfl)
    | (apply s_fld_pt TY; exact rfl; exact rfl; exact rfl)
    | (apply s_load_pt TY; exact rfl; exact rfl; exact rfl; (first | exact rfl | assumption))
    | (apply s_load_pts TY; exact rfl; exact rfl; exact rfl; (first | assumption | exact rfl); exact rfl)
    | (apply s_len TY; exact rfl; exact rfl; exact rfl)
    | (apply s_not; exact rfl; exact rfl)
    | (apply s_lss; exact rfl; exact rfl; exact rfl)
    | (apply s_fld_bx TY; exact rfl; exact rfl; exact rfl)
    | (apply s_load_bx_f TY; exact rfl; exact rfl; exact rfl; exact rfl; exact rfl)
    | (apply s_pickF; exact rfl; exact rfl; (first | exact rfl | assumption); exact rfl)
    | apply w_seq
    | apply w_region
    | apply s_nil
    | apply t_norm
    | apply t_ret
    | apply k_ret
    | apply w_block
    | apply w_ret
    | apply w_skip
    | (apply s_call (Within_s _ _ _); exact rfl; exact rfl; exact rfl; exact rfl)
    | (apply g_not; exact rfl; (first | exact rfl | assumption); exact rfl; exact rfl)
    | (apply g_fld_bx TY; exact rfl; (first | exact rfl | assumption); exact rfl; exact rfl; exact rfl)
    | (apply g_load_bx_f TY; exact rfl; (first | exact rfl | assumption); exact rfl; exact rfl; exact rfl; exact rfl; exact rfl)
    | (apply g_call (Within_s _ _ _); exact rfl; (first | exact rfl | assumption); exact rfl; exact rfl; exact rfl; exact rfl)
    | (apply s_idxN TY; exact rfl; exact rfl; exact rfl; exact rfl; assumption; assumption)
    | (apply s_alloc TY; exact rfl; exact rfl; exact rfl)
    | (apply s_store TY; exact rfl; exact rfl; exact rfl; exact rfl; exact rfl; exact rfl)
    | (apply w_condT; exact rfl; (first | exact rfl | assumption)))
          have e := ck_layer (by omega) (by omega) hkc (by unfold layerOk; rw [w1, w2, w3]; rfl) hall
          exact lv_ret (ret2 rfl (res_tmp (av1 e)) (res_tmp (av2 e)))
        | true =>
          have g3 : (!withinB x.layers[k].scatter 0 1000) = false := by rw [w3]; rfl
          repeat (first
    | (apply s_move_f; exact rfl; exact rfl)
    | (apply s_assign_f; exact rfl; exact rfl)
    | (apply s_fld_pt TY; exact rfl; exact rfl; exact rfl)
    | (apply s_load_pt TY; exact rfl; exact rfl; exact rfl; (first | exact rfl | assumption))
    | (apply s_load_pts TY; exact rfl; exact rfl; exact rfl; (first | assumption | exact rfl); exact rfl)
    | (apply s_len TY; exact rfl; exact rfl; exact rfl)
    | (apply s_not; exact rfl; exact rfl)
    | (apply s_lss; exact rfl; exact rfl; exact rfl)
    | (apply s_fld_bx TY; exact rfl; exact rfl; exact rfl)
    | (apply s_load_bx_f TY; exact rfl; exact rfl; exact rfl; exact rfl; exact rfl)
    | (apply s_pickF; exact rfl; exact rfl; (first | exact rfl | assumption); exact rfl)
    | apply w_seq
    | apply w_region
    | apply s_nil
    | apply t_norm
    | apply k_norm
    | apply w_block
    | apply w_skip
    | (apply s_call (Within_s _ _ _); exact rfl; exact rfl; exact rfl; exact rfl)
    | (apply s_add; exact rfl; exact rfl; exact rfl; (omega))
    | (apply g_not; exact rfl; (first | exact rfl | assumption); exact rfl; exact rfl)
    | (apply g_fld_bx TY; exact rfl; (first | exact rfl | assumption); exact rfl; exact rfl; exact rfl)
    | (apply g_load_bx_f TY; exact rfl; (first | exact rfl | assumption); exact rfl; exact rfl; exact rfl; exact rfl; exact rfl)
    | (apply g_call (Within_s _ _ _); exact rfl; (first | exact rfl | assumption); exact rfl; exact rfl; exact rfl; exact rfl)
    | (apply s_idxN TY; exact rfl; exact rfl; exact rfl; exact rfl; assumption; assumption)
    | (apply s_alloc TY; exact rfl; exact rfl; exact rfl)
    | (apply s_store TY; exact rfl; exact rfl; exact rfl; exact rfl; exact rfl; exact rfl)
    | (apply w_condT; exact rfl; (first | exact rfl | assumption))
    | (apply w_condF; exact rfl; (first | exact rfl | assumption)))
          refine ⟨k + 1, ⟨by omega, fun j h hj => ?_⟩, by omega, gh_le ⟨le_upd rfl trivial (le_upd rfl trivial (le_upd rfl trivial (le_upd rfl trivial (le_nil _)))), le_h0 _ _⟩⟩
          by_cases hjk : j < k
          · exact hall j h hjk
          · have : j = k := by omega
            subst this
            unfold layerOk; rw [w1, w2, w3]; rfl
  have hcc : decide ((k : Int) < (x.layers.length : Int)) = false := by simpa using hkc
  have L : LayOk x := ⟨by omega, by omega, fun j h => hall j h (by omega)⟩
  cases wr : withinB x.rows 1 12 with
  | false =>
    have gr : (!withinB x.rows 1 12) = true := by rw [wr]; rfl
    repeat (first
    | (apply s_move_f; exact rfl; exact rfl)
    | (apply s_assign_f; exact rfl; exact rfl)
    | (apply s_fld_pt TY; exact rfl; exact rfl; exact rfl)
    | (apply s_load_pt TY; exact rfl; exact rfl; exact rfl; (first | exact rfl | assumption))
    | (apply s_len TY; exact rfl; exact rfl; exact rfl)
    | (apply s_not; exact rfl; exact rfl)
    | (apply s_lss; exact rfl; exact rfl; exact rfl)
    | apply w_seq
    | apply w_region
    | apply s_nil
    | apply t_norm
    | apply t_exit
    | apply t_ret
    | apply k_hit
    | apply w_exit
    | apply w_ret
    | (apply s_call (Within_s _ _ _); exact rfl; exact rfl; exact rfl; exact rfl)
    | (apply w_condT; exact rfl; (first | exact rfl | assumption))
    | (apply w_condF; exact rfl; (first | exact rfl | assumption)))
    have e := ck_rows L wr
    exact lv_ret (ret2 rfl (res_tmp (av1 e)) (res_tmp (av2 e)))
  | true =>
  have gr : (!withinB x.rows 1 12) = false := by rw [wr]; rfl
  by_cases t0 : x.tilt.length = 0
  · have ht : decide ((x.tilt.length : Int) = 0) = true := by simpa using t0
    repeat (first
    | (apply s_move_f; exact rfl; exact rfl)
    | (apply s_assign_f; exact rfl; exact rfl)
    | (apply s_fld_pt TY; exact rfl; exact rfl; exact rfl)
    | (apply s_load_pt TY; exact rfl; exact rfl; exact rfl; (first | exact rfl | assumption))
    | (apply s_len TY; exact rfl; exact rfl; exact rfl)
    | (apply s_not; exact rfl; exact rfl)
    | (apply s_lss; exact rfl; exact rfl; exact rfl)
    | (apply s_eql; exact rfl; exact rfl; exact rfl)
    | apply w_seq
    | apply w_region
    | apply s_nil
    | apply t_norm
    | apply t_exit
    | apply t_ret
    | apply k_hit
    | apply w_exit
    | apply w_ret
    | apply w_skip
    | (apply s_call (Within_s _ _ _); exact rfl; exact rfl; exact rfl; exact rfl)
    | (apply w_condT; exact rfl; (first | exact rfl | assumption))
    | (apply w_condF; exact rfl; (first | exact rfl | assumption)))
    have e := ck_tilt0 L wr t0
    exact lv_ret (ret2 rfl (res_tmp (av1 e)) (res_tmp (av2 e)))
  have ht : decide ((x.tilt.length : Int) = 0) = false := by simpa using t0
  by_cases t8 : 8 < x.tilt.length
  · have hu : decide ((8 : Int) < x.tilt.length) = true := decide_eq_true (by omega)
    repeat (first
    | (apply s_move_f; exact rfl; exact rfl)
    | (apply s_assign_f; exact rfl; exact rfl)
    | (apply s_fld_pt TY; exact rfl; exact rfl; exact rfl)
    | (apply s_load_pt TY; exact rfl; exact rfl; exact rfl; (first | exact rfl | assumption))
    | (apply s_len TY; exact rfl; exact rfl; exact rfl)
    | (apply s_not; exact rfl; exact rfl)
    | (apply s_lss; exact rfl; exact rfl; exact rfl)
    | (apply s_gtr; exact rfl; exact rfl; exact rfl)
    | (apply s_eql; exact rfl; exact rfl; exact rfl)
    | apply w_seq
    | apply w_region
    | apply s_nil
    | apply t_norm
    | apply t_exit
    | apply t_ret
    | apply k_hit
    | apply w_exit
    | apply w_ret
    | apply w_skip
    | (apply s_call (Within_s _ _ _); exact rfl; exact rfl; exact rfl; exact rfl)
    | (apply w_condT; exact rfl; (first | exact rfl | assumption))
    | (apply w_condF; exact rfl; (first | exact rfl | assumption)))
    have e := ck_tilt8 L wr t8
    exact lv_ret (ret2 rfl (res_tmp (av1 e)) (res_tmp (av2 e)))
  have hu : decide ((8 : Int) < x.tilt.length) = false := decide_eq_false (by omega)
  repeat (first
    | (apply s_move_f; exact rfl; exact rfl)
    | (apply s_assign_f; exact rfl; exact rfl)
    | (apply s_fld_pt TY; exact rfl; exact rfl; exact rfl)
    | (apply s_load_pt TY; exact rfl; exact rfl; exact rfl; (first | exact rfl | assumption))
    | (apply s_len TY; exact rfl; exact rfl; exact rfl)
    | (apply s_not; exact rfl; exact rfl)
    | (apply s_lss; exact rfl; exact rfl; exact rfl)
    | (apply s_gtr; exact rfl; exact rfl; exact rfl)
    | (apply s_eql; exact rfl; exact rfl; exact rfl)
    | apply w_seq
    | apply w_region
    | apply s_nil
    | apply t_norm
    | apply t_exit
    | apply k_hit
    | apply w_block
    | apply w_exit
    | apply w_skip
    | (apply s_call (Within_s _ _ _); exact rfl; exact rfl; exact rfl; exact rfl)
    | (apply w_condF; exact rfl; (first | exact rfl | assumption)))
  clear hk hall hkc hcc
  apply w_loop (fun k : Nat => ⟨(Ab.upd (Ab.upd (Ab.upd (Ab.upd (fun _ => .bot) 1 (.f (.pt (gridL x) 0))) 2 (.f (iv 0))) 3 (.f (iv 0))) 6 (.f (iv (k : Nat)))), (fun _ => none), 0⟩) (fun k => k ≤ x.tilt.length ∧ ∀ j, (h : j < x.tilt.length) → j < k → withinB x.tilt[j] (-12) 12 = true) (fun k => x.tilt.length - k) 0 ⟨Nat.zero_le _, fun j _ h => absurd h (Nat.not_lt_zero j)⟩ (gh_le ⟨le_upd rfl trivial (le_upd rfl trivial (le_upd rfl trivial (le_upd rfl trivial (le_nil _)))), le_h0 _ _⟩)
  intro k ⟨hk, hall⟩
  by_cases hkc : k < x.tilt.length
  · have hcc : decide ((k : Int) < (x.tilt.length : Int)) = true := by simpa using hkc
    have hat : (intsF x.tilt)[k * 1]? = some (iv x.tilt[k]) := map_at hkc
    have hne : intsF x.tilt ≠ [] := map_ne hkc
    cases w1 : withinB x.tilt[k] (-12) 12 with
    | false =>
      have g1 : (!withinB x.tilt[k] (-12) 12) = true := by rw [w1]; rfl
      repeat (first
    | (apply s_move_f; exact rfl; exact rfl)
    | (apply s_assign_f; exact rfl; exact rfl)
    | (apply s_fld_pt TY; exact rfl; exact rfl; exact rfl)
    | (apply s_load_pt TY; exact rfl; exact rfl; exact rfl; (first | exact rfl | assumption))
    | (apply s_len TY; exact rfl; exact rfl; exact rfl)
    | (apply s_not; exact rfl; exact rfl)
    | (apply s_lss; exact rfl; exact rfl; exact rfl)
    | apply w_seq
    | apply w_region
    | apply s_nil
    | apply t_norm
    | apply t_ret
    | apply k_ret
    | apply w_block
    | apply w_ret
    | apply w_skip
    | (apply s_call (Within_s _ _ _); exact rfl; exact rfl; exact rfl; exact rfl)
    | (apply s_idxN TY; exact rfl; exact rfl; exact rfl; exact rfl; assumption; assumption)
    | (apply w_condT; exact rfl; (first | exact rfl | assumption)))
      have e := ck_tilt L wr (by omega) (by omega) hkc w1 hall
      exact lv_ret (ret2 rfl (res_tmp (av1 e)) (res_tmp (av2 e)))
    | true =>
      have g1 : (!withinB x.tilt[k] (-12) 12) = false := by rw [w1]; rfl
      repeat (first
    | (apply s_move_f; exact rfl; exact rfl)
    | (apply s_assign_f; exact rfl; exact rfl)
    | (apply s_fld_pt TY; exact rfl; exact rfl; exact rfl)
    | (apply s_load_pt TY; exact rfl; exact rfl; exact rfl; (first | exact rfl | assumption))
    | (apply s_len TY; exact rfl; exact rfl; exact rfl)
    | (apply s_not; exact rfl; exact rfl)
    | (apply s_lss; exact rfl; exact rfl; exact rfl)
    | apply w_seq
    | apply w_region
    | apply s_nil
    | apply t_norm
    | apply k_norm
    | apply w_block
    | apply w_skip
    | (apply s_call (Within_s _ _ _); exact rfl; exact rfl; exact rfl; exact rfl)
    | (apply s_add; exact rfl; exact rfl; exact rfl; (omega))
    | (apply s_idxN TY; exact rfl; exact rfl; exact rfl; exact rfl; assumption; assumption)
    | (apply w_condT; exact rfl; (first | exact rfl | assumption))
    | (apply w_condF; exact rfl; (first | exact rfl | assumption)))
      refine ⟨k + 1, ⟨by omega, fun j h hj => ?_⟩, by omega, gh_le ⟨le_upd rfl trivial (le_upd rfl trivial (le_upd rfl trivial (le_upd rfl trivial (le_nil _)))), le_h0 _ _⟩⟩
      by_cases hjk : j < k
      · exact hall j h hjk
      · have : j = k := by omega
        subst this
        exact w1
  have hcc : decide ((k : Int) < (x.tilt.length : Int)) = false := by simpa using hkc
  repeat (first
    | (apply s_move_f; exact rfl; exact rfl)
    | (apply s_assign_f; exact rfl; exact rfl)
    | (apply s_fld_pt TY; exact rfl; exact rfl; exact rfl)
    | (apply s_load_pt TY; exact rfl; exact rfl; exact rfl; (first | exact rfl | assumption))
    | (apply s_len TY; exact rfl; exact rfl; exact rfl)
    | (apply s_lss; exact rfl; exact rfl; exact rfl)
    | apply w_seq
    | apply w_region
    | apply s_nil
    | apply t_norm
    | apply t_exit
    | apply k_hit
    | apply w_exit
    | apply w_ret
    | (apply w_condF; exact rfl; (first | exact rfl | assumption)))
  have e := ck_ok L wr (by omega) (by omega) (fun j h => hall j h (by omega))
  exact lv_ret (ret2 rfl (res_tmp (av1 e)) (res_tmp (av2 e)))
end Go.Proofs.YtienhiloecfgnaaDoor
namespace Go.Ab
open Go Go.RowKit Go.Shelf Go.Proofs
def Opens (P : Program) (w : World) (T : TypeId) {α : Type} (f : α → List FV) : Prop :=
  ∀ (H : Type) (enc : TypeId × Value → H) (base : Nat) (sp : Nat → Bool) (hd : Bool) (fuel : Nat) (cs : List Value) (x : DataW H × List MemPlace), DataW.trod enc P w base sp hd fuel T cs = some x → ∃ a : α, RepL w (fun _ => False) cs (f a) ∧ ∀ u ∈ cs, u.oneCell' = true
section
variable {P : Program} {w : World}
theorem repL_one {M : Nat → Prop} {u : Value} {x : FV} (h : RepF w M u x) : RepL w M [u] [x] := RepL.cons h (RepL.nil _ _)
theorem opens_int {T : TypeId} {k : IntKind} (ht : P.underlying T = some (.int k)) : Opens P w T (fun z : Int => [.v (.int k z)]) := fun H enc base sp hd fuel cs x h => by
  obtain ⟨n, rfl, _, _⟩ := DataW.trod_int ht h
  exact ⟨n, repL_one (RepF.v _), by simp [Value.oneCell']⟩
theorem Opens.map {T : TypeId} {α β : Type} {f : α → List FV} {g : β → List FV} (h : Opens P w T f) (k : α → β) (e : ∀ a, f a = g (k a)) : Opens P w T g := fun H enc base sp hd fuel cs x hx => by
  obtain ⟨a, h1, h2⟩ := h H enc base sp hd fuel cs x hx
  exact ⟨k a, e a ▸ h1, h2⟩
theorem exists_fun {α : Type} (p : Nat → α → Prop) : ∀ n, (∀ i, i < n → ∃ a, p i a) → ∃ l : List α, l.length = n ∧ ∀ i (h : i < l.length), p i l[i]
  | 0, _ => ⟨[], rfl, fun i h => absurd h (Nat.not_lt_zero i)⟩
  | n + 1, h => by
    obtain ⟨l, h1, h2⟩ := exists_fun p n (fun i hi => h i (by omega))
    obtain ⟨a, ha⟩ := h n (by omega)
    refine ⟨l ++ [a], by simp [h1], fun i hi => ?_⟩
    by_cases e : i < l.length
    · rw [List.getElem_append_left e]; exact h2 i e
    · have e2 : i = l.length := by simp at hi; omega
      subst e2
      rw [List.getElem_append_right (Nat.le_refl _)]
      simp only [Nat.sub_self, List.getElem_cons_zero]
      rw [h1]; exact ha
theorem RepL.flat {M : Nat → Prop} {α : Type} {f : α → List FV} : ∀ {css : List (List Value)} {l : List α}, css.length = l.length → (∀ i (h : i < css.length) (h' : i < l.length), RepL w M css[i] (f l[i])) → RepL w M css.flatten (l.flatMap f)
  | [], [], _, _ => RepL.nil _ _
  | c :: css, a :: l, hl, h => by
    rw [List.flatten_cons, List.flatMap_cons]
    exact RepL.append (h 0 (by simp) (by simp)) (RepL.flat (by simpa using hl) fun i h1 h2 => h (i + 1) (by simpa using h1) (by simpa using h2))
  | [], _ :: _, hl, _ => by simp at hl
  | _ :: _, [], hl, _ => by simp at hl
theorem flatten_at {α : Type} {s : Nat} : ∀ {css : List (List α)} (_hs : ∀ c ∈ css, c.length = s) {i j : Nat} (hi : i < css.length) (_hj : j < s), css.flatten[i * s + j]? = css[i][j]?
  | c :: css, hs, 0, j, _, hj => by
    rw [List.flatten_cons, Nat.zero_mul, Nat.zero_add, List.getElem?_append_left (by rw [hs c (by simp)]; exact hj)]; rfl
  | c :: css, hs, i + 1, j, hi, hj => by
    have hc := hs c (by simp)
    rw [List.flatten_cons, List.getElem?_append_right (by rw [hc, Nat.succ_mul]; omega), hc, show (i + 1) * s + j - s = i * s + j by rw [Nat.succ_mul]; omega]
    exact flatten_at (fun c h => hs c (by simp [h])) (by simpa using hi) hj
theorem flatten_len {α : Type} {s : Nat} : ∀ {css : List (List α)} (_ : ∀ c ∈ css, c.length = s), css.flatten.length = css.length * s
  | [], _ => by simp
  | c :: css, hs => by rw [List.flatten_cons, List.length_append, hs c (by simp), flatten_len (fun c h => hs c (by simp [h])), List.length_cons, Nat.succ_mul]; omega
theorem opens_sl {T E s : TypeId} {α : Type} {f : α → List FV} (ht : P.underlying T = some (.slice E)) (hc : P.cellsOf E = s) (h0 : 0 < s) (h : Opens P w E f) : Opens P w T (fun l : List α => [.sl l.length (l.flatMap f)]) := fun H enc base sp hd fuel cs x hx => by
  rcases Go.Deep.open_slice ht hx with ⟨rfl, _⟩ | ⟨a, len, cap, m, n, D, Pl, rfl, hb, hl, hm, hmm, _, hel⟩
  · refine ⟨[], repL_one ?_, by simp [Value.oneCell']⟩
    exact RepF.sl none 0 0 [] [] (Nat.le_refl _) rfl (fun u hu => by simp at hu) (fun hn => absurd rfl hn) (fun k u x h => by simp at h)
  · have hlm : len ≤ m := by rw [hmm]; split <;> omega
    rw [hc] at hel
    obtain ⟨css, hcl, hcs⟩ := exists_fun (fun i (c : List Value) => w.cells? base (a.add (i * s)) s = some c ∧ ∃ a : α, RepL w (fun _ => False) c (f a) ∧ ∀ u ∈ c, u.oneCell' = true) len (fun i hi => by
      obtain ⟨c, h1, h2⟩ := hel i (by omega)
      exact ⟨c, h1, h H enc base sp hd n c _ h2⟩)
    obtain ⟨l, hll, hl2⟩ := exists_fun (fun i (b : α) => ∀ (hi : i < css.length), RepL w (fun _ => False) css[i] (f b)) len (fun i hi => by
      obtain ⟨b, h1, _⟩ := (hcs i (by omega)).2
      exact ⟨b, fun _ => h1⟩)
    have hsz : ∀ c ∈ css, c.length = s := fun c hcm => by
      obtain ⟨i, hi, rfl⟩ := List.getElem_of_mem hcm
      exact (World.cells?_some (hcs i hi).1).2.1
    have R : RepL w (fun _ => False) css.flatten (l.flatMap f) := RepL.flat (by omega) fun i h1 h2 => hl2 i h2 h1
    refine ⟨l, repL_one ?_, by simp [Value.oneCell']⟩
    have key : RepF w (fun _ => False) (.slice (some a) len cap) (.sl len (l.flatMap f)) := by
      refine RepF.sl (some a) len cap _ css.flatten hl R.1 (fun u hu => ?_) (fun hn => ?_) R.2
      · obtain ⟨c, hcm, huc⟩ := List.mem_flatten.1 hu
        obtain ⟨i, hi, rfl⟩ := List.getElem_of_mem hcm
        obtain ⟨_, _, h2⟩ := (hcs i hi).2
        exact h2 u huc
      · have hlen0 : 0 < css.length := by
          cases css with
          | nil => exact absurd rfl hn
          | cons c r => simp
        obtain ⟨b, off, spot⟩ := a
        have h00 := (World.cells?_some (hcs 0 hlen0).1).2.2 0 h0
        have hsp : spot = none := by
          rw [List.getElem?_eq_getElem (by rw [hsz _ (List.getElem_mem hlen0)]; exact h0)] at h00
          simp only [Nat.zero_mul, Addr.add, if_true] at h00
          unfold World.cell? at h00
          cases spot with
          | none => rfl
          | some q => split at h00 <;> simp at h00
        subst hsp
        refine ⟨b, off, rfl, ?_, fun h => h, fun k hk => ?_⟩
        · rw [List.getElem?_eq_getElem (by rw [hsz _ (List.getElem_mem hlen0)]; exact h0)] at h00
          simp only [Nat.zero_mul, Addr.add, if_true] at h00
          unfold World.cell? at h00
          by_cases hbl : b < w.heap.size
          · exact hbl
          · have hnone : w.heap[b]? = none := Array.getElem?_eq_none (Nat.le_of_not_lt hbl)
            simp [hnone] at h00
        · rw [flatten_len hsz] at hk
          have hi : k / s < css.length := Nat.div_lt_of_lt_mul (by rw [Nat.mul_comm]; exact hk)
          have hj : k % s < s := Nat.mod_lt _ h0
          have e : k / s * s + k % s = k := by rw [Nat.mul_comm]; exact Nat.div_add_mod k s
          have h1 := (World.cells?_some (hcs (k / s) hi).1).2.2 (k % s) hj
          have h2 := flatten_at hsz hi hj
          rw [e] at h2
          rw [Go.Deep.add_add, e, addr_add] at h1
          rw [h1, h2]
    rw [hll]; exact key
theorem drop_take_split {α : Type} (l : List α) (a b : Nat) (h : l.length = a + b) : l = (l.drop 0).take a ++ (l.drop a).take b := by
  rw [List.drop_zero, List.take_of_length_le (l := l.drop a) (by simp; omega), List.take_append_drop]
theorem opens_st2 {T : TypeId} {f0 f1 : Field} {s0 s1 : Nat} {α β : Type} {f : α → List FV} {g : β → List FV} (ht : P.underlying T = some (.struct #[f0, f1])) (ct : P.cellsOf T = s0 + s1) (c0 : P.cellsOf f0.type = s0) (c1 : P.cellsOf f1.type = s1) (o0 : f0.offset = 0) (o1 : f1.offset = s0)
    (h0 : Opens P w f0.type f) (h1 : Opens P w f1.type g) : Opens P w T (fun p : α × β => f p.1 ++ g p.2) := fun H enc base sp hd fuel cs x hx => by
  obtain ⟨xs, n, _, _, hlen, hxl, hf⟩ := DataW.trod_struct ht hx
  have e0 := hf 0 f0 rfl
  have e1 := hf 1 f1 rfl
  rw [o0, c0, List.getElem?_eq_getElem (by rw [hxl]; simp)] at e0
  rw [o1, c1, List.getElem?_eq_getElem (by rw [hxl]; simp)] at e1
  obtain ⟨a, r0, q0⟩ := h0 H enc base sp hd n _ _ e0
  obtain ⟨b, r1, q1⟩ := h1 H enc base sp hd n _ _ e1
  have hs := drop_take_split cs s0 s1 (by rw [hlen, ct])
  refine ⟨(a, b), ?_, fun u hu => ?_⟩
  · rw [hs]; exact RepL.append r0 r1
  · rw [hs] at hu
    rcases List.mem_append.1 hu with h | h
    · exact q0 u h
    · exact q1 u h
theorem opens_st3 {T : TypeId} {f0 f1 f2 : Field} {s0 s1 s2 : Nat} {α β γ : Type} {f : α → List FV} {g : β → List FV} {k : γ → List FV} (ht : P.underlying T = some (.struct #[f0, f1, f2])) (ct : P.cellsOf T = s0 + s1 + s2) (c0 : P.cellsOf f0.type = s0) (c1 : P.cellsOf f1.type = s1) (c2 : P.cellsOf f2.type = s2) (o0 : f0.offset = 0) (o1 : f1.offset = s0) (o2 : f2.offset = s0 + s1)
    (h0 : Opens P w f0.type f) (h1 : Opens P w f1.type g) (h2 : Opens P w f2.type k) : Opens P w T (fun p : α × β × γ => f p.1 ++ g p.2.1 ++ k p.2.2) := fun H enc base sp hd fuel cs x hx => by
  obtain ⟨xs, n, _, _, hlen, hxl, hf⟩ := DataW.trod_struct ht hx
  have e0 := hf 0 f0 rfl
  have e1 := hf 1 f1 rfl
  have e2 := hf 2 f2 rfl
  rw [o0, c0, List.getElem?_eq_getElem (by rw [hxl]; simp)] at e0
  rw [o1, c1, List.getElem?_eq_getElem (by rw [hxl]; simp)] at e1
  rw [o2, c2, List.getElem?_eq_getElem (by rw [hxl]; simp)] at e2
  obtain ⟨a, r0, q0⟩ := h0 H enc base sp hd n _ _ e0
  obtain ⟨b, r1, q1⟩ := h1 H enc base sp hd n _ _ e1
  obtain ⟨c, r2, q2⟩ := h2 H enc base sp hd n _ _ e2
  have hs : cs = (cs.drop 0).take s0 ++ (cs.drop s0).take s1 ++ (cs.drop (s0 + s1)).take s2 := by
    rw [List.drop_zero, List.take_of_length_le (l := cs.drop (s0 + s1)) (by simp [hlen, ct]), List.append_assoc, ← List.drop_drop, List.take_append_drop, List.take_append_drop]
  refine ⟨(a, b, c), ?_, fun u hu => ?_⟩
  · rw [hs]; exact RepL.append (RepL.append r0 r1) r2
  · rw [hs] at hu
    rcases List.mem_append.1 hu with h | h
    · rcases List.mem_append.1 h with h | h
      · exact q0 u h
      · exact q1 u h
    · exact q2 u h
theorem opens_st4 {T : TypeId} {f0 f1 f2 f3 : Field} {s0 s1 s2 s3 : Nat} {α β γ δ : Type} {f : α → List FV} {g : β → List FV} {k : γ → List FV} {m : δ → List FV} (ht : P.underlying T = some (.struct #[f0, f1, f2, f3])) (ct : P.cellsOf T = s0 + s1 + s2 + s3) (c0 : P.cellsOf f0.type = s0) (c1 : P.cellsOf f1.type = s1) (c2 : P.cellsOf f2.type = s2) (c3 : P.cellsOf f3.type = s3) (o0 : f0.offset = 0) (o1 : f1.offset = s0) (o2 : f2.offset = s0 + s1) (o3 : f3.offset = s0 + s1 + s2)
    (h0 : Opens P w f0.type f) (h1 : Opens P w f1.type g) (h2 : Opens P w f2.type k) (h3 : Opens P w f3.type m) : Opens P w T (fun p : α × β × γ × δ => f p.1 ++ g p.2.1 ++ k p.2.2.1 ++ m p.2.2.2) := fun H enc base sp hd fuel cs x hx => by
  obtain ⟨xs, n, _, _, hlen, hxl, hf⟩ := DataW.trod_struct ht hx
  have e0 := hf 0 f0 rfl
  have e1 := hf 1 f1 rfl
  have e2 := hf 2 f2 rfl
  have e3 := hf 3 f3 rfl
  rw [o0, c0, List.getElem?_eq_getElem (by rw [hxl]; simp)] at e0
  rw [o1, c1, List.getElem?_eq_getElem (by rw [hxl]; simp)] at e1
  rw [o2, c2, List.getElem?_eq_getElem (by rw [hxl]; simp)] at e2
  rw [o3, c3, List.getElem?_eq_getElem (by rw [hxl]; simp)] at e3
  obtain ⟨a, r0, q0⟩ := h0 H enc base sp hd n _ _ e0
  obtain ⟨b, r1, q1⟩ := h1 H enc base sp hd n _ _ e1
  obtain ⟨c, r2, q2⟩ := h2 H enc base sp hd n _ _ e2
  obtain ⟨d, r3, q3⟩ := h3 H enc base sp hd n _ _ e3
  have hs : cs = (cs.drop 0).take s0 ++ (cs.drop s0).take s1 ++ (cs.drop (s0 + s1)).take s2 ++ (cs.drop (s0 + s1 + s2)).take s3 := by
    rw [List.drop_zero, List.take_of_length_le (l := cs.drop (s0 + s1 + s2)) (by simp [hlen, ct]), List.append_assoc, List.append_assoc, ← List.drop_drop (i := s2), List.take_append_drop, ← List.drop_drop (i := s1), List.take_append_drop, List.take_append_drop]
  refine ⟨(a, b, c, d), ?_, fun u hu => ?_⟩
  · rw [hs]; exact RepL.append (RepL.append (RepL.append r0 r1) r2) r3
  · rw [hs] at hu
    rcases List.mem_append.1 hu with h | h
    · rcases List.mem_append.1 h with h | h
      · rcases List.mem_append.1 h with h | h
        · exact q0 u h
        · exact q1 u h
      · exact q2 u h
    · exact q3 u h
theorem arg_one {H : Type} {enc : TypeId × Value → H} {base : Nat} {sp : Nat → Bool} {hd : Bool} {T : TypeId} {α : Type} {g : α → FV} {v : Value} {d : DataW H} {ps : List MemPlace} (h : Opens P w T (fun a => [g a])) (hv : v.cells.toList = [v]) (ht : DataW.Trod enc P w base sp hd T v d ps) : ∃ a, RepF w (fun _ => False) v (g a) := by
  obtain ⟨fuel, hf⟩ := ht
  rw [hv] at hf
  obtain ⟨a, R, _⟩ := h H enc base sp hd fuel _ _ hf
  obtain ⟨u, us, e, r, _⟩ := R.head
  cases e
  exact ⟨a, r⟩
theorem arg_agg {H : Type} {enc : TypeId × Value → H} {base : Nat} {sp : Nat → Bool} {hd : Bool} {T : TypeId} {α : Type} {f : α → List FV} {v : Value} {d : DataW H} {ps : List MemPlace} (h : Opens P w T f) {cs : Array Value} (hv : v = .agg cs) (ht : DataW.Trod enc P w base sp hd T v d ps) : ∃ a, RepF w (fun _ => False) v (.agg (f a)) := by
  subst hv
  obtain ⟨fuel, hf⟩ := ht
  obtain ⟨a, R, one⟩ := h H enc base sp hd fuel _ _ hf
  exact ⟨a, by
    have := RepF.agg (w := w) (M := fun _ => False) (f a) cs.toList R.1 one R.2
    simpa using this⟩
end
end Go.Ab
namespace Go.Proofs.YtienhiloecfgnaaDoor
open Go Go.Ab Go.ChangeShapes Go.WideShapes Go.ChangeAt Go.RowKit
theorem ownKnobT : ownKnob Tryd.prog.godebug = none := by kernel_rfl
theorem laidOutT : laidOutB Tryd.prog = true := by kernel_rfl
theorem gSides : Tryd.prog.globalNamed "cherenkov/ice.sides" = some 0 := by kernel_rfl
theorem tSides : (Tryd.prog.globals[0]?).map (·.type) = some 181 := by kernel_rfl
def laidL : List (String × DataW Unit) := [("cherenkov/ice.sides", Rows.laid_cherenkov_ice_sides)]
theorem door_met (os : Os) (args : Array Value) : laidMetH Tryd.prog laidL ((World.doorLaid Tryd.prog 400 os).forCall (fun _ _ => 0) ⟨#[], args, []⟩).memory :=
  laidMetH_of_parts3 (fuel := 8) (laidMet_of_run' 8 (by kernel_rfl) (by kernel_rfl)) (by kernel_rfl) (by kernel_rfl)
set_option maxRecDepth 100000 in
theorem cell_read {W : World} {m : Nat} {sp : Nat → Bool} {l : List Value} {a b : Int} {p : List MemPlace} (h : DataW.trod (fun _ => ()) Tryd.prog W 0 sp false m 27 l = some (.agg [.lit (.int .i64 a), .lit (.int .i64 b)], p)) : l = [.int .i64 a, .int .i64 b] := by
  obtain ⟨xs, n, _, hx, hlen, hxl, hf⟩ := DataW.trod_struct Tryd.underlying27 h
  have c27 : Tryd.prog.cellsOf 27 = 2 := by kernel_rfl
  have c3 : Tryd.prog.cellsOf 3 = 1 := by kernel_rfl
  rw [c27] at hlen
  simp only [Prod.mk.injEq, DataW.agg.injEq] at hx
  obtain ⟨v0, v1, rfl⟩ : ∃ v0 v1, l = [v0, v1] := by
    match l, hlen with
    | [a, b], _ => exact ⟨a, b, rfl⟩
  obtain ⟨x0, x1, rfl⟩ : ∃ x0 x1, xs = [x0, x1] := by
    match xs, hxl with
    | [a, b], _ => exact ⟨a, b, rfl⟩
  have e0 : DataW.trod (fun _ => ()) Tryd.prog W 0 sp false n 3 (([v0, v1].drop 0).take (Tryd.prog.cellsOf 3)) = [x0, x1][0]? := hf 0 _ rfl
  have e1 : DataW.trod (fun _ => ()) Tryd.prog W 0 sp false n 3 (([v0, v1].drop 1).take (Tryd.prog.cellsOf 3)) = [x0, x1][1]? := hf 1 _ rfl
  rw [c3] at e0 e1
  simp only [List.map_cons, List.map_nil, List.cons.injEq, and_true] at hx
  obtain ⟨k, q1, q2, _⟩ := DataW.trod_int Tryd.underlying3 (show DataW.trod _ Tryd.prog W 0 _ false n 3 [v0] = some x0 from e0)
  obtain ⟨j, r1, r2, _⟩ := DataW.trod_int Tryd.underlying3 (show DataW.trod _ Tryd.prog W 0 _ false n 3 [v1] = some x1 from e1)
  rw [q2, r2] at hx
  simp at hx q1 r1
  rw [q1, r1, hx.1.1, hx.1.2]
theorem sides_of_laid {W : World} (h : laidMetH Tryd.prog laidL W) : ∀ g cs, GG g = some cs → RepF W (fun _ => False) (.pointer (some ⟨g, 0, none⟩)) (.pt cs 0) := by
  rw [MakeChecks.laidMetH_plain _ _ _ (by kernel_rfl)] at h
  obtain ⟨ps, ⟨g0, t0, cs0, f0, p0, q0, hg0, ht0, hv0, hd0, _, _⟩, _, _⟩ := h
  obtain rfl := Option.some.inj (gSides.symm.trans hg0)
  obtain rfl := Option.some.inj (tSides.symm.trans ht0)
  obtain ⟨xs, m1, rfl, hx1, hlen, hn4, hel⟩ := DataW.trod_array Tryd.underlying181 hd0
  have c27 : Tryd.prog.cellsOf 27 = 2 := by kernel_rfl
  have c181 : Tryd.prog.cellsOf 181 = 8 := by kernel_rfl
  rw [c181] at hlen
  rw [c27] at hel
  simp only [Rows.laid_cherenkov_ice_sides, Prod.mk.injEq, DataW.agg.injEq] at hx1
  have hcells : cs0.toList = [.int .i64 (-1), .int .i64 0, .int .i64 0, .int .i64 (-1), .int .i64 0, .int .i64 1, .int .i64 1, .int .i64 0] := by
    match xs, hn4, hx1, hel with
    | [x0, x1, x2, x3], _, hx1, hel =>
      have h0 := hel 0 (by decide)
      have h1 := hel 1 (by decide)
      have h2 := hel 2 (by decide)
      have h3 := hel 3 (by decide)
      simp only [List.map_cons, List.map_nil, List.cons.injEq, and_true] at hx1
      obtain ⟨⟨e0, e1, e2, e3⟩, _⟩ := hx1
      obtain ⟨d0, r0⟩ := x0; obtain ⟨d1, r1⟩ := x1; obtain ⟨d2, r2⟩ := x2; obtain ⟨d3, r3⟩ := x3
      simp only at e0 e1 e2 e3
      subst e0; subst e1; subst e2; subst e3
      have k0 := cell_read h0
      have k1 := cell_read h1
      have k2 := cell_read h2
      have k3 := cell_read h3
      match cs0.toList, hlen, k0, k1, k2, k3 with
      | [a, b, c, d, e, f, g, i], _, k0, k1, k2, k3 =>
        simp at k0 k1 k2 k3
        simp [k0, k1, k2, k3]
  intro g cs hg
  have h0 : g = 0 ∧ cs = sidesF := by
    unfold GG at hg
    cases hb : Nat.beq g 0 with
    | true => rw [hb] at hg; exact ⟨Nat.eq_of_beq_eq_true hb, (Option.some.inj hg).symm⟩
    | false => rw [hb] at hg; cases hg
  obtain ⟨rfl, rfl⟩ := h0
  have hc : ∀ k, W.cell? ⟨0, k, none⟩ = cs0.toList[k]? := fun k => by rw [World.var?_cell hg0 hv0 k]; simp
  have R := repL_det (w := W) (M := fun _ => False) (cs := sidesF) rfl
  refine RepF.pt 0 0 0 sidesF _ R.1 (by simp [Value.oneCell']) ⟨?_, fun h => h, fun k _ => ?_⟩ R.2
  · have := hc 0
    rw [hcells] at this
    unfold World.cell? at this
    by_cases hb : 0 < W.heap.size
    · exact hb
    · have hn : W.heap[0]? = none := Array.getElem?_eq_none (Nat.le_of_not_lt hb)
      simp [hn] at this
  · rw [Nat.zero_add, hc k, hcells]
theorem trodAll_stays {H : Type} {enc : TypeId × Value → H} {W W' : World} {sp : Nat → Bool} (hb : Below W.heap.size W W') : ∀ {ts : List TypeId} {vs : List Value} {ds : List (DataW H)} {ps : List MemPlace}, (∀ t ∈ ts, Tryd.prog.readableRec t = true ∧ t < Tryd.prog.types.size) → DataW.TrodAll enc Tryd.prog W 0 (fun _ => true) true ts vs ds ps → (∀ p ∈ ps, p.block < W.heap.size) → (∀ p ∈ ps, sp p.block = true) → DataW.TrodAll enc Tryd.prog W' 0 sp true ts vs ds ps
  | [], [], [], _, _, h, _, _ => h
  | t :: ts, v :: vs, d :: ds, ps, ht, ⟨p, q, h1, h2, e⟩, hlt, hsp => by
    have hp : ∀ x ∈ p, x ∈ ps := fun x hx => by rw [e]; exact List.mem_append_left _ hx
    have hq : ∀ x ∈ q, x ∈ ps := fun x hx => by rw [e]; exact List.mem_append_right _ hx
    exact ⟨p, q, WideElems.Trod_stays laidOutT (ht t (by simp)).1 (ht t (by simp)).2 h1 (fun x hx => hb.same (hlt x (hp x hx))) (fun x hx => hsp x (hp x hx)),
      trodAll_stays hb (fun u hu => ht u (by simp [hu])) h2 (fun x hx => hlt x (hq x hx)) (fun x hx => hsp x (hq x hx)), e⟩
theorem post_law {H : Type} {enc : TypeId × Value → H} {f : Func} {s : ChangeSpec} {W W' : World} {args : Array Value} {ds gs : List (DataW H)} {before : List MemPlace}
    (hW : DataW.Whole enc Tryd.prog f.params.toList s.vars false W args.toList ds gs before) (hv : s.vars = []) (hr : f.resultTypes = #[4])
    (ht : ∀ t ∈ f.params.toList, Tryd.prog.readableRec t = true ∧ t < Tryd.prog.types.size)
    (hres : (s.fn H (ds ++ gs)).results = [.lit (.bool true)]) (hargs : (s.fn H (ds ++ gs)).args = ds) (hvs : (s.fn H (ds ++ gs)).vars = [])
    (hb : Below W.heap.size W W') : s.post enc Tryd.prog f false true false false W args (.bool true) W' := by
  have hlt := hW.lt
  have hW0 := hW
  obtain ⟨p, q, h1, h2, e, hz, hn⟩ := hW
  have h2' := h2
  rw [hv] at h2'
  have hq : gs = [] ∧ q = [] := by
    cases gs with
    | nil => exact ⟨rfl, h2'⟩
    | cons g r => exact absurd h2' (by intro h; cases h)
  obtain ⟨rfl, rfl⟩ := hq
  rw [List.append_nil] at e
  subst e
  refine ⟨ds, [], before, [], before, [], hW0, ?_, ?_, ?_, Below.frame hb _, fun h => by cases h⟩
  · rw [hr, hres]; exact trodAll_mk1 (shut_bool Tryd.underlying4 true)
  · rw [hargs]
    exact trodAll_stays hb ht h1 hlt (fun x hx => by simpa using hlt x hx)
  · rw [hv, hvs]; rfl
end Go.Proofs.YtienhiloecfgnaaDoor
namespace Go.Proofs.YtienhiloecfgnaaDoor
open Go Go.Ab Go.ChangeShapes Go.WideShapes Go.ChangeAt Go.RowKit
theorem sq_map {α : Type} (f : α → FV) : ∀ l : List α, l.flatMap (fun x => [f x]) = l.map f
  | [] => rfl
  | a :: l => by rw [List.flatMap_cons, sq_map f l]; rfl
section
variable {W : World}
theorem opens_i : Opens Tryd.prog W 3 (fun z : Int => [iv z]) := opens_int Tryd.underlying3
theorem opens_ints : Opens Tryd.prog W 23 (fun l : List Int => [.sl l.length (intsF l)]) := (opens_sl (s := 1) Tryd.underlying23 (by kernel_rfl) (by decide) opens_i).map id fun l => by rw [sq_map]; rfl
theorem opens_lay : Opens Tryd.prog W 33 layF := (opens_st3 (s0 := 1) (s1 := 1) (s2 := 1) Tryd.underlying33 (by kernel_rfl) (by kernel_rfl) (by kernel_rfl) (by kernel_rfl) rfl rfl rfl opens_i opens_i opens_i).map (fun p => ⟨p.1, p.2.1, p.2.2⟩) fun _ => rfl
theorem opens_lays : Opens Tryd.prog W 22 (fun l : List Layer => [.sl l.length (laysF l)]) := opens_sl (s := 3) Tryd.underlying22 (by kernel_rfl) (by decide) opens_lay
theorem opens_grid : Opens Tryd.prog W 25 gridL := (opens_st3 (s0 := 1) (s1 := 1) (s2 := 1) Tryd.underlying25 (by kernel_rfl) (by kernel_rfl) (by kernel_rfl) (by kernel_rfl) rfl rfl rfl opens_lays opens_i opens_ints).map (fun p => ⟨p.1, p.2.1, p.2.2⟩) fun _ => rfl
theorem opens_cel : Opens Tryd.prog W 27 celF := (opens_st2 (s0 := 1) (s1 := 1) Tryd.underlying27 (by kernel_rfl) (by kernel_rfl) (by kernel_rfl) rfl rfl opens_i opens_i).map (fun p => ⟨p.1, p.2⟩) fun _ => rfl
theorem opens_rng : Opens Tryd.prog W 101 rngF := (opens_st2 (s0 := 1) (s1 := 1) Tryd.underlying101 (by kernel_rfl) (by kernel_rfl) (by kernel_rfl) rfl rfl opens_i opens_i).map (fun p => ⟨p.1, p.2⟩) fun _ => rfl
theorem opens_rngs : Opens Tryd.prog W 42 (fun l : List Rng => [.sl l.length (rngsF l)]) := opens_sl (s := 2) Tryd.underlying42 (by kernel_rfl) (by decide) opens_rng
theorem opens_class : Opens Tryd.prog W 44 (fun p : Grid × List Rng => classL p.1 p.2) := (opens_st2 (s0 := 3) (s1 := 1) Tryd.underlying44 (by kernel_rfl) (by kernel_rfl) (by kernel_rfl) rfl rfl opens_grid opens_rngs).map (fun p => (p.1, p.2)) fun _ => rfl
end
set_option maxRecDepth 100000 in
theorem arg_st {H : Type} {enc : TypeId × Value → H} {W : World} {base : Nat} {T : TypeId} {fs : Array Field} {α : Type} {f : α → List FV} {v : Value} {d : DataW H} {ps : List MemPlace} (h : Opens Tryd.prog W T f) (ht : Tryd.prog.underlying T = some (.struct fs)) (hv : Value.okWide Tryd.prog W .any base T v) (hd : DataW.Trod enc Tryd.prog W 0 (fun _ => true) true T v d ps) : ∃ a, RepF W (fun _ => False) v (.agg (f a)) := by
  obtain ⟨cs, e, _⟩ := okWide_struct ht hv
  exact arg_agg h e hd
set_option maxRecDepth 100000 in
theorem arg_sl {H : Type} {enc : TypeId × Value → H} {W : World} {base : Nat} {T E : TypeId} {α : Type} {f : α → FV} {v : Value} {d : DataW H} {ps : List MemPlace} (h : Opens Tryd.prog W T (fun a => [f a])) (ht : Tryd.prog.underlying T = some (.slice E)) (hv : Value.okWide Tryd.prog W .any base T v) (hd : DataW.Trod enc Tryd.prog W 0 (fun _ => true) true T v d ps) : ∃ a, RepF W (fun _ => False) v (f a) := by
  obtain ⟨a, n, c, rfl⟩ := okWide_slice ht hv
  exact arg_one h rfl hd
theorem law_calls {f : Nat} {xs : List FV} (S : Summ Tryd.prog GG f xs (.v (.bool true))) {W : World} {args : Array Value} (hL : laidMetH Tryd.prog laidL W) (R : RepL W (fun _ => False) args.toList xs) : Calls Tryd.prog f args W fun e W' => e = .returned (.bool true) ∧ Below W.heap.size W W' := by
  have := S.call W (fun _ => False) args.toList (fun _ h => h.elim) (sides_of_laid hL) R
  simp only [Array.toArray_toList] at this
  refine this.mono fun e w' ⟨v, h1, h2, h3⟩ => ⟨?_, h3⟩
  rw [h1, repV h2]
end Go.Proofs.YtienhiloecfgnaaDoor
