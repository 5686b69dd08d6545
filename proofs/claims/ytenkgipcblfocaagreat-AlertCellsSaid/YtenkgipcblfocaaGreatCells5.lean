/- Laws on which the proofs of this seat stand. No condition. -/
import Derived.Test.YtenkgipcblfocaaGreatCells4
import Derived.DataShut
import Derived.ChangeKeysEq
import Derived.Test.YtenkgipcblfocaaGreatRows
import Derived.WalkKit
import Derived.ProofKit
import Derived.OpenShut
import Derived.Stop.Joined
namespace Go.Proofs.YtenkgipcblfocaaGreat
open Go Go.RowKit Go.Proofs Go.Shelf Go.Ab
def nbK (q : Nat → Bool) : Nat → List Int
  | 0 => []
  | k + 1 => if q k = true then nbK q k ++ [(k : Int)] else nbK q k
theorem nbK_len (q : Nat → Bool) : ∀ k, (nbK q k).length ≤ k
  | 0 => Nat.le_refl _
  | k + 1 => by
    have := nbK_len q k
    rw [nbK]; split
    · rw [List.length_append, List.length_singleton]; omega
    · omega
set_option maxRecDepth 100000 in
theorem NeighboursOf_sky (rs : List Int) (n : Int) (hl : rs.length ≤ 1000000) (h : (skyChk rs).2 ≠ 0) : Summ Tryz.prog GG 74 [skF rs, iv n] (.tup [.v (.slice none 0 0), iv (skyChk rs).2]) := by
  have HO := open_err rs hl h
  have HE := cellErr_s [] n (by simp)
  refine summW Tryz.func74 rfl rfl 39 rfl (by simp) (fun M0 => ?_)
  repeat (first
    | (apply s_a TY; exact rfl)
    | (apply s_f; exact rfl; (first | assumption | omega))
    | apply w_seq
    | apply w_region
    | apply s_nil
    | apply t_norm
    | apply t_ret
    | apply w_ret
    | (apply w_condT; exact rfl; exact rfl)
    | (apply s_k (HO); exact rfl)
    | (apply s_k (HE); exact rfl)
    | (apply s_k1 (first2_0 _ _); exact rfl; (first | assumption | omega | decide)))
  exact lv_ret (ret2 rfl (res_tmp rfl) (res_tmp rfl))
set_option maxRecDepth 100000 in
theorem NeighboursOf_cell (rs : List Int) (o : SkyOk rs) (n : Int) (h : ¬ (0 ≤ n ∧ n ≤ befK rs rs.length - 1)) : Summ Tryz.prog GG 74 [skF rs, iv n] (.tup [.v (.slice none 0 0), iv 6]) := by
  have HO := open_ok rs o
  have hb := skyC_bd o
  have HE := cellErr_s (skyC rs) n (by omega)
  rw [skyC_len o, celE_6 h] at HE
  refine summW Tryz.func74 rfl rfl 39 rfl (by simp) (fun M0 => ?_)
  repeat (first
    | (apply s_a TY; exact rfl)
    | (apply s_f; exact rfl; (first | assumption | omega))
    | apply w_seq
    | apply w_region
    | apply s_nil
    | apply t_norm
    | apply t_ret
    | apply w_ret
    | (apply w_condT; exact rfl; exact rfl)
    | (apply s_k (HO); exact rfl)
    | (apply s_k (HE); exact rfl)
    | (apply s_k1 (first2_1 _ _); exact rfl; (first | assumption | omega | decide)))
  exact lv_ret (ret2 rfl (res_tmp rfl) (res_tmp rfl))
set_option maxRecDepth 100000 in
set_option maxHeartbeats 1600000 in
theorem NeighboursOf_ok (rs : List Int) (o : SkyOk rs) (n : Nat) (hn : (n : Int) < befK rs rs.length) : Summ Tryz.prog GG 74 [skF rs, iv ((n : Nat) : Int)] (.tup [.sl (nbK (fun k => nearR rs n k) (skyC rs).length).length (intsF (nbK (fun k => nearR rs n k) (skyC rs).length)), iv 0]) := by
  have HO := open_ok rs o
  have hb := skyC_bd o
  have hlc := skyC_len o
  have HE := cellErr_s (skyC rs) n (by omega)
  rw [hlc, celE_0 (by omega)] at HE
  have hnl : n < (skyC rs).length := by omega
  refine summW Tryz.func74 rfl rfl 39 rfl (by simp) (fun M0 => ?_)
  repeat (first
    | (apply s_a TY; exact rfl)
    | (apply s_t; exact rfl; (first | assumption | omega))
    | apply w_seq
    | apply w_region
    | apply s_nil
    | apply t_norm
    | apply w_block
    | apply w_skip
    | (apply w_condF; exact rfl; exact rfl)
    | (apply s_k (HO); exact rfl)
    | (apply s_k (HE); exact rfl)
    | (apply s_k1 (first2_1 _ _); exact rfl; (first | assumption | omega | decide)))
  apply w_gh (gh_own 8 3 1 rfl rfl)
  apply w_loop (fun k : Nat => ⟨(Ab.upd (Ab.upd (Ab.upd (Ab.upd (Ab.upd (fun _ => .bot) 1 (.f (iv ((n : Nat) : Int)))) 6 (.f (xF (skyC rs)))) 8 (.ow 0)) 25 (.f (iv (skyC rs).length))) 26 (.f (iv (k : Nat)))), (Ab.upd (fun _ => none) 0 (some (.row 3 1 (nbK (fun k => nearR rs n k) k).length (intsF (nbK (fun k => nearR rs n k) k))))), 1⟩) (fun k => k ≤ (skyC rs).length) (fun k => (skyC rs).length - k) 0 (Nat.zero_le _) (gh_le ⟨le_upd rfl trivial (le_upd rfl trivial (le_upd rfl rfl (le_upd rfl trivial (le_upd rfl trivial (le_nil _))))), le_hupd rfl trivial (le_h0 _ _)⟩)
  intro k hk
  by_cases hc : k < (skyC rs).length
  · have HN := near_s (skyC rs) (skyC_cels o) n k hnl hc
    rw [near_eq o hnl hc] at HN
    have hnb := nbK_len (fun k => nearR rs n k) k
    cases hv : nearR rs n k with
    | true =>
      rw [hv] at HN
      have hs : (nbK (fun k => nearR rs n k) (k + 1)) = (nbK (fun k => nearR rs n k) k) ++ [(k : Int)] := by rw [nbK, if_pos hv]
      have hrow : some (Blk.row 3 1 ((nbK (fun k => nearR rs n k) k).length + 1) (intsF (nbK (fun k => nearR rs n k) k) ++ [iv ((k : Nat) : Int)])) = some (Blk.row 3 1 (nbK (fun k => nearR rs n k) (k + 1)).length (intsF (nbK (fun k => nearR rs n k) (k + 1)))) := by rw [hs, intsF_snoc, List.length_append]; rfl
      repeat (first
    | (apply s_append TY; exact rfl; exact rfl; exact rfl; exact rfl; exact rfl; exact rfl; exact rfl; exact rfl; exact rfl; (unfold maxLen; omega); omega)
    | (apply s_a TY; exact rfl)
    | (apply s_t; exact rfl; (first | assumption | omega))
    | apply w_seq
    | apply w_region
    | apply s_nil
    | apply t_norm
    | apply k_norm
    | apply w_block
    | apply w_skip
    | (apply w_condT; exact rfl; exact rfl)
    | (apply s_k (HN); exact rfl)
    | (apply s_c TY; exact rfl; omega))
      exact ⟨k + 1, by omega, by omega, gh_le ⟨le_upd rfl trivial (le_upd rfl trivial (le_upd rfl rfl (le_upd rfl trivial (le_upd rfl trivial (le_nil _))))), le_hupd hrow trivial (le_h0 _ _)⟩⟩
    | false =>
      rw [hv] at HN
      have hs : (nbK (fun k => nearR rs n k) (k + 1)) = (nbK (fun k => nearR rs n k) k) := by rw [nbK, if_neg (by rw [hv]; decide)]
      have hrow : some (Blk.row 3 1 (nbK (fun k => nearR rs n k) k).length (intsF (nbK (fun k => nearR rs n k) k))) = some (Blk.row 3 1 (nbK (fun k => nearR rs n k) (k + 1)).length (intsF (nbK (fun k => nearR rs n k) (k + 1)))) := by rw [hs]
      repeat (first
    | (apply s_a TY; exact rfl)
    | (apply s_t; exact rfl; (first | assumption | omega))
    | apply w_seq
    | apply w_region
    | apply s_nil
    | apply t_norm
    | apply k_norm
    | apply w_block
    | apply w_skip
    | (apply w_condT; exact rfl; exact rfl)
    | (apply w_condF; exact rfl; exact rfl)
    | (apply s_k (HN); exact rfl)
    | (apply s_c TY; exact rfl; omega))
      exact ⟨k + 1, by omega, by omega, gh_le ⟨le_upd rfl trivial (le_upd rfl trivial (le_upd rfl rfl (le_upd rfl trivial (le_upd rfl trivial (le_nil _))))), le_hupd hrow trivial (le_h0 _ _)⟩⟩
  · have hke : k = (skyC rs).length := by omega
    subst hke
    repeat (first
    | (apply s_a TY; exact rfl)
    | (apply s_f; exact rfl; (first | assumption | omega))
    | apply w_seq
    | apply w_region
    | apply s_nil
    | apply t_norm
    | apply t_exit
    | apply k_hit
    | apply w_exit
    | apply w_ret
    | (apply w_condF; exact rfl; exact rfl))
    exact lv_ret (ret2 rfl (res_sees rfl (sees_row rfl)) (res_tmp rfl))
end Go.Proofs.YtenkgipcblfocaaGreat
namespace Go.Proofs.YtenkgipcblfocaaGreat
open Go Go.RowKit Go.Proofs Go.Shelf Go.Ab
theorem fracZ_bd {n d : Int} (hn : 0 ≤ n) (hd : 0 < d) : (0 ≤ (fracZ n d).1 ∧ (fracZ n d).1 ≤ n) ∧ 0 < (fracZ n d).2 ∧ (fracZ n d).2 ≤ d := by
  obtain ⟨g, g0, g1, g2, g3⟩ := fracZ_spec (n := n) hd
  generalize (fracZ n d).1 = N at *
  generalize (fracZ n d).2 = D at *
  have h0 : 0 ≤ N := by
    refine Classical.byContradiction fun h => ?_
    have : g * N < 0 := Int.mul_neg_of_pos_of_neg g0 (by omega)
    omega
  have h1 : 1 * N ≤ g * N := Int.mul_le_mul_of_nonneg_right (by omega) h0
  have h2 : 1 * D ≤ g * D := Int.mul_le_mul_of_nonneg_right (by omega) (by omega)
  omega
theorem prod_bd {x y : Int} (hx : 0 ≤ x ∧ x ≤ 13000000) (hy : 0 ≤ y ∧ y ≤ 12) : -9000000000000000000 ≤ x * y ∧ x * y ≤ 9000000000000000000 := by
  have h1 := Int.mul_nonneg hx.1 hy.1
  have h2 : x * y ≤ 13000000 * 12 := Int.mul_le_mul hx.2 hy.2 hy.1 (by omega)
  omega
set_option maxRecDepth 100000 in
set_option maxHeartbeats 3200000 in
theorem Near_s (rs : List Int) (o : SkyOk rs) (a b : Nat) (ha : (a : Int) < befK rs rs.length) (hb : (b : Int) < befK rs rs.length) : Summ Tryz.prog GG 138 [skF rs, iv ((a : Nat) : Int), iv ((b : Nat) : Int)] (bv (nearR rs a b)) := by
  obtain ⟨h1a, h2a, h3a, h4a⟩ := ringZ_bd o ha
  obtain ⟨h1b, h2b, h3b, h4b⟩ := ringZ_bd o hb
  have hlen := o.len
  have hra := o.ring _ h1a
  have hrb := o.ring _ h1b
  have hba := befK_bd o (k := ringZ rs a) (by omega)
  have hbb := befK_bd o (k := ringZ rs b) (by omega)
  have HRa := Ring_s rs o a ha
  have HRb := Ring_s rs o b hb
  have HCa := Corners_s rs o a ha
  have HCb := Corners_s rs o b hb
  have ea : rs.getD (ringZ rs a) default = rs[ringZ rs a] := getD_at h1a
  have HM1 := Mod_s ((a : Int) - befK rs (ringZ rs a) - ((b : Int) - befK rs (ringZ rs b))) rs[ringZ rs a] (by omega)
  have HM2 := Mod_s ((b : Int) - befK rs (ringZ rs b) - ((a : Int) - befK rs (ringZ rs a))) rs[ringZ rs a] (by omega)
  have HS := Size_s (((ringZ rs a : Nat) : Int) - (ringZ rs b : Nat)) (by omega)
  have fa := fracZ_bd (n := 1000000 * ((a : Int) - befK rs (ringZ rs a))) (d := rs.getD (ringZ rs a) default) (by omega) (by omega)
  have ga := fracZ_bd (n := 1000000 * ((a : Int) - befK rs (ringZ rs a) + 1)) (d := rs.getD (ringZ rs a) default) (by omega) (by omega)
  have fb := fracZ_bd (n := 1000000 * ((b : Int) - befK rs (ringZ rs b))) (d := rs.getD (ringZ rs b) default) (by omega) (by omega)
  have gb := fracZ_bd (n := 1000000 * ((b : Int) - befK rs (ringZ rs b) + 1)) (d := rs.getD (ringZ rs b) default) (by omega) (by omega)
  have HF1 := Cmp_s (cTlo rs a) (cThi rs b) (prod_bd (by unfold cTlo; omega) (by unfold cThi; omega)) (prod_bd (by unfold cThi; omega) (by unfold cTlo; omega))
  have HF2 := Cmp_s (cTlo rs b) (cThi rs a) (prod_bd (by unfold cTlo; omega) (by unfold cThi; omega)) (prod_bd (by unfold cThi; omega) (by unfold cTlo; omega))
  by_cases hab : (a : Int) = b
  · have hv : nearR rs a b = false := by
      unfold nearR
      simp only
      rw [if_pos hab]
    rw [hv]
    refine summW Tryz.func138 rfl rfl 82 rfl (by simp) (fun M0 => ?_)
    repeat (first
    | (apply s_a TY; exact rfl)
    | (apply s_t; exact rfl; (first | assumption | omega))
    | apply w_seq
    | apply w_region
    | apply s_nil
    | apply t_norm
    | apply t_ret
    | apply w_ret
    | (apply w_condT; exact rfl; exact rfl))
    exact lv_ret (ret1 rfl (res_tmp rfl))
  · by_cases hr : ringZ rs a = ringZ rs b
    · by_cases h1 : ((a : Int) - befK rs (ringZ rs a) - ((b : Int) - befK rs (ringZ rs b))) % rs[ringZ rs a] = 1
      · have hv : nearR rs a b = true := by
          unfold nearR
          simp only
          rw [if_neg hab, if_pos hr, modB_eq (by omega), modB_eq (by omega), getD_at h1a]
          rw [decide_eq_true h1]; rfl
        rw [hv]
        refine summW Tryz.func138 rfl rfl 82 rfl (by simp) (fun M0 => ?_)
        repeat (first
    | (apply s_a TY; exact rfl)
    | (apply s_t; exact rfl; (first | assumption | omega))
    | (apply s_f; exact rfl; (first | assumption | omega))
    | apply w_seq
    | apply w_region
    | apply s_nil
    | apply t_norm
    | apply t_ret
    | apply w_ret
    | apply w_skip
    | (apply w_condT; exact rfl; exact rfl)
    | (apply w_condF; exact rfl; exact rfl)
    | (apply s_k (HRa); exact rfl)
    | (apply s_k (HRb); exact rfl)
    | (apply s_k (HM1); exact rfl)
    | (apply s_s; exact rfl)
    | (apply s_c TY; exact rfl; (first | omega | exact ⟨by omega, by (first | with_reducible assumption | ((with_reducible apply intsF_ne); omega) | assumption)⟩))
    | (apply s_l TY; exact rfl; (first | exact rfl | with_reducible assumption | ((with_reducible apply intsF_at); omega) | assumption)))
        exact lv_ret (ret1 rfl (res_tmp rfl))
      · by_cases h2 : ((b : Int) - befK rs (ringZ rs b) - ((a : Int) - befK rs (ringZ rs a))) % rs[ringZ rs a] = 1
        · have hv : nearR rs a b = true := by
            unfold nearR
            simp only
            rw [if_neg hab, if_pos hr, modB_eq (by omega), modB_eq (by omega), getD_at h1a]
            rw [decide_eq_true h2, Bool.or_true]
          rw [hv]
          refine summW Tryz.func138 rfl rfl 82 rfl (by simp) (fun M0 => ?_)
          repeat (first
    | (apply s_a TY; exact rfl)
    | (apply s_t; exact rfl; (first | assumption | omega))
    | (apply s_f; exact rfl; (first | assumption | omega))
    | apply w_seq
    | apply w_region
    | apply s_nil
    | apply t_norm
    | apply t_ret
    | apply w_ret
    | apply w_skip
    | (apply w_condT; exact rfl; exact rfl)
    | (apply w_condF; exact rfl; exact rfl)
    | (apply s_k (HRa); exact rfl)
    | (apply s_k (HRb); exact rfl)
    | (apply s_k (HM1); exact rfl)
    | (apply s_k (HM2); exact rfl)
    | (apply s_c TY; exact rfl; (first | omega | exact ⟨by omega, by (first | with_reducible assumption | ((with_reducible apply intsF_ne); omega) | assumption)⟩))
    | (apply s_l TY; exact rfl; (first | exact rfl | with_reducible assumption | ((with_reducible apply intsF_at); omega) | assumption)))
          exact lv_ret (ret1 rfl (res_tmp rfl))
        · have hv : nearR rs a b = false := by
            unfold nearR
            simp only
            rw [if_neg hab, if_pos hr, modB_eq (by omega), modB_eq (by omega), getD_at h1a]
            rw [decide_eq_false h1, decide_eq_false h2]; rfl
          rw [hv]
          refine summW Tryz.func138 rfl rfl 82 rfl (by simp) (fun M0 => ?_)
          repeat (first
    | (apply s_a TY; exact rfl)
    | (apply s_t; exact rfl; (first | assumption | omega))
    | (apply s_f; exact rfl; (first | assumption | omega))
    | apply w_seq
    | apply w_region
    | apply s_nil
    | apply t_norm
    | apply t_ret
    | apply w_ret
    | apply w_skip
    | (apply w_condT; exact rfl; exact rfl)
    | (apply w_condF; exact rfl; exact rfl)
    | (apply s_k (HRa); exact rfl)
    | (apply s_k (HRb); exact rfl)
    | (apply s_k (HM1); exact rfl)
    | (apply s_k (HM2); exact rfl)
    | (apply s_c TY; exact rfl; (first | omega | exact ⟨by omega, by (first | with_reducible assumption | ((with_reducible apply intsF_ne); omega) | assumption)⟩))
    | (apply s_l TY; exact rfl; (first | exact rfl | with_reducible assumption | ((with_reducible apply intsF_at); omega) | assumption)))
          exact lv_ret (ret1 rfl (res_tmp rfl))
    · by_cases hw : max (((ringZ rs a : Nat) : Int) - (ringZ rs b : Nat)) (-(((ringZ rs a : Nat) : Int) - (ringZ rs b : Nat))) = 1
      · by_cases hp : cmpF (cTlo rs a) (cThi rs b) < 0
        · by_cases hq : cmpF (cTlo rs b) (cThi rs a) < 0
          · have hv : nearR rs a b = true := by
              unfold nearR
              simp only
              rw [if_neg hab, if_neg hr]
              show (decide (max (((ringZ rs a : Nat) : Int) - (ringZ rs b : Nat)) (-(((ringZ rs a : Nat) : Int) - (ringZ rs b : Nat))) = 1) && decide ((cTlo rs a).1 * (cThi rs b).2 < (cThi rs b).1 * (cTlo rs a).2) && decide ((cTlo rs b).1 * (cThi rs a).2 < (cThi rs a).1 * (cTlo rs b).2)) = true
              rw [decide_eq_true hw, decide_eq_true (cmpF_lt.1 hp), decide_eq_true (cmpF_lt.1 hq)]; rfl
            rw [hv]
            refine summW Tryz.func138 rfl rfl 82 rfl (by simp) (fun M0 => ?_)
            repeat (first
    | (apply s_fieldS TY Tryz.underlying128; exact rfl; exact rfl; exact rfl; exact rfl; exact rfl; exact rfl)
    | (apply s_a TY; exact rfl)
    | (apply s_t; exact rfl; (first | assumption | omega))
    | (apply s_f; exact rfl; (first | assumption | omega))
    | apply w_seq
    | apply w_region
    | (apply w_draw1 (id := 7) 10 rfl (by kernel_rfl); exact rfl; kernel_rfl)
    | (apply s_allocB TY (d := some 11); exact rfl; exact rfl; exact rfl)
    | (apply s_sto TY; exact rfl; exact rfl; exact rfl; exact rfl; exact rfl; exact rfl; exact rfl)
    | apply s_nil
    | apply t_norm
    | apply w_ret
    | apply w_skip
    | (apply w_condF; exact rfl; exact rfl)
    | (apply s_k (HRa); exact rfl)
    | (apply s_k (HRb); exact rfl)
    | (apply s_k (HCa); exact rfl)
    | (apply s_k (HCb); exact rfl)
    | (apply s_k (HS); exact rfl)
    | (apply s_k (HF1); exact rfl)
    | (apply s_k (HF2); exact rfl)
    | (apply s_c TY; exact rfl; (first | omega | exact ⟨by omega, by (first | with_reducible assumption | ((with_reducible apply intsF_ne); omega) | assumption)⟩))
    | (apply s_alloc TY; exact rfl; exact rfl; exact rfl)
    | (apply s_store TY; exact rfl; exact rfl; exact rfl; exact rfl; exact rfl; exact rfl))
            exact lv_ret (ret1 rfl (res_tmp rfl))
          · have hv : nearR rs a b = false := by
              unfold nearR
              simp only
              rw [if_neg hab, if_neg hr]
              show (decide (max (((ringZ rs a : Nat) : Int) - (ringZ rs b : Nat)) (-(((ringZ rs a : Nat) : Int) - (ringZ rs b : Nat))) = 1) && decide ((cTlo rs a).1 * (cThi rs b).2 < (cThi rs b).1 * (cTlo rs a).2) && decide ((cTlo rs b).1 * (cThi rs a).2 < (cThi rs a).1 * (cTlo rs b).2)) = false
              rw [decide_eq_false (fun h => hq (cmpF_lt.2 h)), Bool.and_false]
            rw [hv]
            refine summW Tryz.func138 rfl rfl 82 rfl (by simp) (fun M0 => ?_)
            repeat (first
    | (apply s_fieldS TY Tryz.underlying128; exact rfl; exact rfl; exact rfl; exact rfl; exact rfl; exact rfl)
    | (apply s_a TY; exact rfl)
    | (apply s_t; exact rfl; (first | assumption | omega))
    | (apply s_f; exact rfl; (first | assumption | omega))
    | apply w_seq
    | apply w_region
    | (apply w_draw1 (id := 7) 10 rfl (by kernel_rfl); exact rfl; kernel_rfl)
    | (apply s_allocB TY (d := some 11); exact rfl; exact rfl; exact rfl)
    | (apply s_sto TY; exact rfl; exact rfl; exact rfl; exact rfl; exact rfl; exact rfl; exact rfl)
    | apply s_nil
    | apply t_norm
    | apply w_ret
    | apply w_skip
    | (apply w_condF; exact rfl; exact rfl)
    | (apply s_k (HRa); exact rfl)
    | (apply s_k (HRb); exact rfl)
    | (apply s_k (HCa); exact rfl)
    | (apply s_k (HCb); exact rfl)
    | (apply s_k (HS); exact rfl)
    | (apply s_k (HF1); exact rfl)
    | (apply s_k (HF2); exact rfl)
    | (apply s_c TY; exact rfl; (first | omega | exact ⟨by omega, by (first | with_reducible assumption | ((with_reducible apply intsF_ne); omega) | assumption)⟩))
    | (apply s_alloc TY; exact rfl; exact rfl; exact rfl)
    | (apply s_store TY; exact rfl; exact rfl; exact rfl; exact rfl; exact rfl; exact rfl))
            exact lv_ret (ret1 rfl (res_tmp rfl))
        · have hv : nearR rs a b = false := by
            unfold nearR
            simp only
            rw [if_neg hab, if_neg hr]
            show (decide (max (((ringZ rs a : Nat) : Int) - (ringZ rs b : Nat)) (-(((ringZ rs a : Nat) : Int) - (ringZ rs b : Nat))) = 1) && decide ((cTlo rs a).1 * (cThi rs b).2 < (cThi rs b).1 * (cTlo rs a).2) && decide ((cTlo rs b).1 * (cThi rs a).2 < (cThi rs a).1 * (cTlo rs b).2)) = false
            rw [decide_eq_false (fun h => hp (cmpF_lt.2 h)), Bool.and_false, Bool.false_and]
          rw [hv]
          refine summW Tryz.func138 rfl rfl 82 rfl (by simp) (fun M0 => ?_)
          repeat (first
    | (apply s_fieldS TY Tryz.underlying128; exact rfl; exact rfl; exact rfl; exact rfl; exact rfl; exact rfl)
    | (apply s_a TY; exact rfl)
    | (apply s_t; exact rfl; (first | assumption | omega))
    | (apply s_f; exact rfl; (first | assumption | omega))
    | apply w_seq
    | apply w_region
    | (apply w_draw1 (id := 7) 10 rfl (by kernel_rfl); exact rfl; kernel_rfl)
    | (apply s_allocB TY (d := some 11); exact rfl; exact rfl; exact rfl)
    | (apply s_sto TY; exact rfl; exact rfl; exact rfl; exact rfl; exact rfl; exact rfl; exact rfl)
    | apply s_nil
    | apply t_norm
    | apply w_ret
    | apply w_skip
    | (apply w_condF; exact rfl; exact rfl)
    | (apply s_k (HRa); exact rfl)
    | (apply s_k (HRb); exact rfl)
    | (apply s_k (HCa); exact rfl)
    | (apply s_k (HCb); exact rfl)
    | (apply s_k (HS); exact rfl)
    | (apply s_k (HF1); exact rfl)
    | (apply s_s; exact rfl)
    | (apply s_c TY; exact rfl; (first | omega | exact ⟨by omega, by (first | with_reducible assumption | ((with_reducible apply intsF_ne); omega) | assumption)⟩))
    | (apply s_alloc TY; exact rfl; exact rfl; exact rfl)
    | (apply s_store TY; exact rfl; exact rfl; exact rfl; exact rfl; exact rfl; exact rfl))
          exact lv_ret (ret1 rfl (res_tmp rfl))
      · have hv : nearR rs a b = false := by
          unfold nearR
          simp only
          rw [if_neg hab, if_neg hr]
          show (decide (max (((ringZ rs a : Nat) : Int) - (ringZ rs b : Nat)) (-(((ringZ rs a : Nat) : Int) - (ringZ rs b : Nat))) = 1) && decide ((cTlo rs a).1 * (cThi rs b).2 < (cThi rs b).1 * (cTlo rs a).2) && decide ((cTlo rs b).1 * (cThi rs a).2 < (cThi rs a).1 * (cTlo rs b).2)) = false
          rw [decide_eq_false hw]; rfl
        rw [hv]
        refine summW Tryz.func138 rfl rfl 82 rfl (by simp) (fun M0 => ?_)
        repeat (first
    | (apply s_fieldS TY Tryz.underlying128; exact rfl; exact rfl; exact rfl; exact rfl; exact rfl; exact rfl)
    | (apply s_a TY; exact rfl)
    | (apply s_f; exact rfl; (first | assumption | omega))
    | apply w_seq
    | apply w_region
    | (apply w_draw1 (id := 7) 10 rfl (by kernel_rfl); exact rfl; kernel_rfl)
    | (apply s_allocB TY (d := some 11); exact rfl; exact rfl; exact rfl)
    | (apply s_sto TY; exact rfl; exact rfl; exact rfl; exact rfl; exact rfl; exact rfl; exact rfl)
    | apply s_nil
    | apply t_norm
    | apply w_ret
    | apply w_skip
    | (apply w_condF; exact rfl; exact rfl)
    | (apply s_k (HRa); exact rfl)
    | (apply s_k (HRb); exact rfl)
    | (apply s_k (HCa); exact rfl)
    | (apply s_k (HCb); exact rfl)
    | (apply s_k (HS); exact rfl)
    | (apply s_s; exact rfl)
    | (apply s_c TY; exact rfl; (first | omega | exact ⟨by omega, by (first | with_reducible assumption | ((with_reducible apply intsF_ne); omega) | assumption)⟩))
    | (apply s_alloc TY; exact rfl; exact rfl; exact rfl)
    | (apply s_store TY; exact rfl; exact rfl; exact rfl; exact rfl; exact rfl; exact rfl))
        exact lv_ret (ret1 rfl (res_tmp rfl))
end Go.Proofs.YtenkgipcblfocaaGreat
namespace Go.Proofs.YtenkgipcblfocaaGreat
open Go Go.RowKit Go.Proofs Go.Shelf Go.Ab
set_option maxRecDepth 100000 in
set_option maxHeartbeats 1600000 in
theorem Neighbours_s (rs : List Int) (o : SkyOk rs) (n : Nat) (hn : (n : Int) < befK rs rs.length) : Summ Tryz.prog GG 79 [skF rs, iv ((n : Nat) : Int)] (.sl (nbK (fun k => nearR rs n k) (skyC rs).length).length (intsF (nbK (fun k => nearR rs n k) (skyC rs).length))) := by
  have hb := skyC_bd o
  have hlc := skyC_len o
  have HC := Count_s rs o
  refine summW Tryz.func79 rfl rfl 22 rfl (by simp) (fun M0 => ?_)
  repeat (first
    | (apply s_a TY; exact rfl)
    | apply w_seq
    | apply w_region
    | apply s_nil
    | apply t_norm
    | apply w_block)
  apply w_gh (gh_own 5 3 1 rfl rfl)
  apply w_loop (fun k : Nat => ⟨(Ab.upd (Ab.upd (Ab.upd (Ab.upd (fun _ => .bot) 1 (.f (iv ((n : Nat) : Int)))) 2 (.f (.pt [.sl rs.length (intsF rs)] 0))) 5 (.ow 0)) 6 (.f (iv (k : Nat)))), (Ab.upd (fun _ => none) 0 (some (.row 3 1 (nbK (fun k => nearR rs n k) k).length (intsF (nbK (fun k => nearR rs n k) k))))), 1⟩) (fun k => k ≤ (skyC rs).length) (fun k => (skyC rs).length - k) 0 (Nat.zero_le _) (gh_le ⟨le_upd rfl trivial (le_upd rfl rfl (le_upd rfl trivial (le_upd rfl trivial (le_nil _)))), le_hupd rfl trivial (le_h0 _ _)⟩)
  intro k hk
  by_cases hc : k < (skyC rs).length
  · have HN := Near_s rs o n k hn (by omega)
    have hnb := nbK_len (fun k => nearR rs n k) k
    cases hv : nearR rs n k with
    | true =>
      rw [hv] at HN
      have hs : (nbK (fun k => nearR rs n k) (k + 1)) = (nbK (fun k => nearR rs n k) k) ++ [(k : Int)] := by rw [nbK, if_pos hv]
      have hrow : some (Blk.row 3 1 ((nbK (fun k => nearR rs n k) k).length + 1) (intsF (nbK (fun k => nearR rs n k) k) ++ [iv ((k : Nat) : Int)])) = some (Blk.row 3 1 (nbK (fun k => nearR rs n k) (k + 1)).length (intsF (nbK (fun k => nearR rs n k) (k + 1)))) := by rw [hs, intsF_snoc, List.length_append]; rfl
      repeat (first
    | (apply s_append TY; exact rfl; exact rfl; exact rfl; exact rfl; exact rfl; exact rfl; exact rfl; exact rfl; exact rfl; (unfold maxLen; omega); omega)
    | (apply s_a TY; exact rfl)
    | (apply s_t; exact rfl; (first | assumption | omega))
    | apply w_seq
    | apply w_region
    | apply s_nil
    | apply t_norm
    | apply k_norm
    | apply w_block
    | apply w_skip
    | (apply w_condT; exact rfl; exact rfl)
    | (apply s_k (HC); exact rfl)
    | (apply s_k (HN); exact rfl)
    | (apply s_c TY; exact rfl; omega))
      exact ⟨k + 1, by omega, by omega, gh_le ⟨le_upd rfl trivial (le_upd rfl rfl (le_upd rfl trivial (le_upd rfl trivial (le_nil _)))), le_hupd hrow trivial (le_h0 _ _)⟩⟩
    | false =>
      rw [hv] at HN
      have hs : (nbK (fun k => nearR rs n k) (k + 1)) = (nbK (fun k => nearR rs n k) k) := by rw [nbK, if_neg (by rw [hv]; decide)]
      have hrow : some (Blk.row 3 1 (nbK (fun k => nearR rs n k) k).length (intsF (nbK (fun k => nearR rs n k) k))) = some (Blk.row 3 1 (nbK (fun k => nearR rs n k) (k + 1)).length (intsF (nbK (fun k => nearR rs n k) (k + 1)))) := by rw [hs]
      repeat (first
    | (apply s_a TY; exact rfl)
    | (apply s_t; exact rfl; (first | assumption | omega))
    | apply w_seq
    | apply w_region
    | apply s_nil
    | apply t_norm
    | apply k_norm
    | apply w_block
    | apply w_skip
    | (apply w_condT; exact rfl; exact rfl)
    | (apply w_condF; exact rfl; exact rfl)
    | (apply s_k (HC); exact rfl)
    | (apply s_k (HN); exact rfl)
    | (apply s_c TY; exact rfl; omega))
      exact ⟨k + 1, by omega, by omega, gh_le ⟨le_upd rfl trivial (le_upd rfl rfl (le_upd rfl trivial (le_upd rfl trivial (le_nil _)))), le_hupd hrow trivial (le_h0 _ _)⟩⟩
  · have hke : k = (skyC rs).length := by omega
    subst hke
    repeat (first
    | (apply s_a TY; exact rfl)
    | (apply s_f; exact rfl; (first | assumption | omega))
    | apply w_seq
    | apply w_region
    | apply s_nil
    | apply t_norm
    | apply t_exit
    | apply k_hit
    | apply w_exit
    | apply w_ret
    | (apply w_condF; exact rfl; exact rfl)
    | (apply s_k (HC); exact rfl))
    exact lv_ret (ret1 rfl (res_sees rfl (sees_row rfl)))
end Go.Proofs.YtenkgipcblfocaaGreat
namespace Go.Proofs.YtenkgipcblfocaaGreat
open Go Go.RowKit Go.Proofs Go.Shelf Go.Ab
theorem stood_frac : Tryz.prog.stoodInHeld 124 = false := by kernel_rfl
theorem fields_frac : Tryz.prog.fieldsOf 124 = #[{ name := "Num", type := 3, offset := 0, embedded := false, tag := "", pkgPath := "", byteOffset := 0 }, { name := "Den", type := 3, offset := 1, embedded := false, tag := "", pkgPath := "", byteOffset := 8 }] := by kernel_rfl
theorem stood_span : Tryz.prog.stoodInHeld 126 = false := by kernel_rfl
theorem fields_span : Tryz.prog.fieldsOf 126 = #[{ name := "Lo", type := 124, offset := 0, embedded := false, tag := "", pkgPath := "", byteOffset := 0 }, { name := "Hi", type := 124, offset := 2, embedded := false, tag := "", pkgPath := "", byteOffset := 16 }] := by kernel_rfl
theorem stood_corn : Tryz.prog.stoodInHeld 128 = false := by kernel_rfl
theorem fields_corn : Tryz.prog.fieldsOf 128 = #[{ name := "Heights", type := 126, offset := 0, embedded := false, tag := "", pkgPath := "", byteOffset := 0 }, { name := "Turns", type := 126, offset := 4, embedded := false, tag := "", pkgPath := "", byteOffset := 32 }] := by kernel_rfl
theorem equalIn_frac (d : Nat) (a0 a1 b0 b1 : Int) (W : World) : (Op.equalIn (d + 2) 124 (.agg #[.int .i64 a0, .int .i64 a1]) (.agg #[.int .i64 b0, .int .i64 b1])).run Tryz.prog W = .ok (a0 == b0 && a1 == b1) W := by
  rw [run_equalIn_agg W (d + 1) 124 _ _ (by rw [fields_frac]; exact Tryz.underlying124) stood_frac, fields_frac]
  cases h0 : a0 == b0 <;> cases h1 : a1 == b1 <;> simp [Op.eqFields, part, run_equalIn_int W d 3 _ _ _ _ Tryz.underlying3, Tryz.isAgg3, Tryz.sizeOf3, h0, h1]
set_option maxRecDepth 100000 in
theorem equalIn_span (d : Nat) (a0 a1 a2 a3 b0 b1 b2 b3 : Int) (W : World) : (Op.equalIn (d + 3) 126 (.agg #[.int .i64 a0, .int .i64 a1, .int .i64 a2, .int .i64 a3]) (.agg #[.int .i64 b0, .int .i64 b1, .int .i64 b2, .int .i64 b3])).run Tryz.prog W = .ok ((a0 == b0 && a1 == b1) && (a2 == b2 && a3 == b3)) W := by
  rw [run_equalIn_agg W (d + 2) 126 _ _ (by rw [fields_span]; exact Tryz.underlying126) stood_span, fields_span]
  have h1 := equalIn_frac d a0 a1 b0 b1 W
  have h2 := equalIn_frac d a2 a3 b2 b3 W
  cases e1 : (a0 == b0 && a1 == b1) <;> cases e2 : (a2 == b2 && a3 == b3) <;> (rw [e1] at h1; rw [e2] at h2; simp [Op.eqFields, part, Tryz.isAgg124, Tryz.sizeOf124, h1]; try (simp [h2]))
set_option maxRecDepth 100000 in
theorem equalIn_corn (d : Nat) (a0 a1 a2 a3 a4 a5 a6 a7 b0 b1 b2 b3 b4 b5 b6 b7 : Int) (W : World) : (Op.equalIn (d + 4) 128 (.agg #[.int .i64 a0, .int .i64 a1, .int .i64 a2, .int .i64 a3, .int .i64 a4, .int .i64 a5, .int .i64 a6, .int .i64 a7]) (.agg #[.int .i64 b0, .int .i64 b1, .int .i64 b2, .int .i64 b3, .int .i64 b4, .int .i64 b5, .int .i64 b6, .int .i64 b7])).run Tryz.prog W = .ok (((a0 == b0 && a1 == b1) && (a2 == b2 && a3 == b3)) && ((a4 == b4 && a5 == b5) && (a6 == b6 && a7 == b7))) W := by
  rw [run_equalIn_agg W (d + 3) 128 _ _ (by rw [fields_corn]; exact Tryz.underlying128) stood_corn, fields_corn]
  have h1 := equalIn_span d a0 a1 a2 a3 b0 b1 b2 b3 W
  have h2 := equalIn_span d a4 a5 a6 a7 b4 b5 b6 b7 W
  cases e1 : ((a0 == b0 && a1 == b1) && (a2 == b2 && a3 == b3)) <;> cases e2 : ((a4 == b4 && a5 == b5) && (a6 == b6 && a7 == b7)) <;> (rw [e1] at h1; rw [e2] at h2; simp [Op.eqFields, part, Tryz.isAgg126, Tryz.sizeOf126, h1]; try (simp [h2]))
theorem guard_corn : Tryz.prog.eqGuardType Tryz.prog.depth 128 = false := by kernel_rfl
set_option maxRecDepth 100000 in
theorem eqC {x y : Operand} {a0 a1 a2 a3 a4 a5 a6 a7 b0 b1 b2 b3 b4 b5 b6 b7 : Int} {c : Bool} (h : (((a0 == b0 && a1 == b1) && (a2 == b2 && a3 == b3)) && ((a4 == b4 && a5 == b5) && (a6 == b6 && a7 == b7))) = c) : ∀ w, (do eqGuard .eql 128 x y (.agg #[.int .i64 a0, .int .i64 a1, .int .i64 a2, .int .i64 a3, .int .i64 a4, .int .i64 a5, .int .i64 a6, .int .i64 a7]) (.agg #[.int .i64 b0, .int .i64 b1, .int .i64 b2, .int .i64 b3, .int .i64 b4, .int .i64 b5, .int .i64 b6, .int .i64 b7]); binOp .eql 128 (.agg #[.int .i64 a0, .int .i64 a1, .int .i64 a2, .int .i64 a3, .int .i64 a4, .int .i64 a5, .int .i64 a6, .int .i64 a7]) (.agg #[.int .i64 b0, .int .i64 b1, .int .i64 b2, .int .i64 b3, .int .i64 b4, .int .i64 b5, .int .i64 b6, .int .i64 b7]) : Sem Value).run Tryz.prog w = .ok (.bool c) w := fun w => by
  have h1 := equalIn_corn 9996 a0 a1 a2 a3 a4 a5 a6 a7 b0 b1 b2 b3 b4 b5 b6 b7 w
  rw [h] at h1
  first
  | (simp [eqGuard, run_eql_struct, h1]; done)
  | simp [eqGuard, guard_corn, run_eql_struct, h1]
end Go.Proofs.YtenkgipcblfocaaGreat
namespace Go.Proofs.YtenkgipcblfocaaGreat
open Go Go.RowKit Go.Proofs Go.Shelf Go.Ab
set_option maxRecDepth 100000 in
set_option maxHeartbeats 3200000 in
theorem AlertCells_s (rs : List Int) (pt : Pt) (n : Int) : Summ Tryz.prog GG 12 [skF rs, ptF pt, iv n] (.v (.bool true)) := by
  have HA := awake_s
  by_cases h10 : rs.length ≤ 10
  case neg =>
    have HW := few_F rs (by omega)
    refine summW Tryz.func12 rfl rfl 162 rfl (by simp) (fun M0 => ?_)
    repeat (first
    | (apply s_a TY; exact rfl)
    | apply w_seq
    | apply w_region
    | apply s_nil
    | apply t_norm
    | apply t_ret
    | apply w_ret
    | apply w_skip
    | (apply w_condT; exact rfl; exact rfl)
    | (apply w_condF; exact rfl; exact rfl)
    | (apply s_k (HA); exact rfl)
    | (apply s_k (HW); exact rfl))
    exact lv_ret (ret1 rfl (res_tmp rfl))
  have HW := few_T rs h10
  have HCp := CopySky_s rs (by omega)
  have HCk := CheckSky_s rs (by omega)
  have HRk := rCheckSky_s rs (by omega)
  by_cases he : (skyChk rs).2 = 0
  case neg =>
    have H1 := CellOf_err rs pt (by omega) he
    have H2 := CornersOf_sky rs n (by omega) he
    have H3 := NeighboursOf_sky rs n (by omega) he
    refine summW Tryz.func12 rfl rfl 162 rfl (by simp) (fun M0 => ?_)
    repeat (first
    | (apply s_bind; exact rfl; exact rfl; exact rfl; exact rfl; exact rfl; exact rfl; exact eqC (c := true) (by first | rfl | (simp; done)))
    | (apply s_a TY; exact rfl)
    | (apply s_t; exact rfl; (first | assumption | omega))
    | (apply s_f; exact rfl; (first | assumption | omega))
    | apply w_seq
    | apply w_region
    | (apply w_draw (id := 6) 8 rfl (by kernel_rfl))
    | apply s_nil
    | apply t_norm
    | apply t_ret
    | apply w_ret
    | apply w_skip
    | (apply w_condT; exact rfl; exact rfl)
    | (apply w_condF; exact rfl; exact rfl)
    | (apply s_k (HA); exact rfl)
    | (apply s_k (HW); exact rfl)
    | (apply s_k (HCp); exact rfl)
    | (apply s_k (HCk); exact rfl)
    | (apply s_k (HRk); exact rfl)
    | (apply s_k (H1); exact rfl)
    | (apply s_k (H2); exact rfl)
    | (apply s_k (H3); exact rfl)
    | (apply s_alloc TY; exact rfl; exact rfl; exact rfl)
    | (apply s_store TY; exact rfl; exact rfl; exact rfl; exact rfl; exact rfl; exact rfl))
    exact lv_ret (ret1 rfl (res_tmp rfl))
  have o := skyOk_of he
  rw [skyChk_ok o] at HCk HRk
  have HP := rPointErr_s pt
  have HR := rCellErr_s rs n o
  have hbl := skyC_bd o
  by_cases hn : 0 ≤ n ∧ n ≤ befK rs rs.length - 1
  case neg =>
    rw [celE_6 hn] at HR
    have H2 := CornersOf_cell rs o n hn
    have H3 := NeighboursOf_cell rs o n hn
    by_cases op : PtOk pt
    · rw [ptE_0 ⟨op.h, op.t⟩] at HP
      have H1 := CellOf_ok rs pt o ⟨op.h, op.t⟩
      have HZ := Cell_s rs pt o op
      refine summW Tryz.func12 rfl rfl 162 rfl (by simp) (fun M0 => ?_)
      repeat (first
    | (apply s_bind; exact rfl; exact rfl; exact rfl; exact rfl; exact rfl; exact rfl; exact eqC (c := true) (by first | rfl | (simp; done)))
    | (apply s_a TY; exact rfl)
    | (apply s_t; exact rfl; (first | assumption | omega))
    | (apply s_f; exact rfl; (first | assumption | omega))
    | apply w_seq
    | apply w_region
    | (apply w_draw (id := 6) 8 rfl (by kernel_rfl))
    | apply s_nil
    | apply t_norm
    | apply t_ret
    | apply w_ret
    | apply w_skip
    | (apply w_condT; exact rfl; exact rfl)
    | (apply w_condF; exact rfl; exact rfl)
    | (apply s_k (HA); exact rfl)
    | (apply s_k (HW); exact rfl)
    | (apply s_k (HCp); exact rfl)
    | (apply s_k (HCk); exact rfl)
    | (apply s_k (HRk); exact rfl)
    | (apply s_k (H1); exact rfl)
    | (apply s_k (H2); exact rfl)
    | (apply s_k (H3); exact rfl)
    | (apply s_k (HP); exact rfl)
    | (apply s_k (HR); exact rfl)
    | (apply s_k (HZ); exact rfl)
    | (apply s_s; exact rfl)
    | (apply s_alloc TY; exact rfl; exact rfl; exact rfl)
    | (apply s_store TY; exact rfl; exact rfl; exact rfl; exact rfl; exact rfl; exact rfl))
      exact lv_ret (ret1 rfl (res_tmp rfl))
    · have e2 := ptE_2 (p := pt) (fun h => op ⟨h.1, h.2⟩)
      have H1 := CellOf_errP rs pt o (by rw [e2]; decide)
      rw [e2] at HP H1
      refine summW Tryz.func12 rfl rfl 162 rfl (by simp) (fun M0 => ?_)
      repeat (first
    | (apply s_bind; exact rfl; exact rfl; exact rfl; exact rfl; exact rfl; exact rfl; exact eqC (c := true) (by first | rfl | (simp; done)))
    | (apply s_a TY; exact rfl)
    | (apply s_t; exact rfl; (first | assumption | omega))
    | (apply s_f; exact rfl; (first | assumption | omega))
    | apply w_seq
    | apply w_region
    | (apply w_draw (id := 6) 8 rfl (by kernel_rfl))
    | apply s_nil
    | apply t_norm
    | apply t_ret
    | apply w_ret
    | apply w_skip
    | (apply w_condT; exact rfl; exact rfl)
    | (apply w_condF; exact rfl; exact rfl)
    | (apply s_k (HA); exact rfl)
    | (apply s_k (HW); exact rfl)
    | (apply s_k (HCp); exact rfl)
    | (apply s_k (HCk); exact rfl)
    | (apply s_k (HRk); exact rfl)
    | (apply s_k (H1); exact rfl)
    | (apply s_k (H2); exact rfl)
    | (apply s_k (H3); exact rfl)
    | (apply s_k (HP); exact rfl)
    | (apply s_k (HR); exact rfl)
    | (apply s_s; exact rfl)
    | (apply s_alloc TY; exact rfl; exact rfl; exact rfl)
    | (apply s_store TY; exact rfl; exact rfl; exact rfl; exact rfl; exact rfl; exact rfl))
      exact lv_ret (ret1 rfl (res_tmp rfl))
  rw [celE_0 hn] at HR
  obtain ⟨m, rfl⟩ : ∃ m : Nat, n = m := ⟨n.toNat, by omega⟩
  have hm : (m : Int) < befK rs rs.length := by omega
  have H2 := CornersOf_ok rs o m hm
  have H4 := Corners_s rs o m hm
  have H3 := NeighboursOf_ok rs o m hm
  have H5 := Neighbours_s rs o m hm
  have hnb := nbK_len (fun k => nearR rs m k) (skyC rs).length
  have HI := Ints_s (nbK (fun k => nearR rs m k) (skyC rs).length) (nbK (fun k => nearR rs m k) (skyC rs).length) (by omega) (by omega)
  rw [decide_eq_true rfl] at HI
  generalize (nbK (fun k => nearR rs m k) (skyC rs).length) = L at *
  unfold cornL at H2 H4
  generalize (cHlo rs m).1 = a0 at *
  generalize (cHlo rs m).2 = a1 at *
  generalize (cHhi rs m).1 = a2 at *
  generalize (cHhi rs m).2 = a3 at *
  generalize (cTlo rs m).1 = a4 at *
  generalize (cTlo rs m).2 = a5 at *
  generalize (cThi rs m).1 = a6 at *
  generalize (cThi rs m).2 = a7 at *
  by_cases op : PtOk pt
  · rw [ptE_0 ⟨op.h, op.t⟩] at HP
    have H1 := CellOf_ok rs pt o ⟨op.h, op.t⟩
    have HZ := Cell_s rs pt o op
    refine summW Tryz.func12 rfl rfl 162 rfl (by simp) (fun M0 => ?_)
    repeat (first
    | (apply s_bind; exact rfl; exact rfl; exact rfl; exact rfl; exact rfl; exact rfl; exact eqC (c := true) (by first | rfl | (simp; done)))
    | (apply s_a TY; exact rfl)
    | (apply s_t; exact rfl; (first | assumption | omega))
    | apply w_seq
    | apply w_region
    | (apply w_draw (id := 6) 8 rfl (by kernel_rfl))
    | (apply w_draw (id := 20) 18 rfl (by kernel_rfl))
    | apply s_nil
    | apply t_norm
    | apply w_ret
    | apply w_skip
    | (apply w_condF; exact rfl; exact rfl)
    | (apply s_k (HA); exact rfl)
    | (apply s_k (HW); exact rfl)
    | (apply s_k (HCp); exact rfl)
    | (apply s_k (HCk); exact rfl)
    | (apply s_k (HRk); exact rfl)
    | (apply s_k (H1); exact rfl)
    | (apply s_k (H2); exact rfl)
    | (apply s_k (H3); exact rfl)
    | (apply s_k (HP); exact rfl)
    | (apply s_k (HR); exact rfl)
    | (apply s_k (HZ); exact rfl)
    | (apply s_k (H4); exact rfl)
    | (apply s_k (H5); exact rfl)
    | (apply s_k (HI); exact rfl)
    | (apply s_s; exact rfl)
    | (apply s_alloc TY; exact rfl; exact rfl; exact rfl)
    | (apply s_store TY; exact rfl; exact rfl; exact rfl; exact rfl; exact rfl; exact rfl))
    exact lv_ret (ret1 rfl (res_tmp rfl))
  · have e2 := ptE_2 (p := pt) (fun h => op ⟨h.1, h.2⟩)
    have H1 := CellOf_errP rs pt o (by rw [e2]; decide)
    rw [e2] at HP H1
    refine summW Tryz.func12 rfl rfl 162 rfl (by simp) (fun M0 => ?_)
    repeat (first
    | (apply s_bind; exact rfl; exact rfl; exact rfl; exact rfl; exact rfl; exact rfl; exact eqC (c := true) (by first | rfl | (simp; done)))
    | (apply s_a TY; exact rfl)
    | (apply s_t; exact rfl; (first | assumption | omega))
    | (apply s_f; exact rfl; (first | assumption | omega))
    | apply w_seq
    | apply w_region
    | (apply w_draw (id := 6) 8 rfl (by kernel_rfl))
    | (apply w_draw (id := 20) 18 rfl (by kernel_rfl))
    | apply s_nil
    | apply t_norm
    | apply w_ret
    | apply w_skip
    | (apply w_condF; exact rfl; exact rfl)
    | (apply s_k (HA); exact rfl)
    | (apply s_k (HW); exact rfl)
    | (apply s_k (HCp); exact rfl)
    | (apply s_k (HCk); exact rfl)
    | (apply s_k (HRk); exact rfl)
    | (apply s_k (H1); exact rfl)
    | (apply s_k (H2); exact rfl)
    | (apply s_k (H3); exact rfl)
    | (apply s_k (HP); exact rfl)
    | (apply s_k (HR); exact rfl)
    | (apply s_k (H4); exact rfl)
    | (apply s_k (H5); exact rfl)
    | (apply s_k (HI); exact rfl)
    | (apply s_s; exact rfl)
    | (apply s_alloc TY; exact rfl; exact rfl; exact rfl)
    | (apply s_store TY; exact rfl; exact rfl; exact rfl; exact rfl; exact rfl; exact rfl))
    exact lv_ret (ret1 rfl (res_tmp rfl))
end Go.Proofs.YtenkgipcblfocaaGreat
namespace Go.Ab
open Go Go.RowKit
section
variable {P : Program} {w : World}
end
end Go.Ab
namespace Go.Ab
open Go Go.RowKit Go.Shelf Go.Proofs
section
variable {C : Ctx} {N : Nat}
variable {ops : Array Oper} {pr : Bool} {K : St → Prop} {rest : List Oper} {d : Option Tmp} {T0 : TypeId} {pos : String} {af : Array Edge} {gd : Option (Nat × Bool)} {st : St}
end
end Go.Ab
namespace Go.Proofs.YtenkgipcblfocaaGreat
open Go Go.Ab Go.ChangeShapes Go.WideShapes Go.ChangeAt Go.RowKit
theorem ownKnobT : ownKnob Tryz.prog.godebug = none := by kernel_rfl
theorem laidOutT : laidOutB Tryz.prog = true := by kernel_rfl
theorem trodAll_stays {H : Type} {enc : TypeId × Value → H} {W W' : World} {sp : Nat → Bool} (hb : Below W.heap.size W W') : ∀ {ts : List TypeId} {vs : List Value} {ds : List (DataW H)} {ps : List MemPlace}, (∀ t ∈ ts, Tryz.prog.readableRec t = true ∧ t < Tryz.prog.types.size) → DataW.TrodAll enc Tryz.prog W 0 (fun _ => true) true ts vs ds ps → (∀ p ∈ ps, p.block < W.heap.size) → (∀ p ∈ ps, sp p.block = true) → DataW.TrodAll enc Tryz.prog W' 0 sp true ts vs ds ps
  | [], [], [], _, _, h, _, _ => h
  | t :: ts, v :: vs, d :: ds, ps, ht, ⟨p, q, h1, h2, e⟩, hlt, hsp => by
    have hp : ∀ x ∈ p, x ∈ ps := fun x hx => by rw [e]; exact List.mem_append_left _ hx
    have hq : ∀ x ∈ q, x ∈ ps := fun x hx => by rw [e]; exact List.mem_append_right _ hx
    exact ⟨p, q, WideElems.Trod_stays laidOutT (ht t (by simp)).1 (ht t (by simp)).2 h1 (fun x hx => hb.same (hlt x (hp x hx))) (fun x hx => hsp x (hp x hx)),
      trodAll_stays hb (fun u hu => ht u (by simp [hu])) h2 (fun x hx => hlt x (hq x hx)) (fun x hx => hsp x (hq x hx)), e⟩
theorem post_law {H : Type} {enc : TypeId × Value → H} {f : Func} {s : ChangeSpec} {W W' : World} {args : Array Value} {ds gs : List (DataW H)} {before : List MemPlace}
    (hW : DataW.Whole enc Tryz.prog f.params.toList s.vars false W args.toList ds gs before) (hv : s.vars = []) (hr : f.resultTypes = #[4])
    (ht : ∀ t ∈ f.params.toList, Tryz.prog.readableRec t = true ∧ t < Tryz.prog.types.size)
    (hres : (s.fn H (ds ++ gs)).results = [.lit (.bool true)]) (hargs : (s.fn H (ds ++ gs)).args = ds) (hvs : (s.fn H (ds ++ gs)).vars = [])
    (hb : Below W.heap.size W W') : s.post enc Tryz.prog f false true false false W args (.bool true) W' := by
  have hlt := hW.lt
  have hW0 := hW
  obtain ⟨p, q, h1, h2, e, hz, hn⟩ := hW
  have h2' := h2
  rw [hv] at h2'
  have hq : gs = [] ∧ q = [] := by
    cases gs with
    | nil => exact ⟨rfl, h2'⟩
    | cons g r => exact absurd h2' (by intro h; cases h)
  obtain ⟨rfl, rfl⟩ := hq
  rw [List.append_nil] at e
  subst e
  refine ⟨ds, [], before, [], before, [], hW0, ?_, ?_, ?_, Below.frame hb _, fun h => by cases h⟩
  · rw [hr, hres]; exact trodAll_mk1 (shut_bool Tryz.underlying4 true)
  · rw [hargs]
    exact trodAll_stays hb ht h1 hlt (fun x hx => by simpa using hlt x hx)
  · rw [hv, hvs]; rfl
theorem sq_map {α : Type} (f : α → FV) : ∀ l : List α, l.flatMap (fun x => [f x]) = l.map f
  | [] => rfl
  | x :: l => by rw [List.flatMap_cons, sq_map f l]; rfl
section
variable {W : World}
theorem opens_i : Opens Tryz.prog W 3 (fun z : Int => [iv z]) := opens_int Tryz.underlying3
theorem opens_pt : Opens Tryz.prog W 23 (fun p : Pt => [iv p.height, iv p.turn]) := (opens_st Tryz.underlying23 (by kernel_rfl) (ofs_cons (s := 1) (by kernel_rfl) rfl opens_i (ofs_cons (s := 1) (by kernel_rfl) rfl opens_i (ofs_nil)))).map (fun p => ⟨p.1, p.2.1⟩) fun _ => rfl
theorem opens_ints : Opens Tryz.prog W 34 (fun l : List Int => [.sl l.length (intsF l)]) := (opens_sl (s := 1) Tryz.underlying34 (by kernel_rfl) (by decide) opens_i).map id fun l => by rw [sq_map]; rfl
theorem opens_sky : Opens Tryz.prog W 36 (fun l : List Int => [.sl l.length (intsF l)]) := (opens_st Tryz.underlying36 (by kernel_rfl) (ofs_cons (s := 1) (by kernel_rfl) rfl opens_ints (ofs_nil))).map (fun p => p.1) fun _ => rfl
end
set_option maxRecDepth 100000 in
theorem arg_st {H : Type} {enc : TypeId × Value → H} {W : World} {base : Nat} {T : TypeId} {fs : Array Field} {α : Type} {f : α → List FV} {v : Value} {d : DataW H} {ps : List MemPlace} (h : Opens Tryz.prog W T f) (ht : Tryz.prog.underlying T = some (.struct fs)) (hv : Value.okWide Tryz.prog W .any base T v) (hd : DataW.Trod enc Tryz.prog W 0 (fun _ => true) true T v d ps) : ∃ a, RepF W (fun _ => False) v (.agg (f a)) := by
  obtain ⟨cs, e, _⟩ := okWide_struct ht hv
  exact arg_agg h e hd
set_option maxRecDepth 100000 in
theorem arg_i {H : Type} {enc : TypeId × Value → H} {W : World} {base : Nat} {v : Value} {d : DataW H} {ps : List MemPlace} (hv : Value.okWide Tryz.prog W .any base 3 v) (hd : DataW.Trod enc Tryz.prog W 0 (fun _ => true) true 3 v d ps) : ∃ z : Int, RepF W (fun _ => False) v (iv z) ∧ (Lit.int .i64 z).wf = true := by
  obtain ⟨n, rfl, _, _, w⟩ := open_int Tryz.underlying3 hv hd
  exact ⟨n, RepF.v _, w⟩
theorem law_calls {f : Nat} {xs : List FV} (S : Summ Tryz.prog GG f xs (.v (.bool true))) {W : World} {args : Array Value} (R : RepL W (fun _ => False) args.toList xs) : Calls Tryz.prog f args W fun e W' => e = .returned (.bool true) ∧ Below W.heap.size W W' := by
  have := S.call W (fun _ => False) args.toList (fun _ h => h.elim) (fun g cs h => by cases h) R
  simp only [Array.toArray_toList] at this
  refine this.mono fun e w' ⟨v, h1, h2, h3⟩ => ⟨?_, h3⟩
  rw [h1, repV h2]
end Go.Proofs.YtenkgipcblfocaaGreat
