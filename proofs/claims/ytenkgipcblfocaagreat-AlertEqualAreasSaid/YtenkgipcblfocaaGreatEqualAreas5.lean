/- Laws on which the proofs of this seat stand. No condition. -/
import Derived.Test.YtenkgipcblfocaaGreatEqualAreas4
import Derived.DataShut
import Derived.Test.YtenkgipcblfocaaGreatRows
import Derived.WalkKit
import Derived.ProofKit
import Derived.OpenShut
import Derived.Stop.Joined
namespace Go.Proofs.YtenkgipcblfocaaGreat
open Go Go.RowKit Go.Proofs Go.Shelf Go.Ab
theorem getD_get {l : List Int} {i : Nat} (h : i < l.length) : (intsF l)[i * 1]? = some (iv (l.getD i default)) := by rw [intsF_at h, getD_at h]
set_option maxRecDepth 100000 in
theorem trimmed_s (l : List Int) (hl : l.length ≤ 1000000) : Summ Tryz.prog GG 198 [.sl l.length (intsF l)] (.sl (trimD l).length (intsF (trimD l))) := by
  refine summW Tryz.func198 rfl rfl 21 rfl (by simp) (fun M0 => ?_)
  repeat (first
    | (apply s_a TY; exact rfl)
    | apply w_seq
    | apply w_region
    | apply s_nil
    | apply t_norm
    | apply w_block)
  apply w_loop (fun n : Nat => ⟨(Ab.upd (Ab.upd (fun _ => .bot) 0 (.f (.sl l.length (intsF l)))) 3 (.f (iv ((n : Nat) : Int)))), (fun _ => none), 0⟩) (fun n => n ≤ l.length ∧ trimD l = trimD (l.take n)) (fun n => n) l.length (⟨Nat.le_refl _, by rw [List.take_length]⟩) (gh_le ⟨le_upd rfl trivial (le_upd rfl trivial (le_nil _)), le_h0 _ _⟩)
  rintro n ⟨hn, ht⟩
  have hlen : (l.take n).length = n := by rw [List.length_take]; omega
  have htk : (intsF l).take (n * 1) = intsF (l.take n) := intsF_take l n
  by_cases h0 : n = 0
  · subst h0
    rw [show trimD l = l.take 0 by rw [ht]; rfl, hlen]
    repeat (first
    | (apply s_sliceTo TY; exact rfl; exact rfl; exact rfl; exact rfl; exact rfl; omega; exact htk)
    | (apply s_a TY; exact rfl)
    | (apply s_f; exact rfl; (first | assumption | omega))
    | apply w_seq
    | apply w_region
    | apply s_nil
    | apply t_norm
    | apply t_exit
    | apply k_hit
    | apply w_exit
    | apply w_ret
    | (apply w_condF; exact rfl; exact rfl)
    | (apply s_s; exact rfl))
    exact lv_ret (ret1 rfl (res_tmp rfl))
  have hat : (intsF l)[(((n : Nat) : Int) - 1).toNat * 1]? = some (iv (l.getD (n - 1) default)) := by
    rw [show (((n : Nat) : Int) - 1).toNat = n - 1 by omega]; exact getD_get (by omega)
  have hne : intsF l ≠ [] := intsF_ne (k := n - 1) (by omega)
  have hs : l.take n = l.take (n - 1) ++ [l.getD (n - 1) default] := by
    have := List.take_succ_eq_append_getElem (show n - 1 < l.length by omega)
    rw [show n - 1 + 1 = n by omega] at this
    rw [this, getD_at (show n - 1 < l.length by omega)]
  by_cases hz : l.getD (n - 1) default = 0
  · rw [hs, hz, trimD_0] at ht
    repeat (first
    | (apply s_a TY; exact rfl)
    | (apply s_t; exact rfl; (first | assumption | omega))
    | apply w_seq
    | apply w_region
    | apply s_nil
    | apply t_norm
    | apply k_norm
    | apply w_block
    | apply w_skip
    | (apply w_condT; exact rfl; exact rfl)
    | (apply s_c TY; exact rfl; (first | omega | exact ⟨by omega, by (first | with_reducible assumption | ((with_reducible apply intsF_ne); omega) | assumption)⟩))
    | (apply s_z TY; exact rfl; (first | omega | exact ⟨by omega, by (first | with_reducible assumption | ((with_reducible apply intsF_ne); omega) | assumption)⟩))
    | (apply s_l TY; exact rfl; (first | exact rfl | with_reducible assumption | ((with_reducible apply intsF_at); omega) | assumption)))
    exact ⟨n - 1, ⟨by omega, ht⟩, by omega, gh_le ⟨le_upd (congrArg (fun z => AV.f (iv z)) (show ((n - 1 : Nat) : Int) = ((n : Nat) : Int) - 1 by omega)) trivial (le_upd rfl trivial (le_nil _)), le_h0 _ _⟩⟩
  · rw [show trimD l = l.take n by rw [ht, hs, trimD_ne hz], hlen]
    repeat (first
    | (apply s_sliceTo TY; exact rfl; exact rfl; exact rfl; exact rfl; exact rfl; omega; exact htk)
    | (apply s_a TY; exact rfl)
    | (apply s_t; exact rfl; (first | assumption | omega))
    | (apply s_f; exact rfl; (first | assumption | omega))
    | apply w_seq
    | apply w_region
    | apply s_nil
    | apply t_norm
    | apply t_exit
    | apply k_hit
    | apply w_exit
    | apply w_ret
    | (apply w_condF; exact rfl; exact rfl)
    | (apply s_c TY; exact rfl; (first | omega | exact ⟨by omega, by (first | with_reducible assumption | ((with_reducible apply intsF_ne); omega) | assumption)⟩))
    | (apply s_z TY; exact rfl; (first | omega | exact ⟨by omega, by (first | with_reducible assumption | ((with_reducible apply intsF_ne); omega) | assumption)⟩))
    | (apply s_l TY; exact rfl; (first | exact rfl | with_reducible assumption | ((with_reducible apply intsF_at); omega) | assumption)))
    exact lv_ret (ret1 rfl (res_tmp rfl))
theorem digit_s (l : List Int) (i : Nat) (_hl : l.length ≤ 1000000) (_hi : i ≤ 1000000) : Summ Tryz.prog GG 218 [.sl l.length (intsF l), iv ((i : Nat) : Int)] (iv (l.getD i default)) := by
  by_cases h : i < l.length
  · have hat := getD_get h
    have hne : intsF l ≠ [] := intsF_ne h
    refine summW Tryz.func218 rfl rfl 13 rfl (by simp) (fun M0 => ?_)
    repeat (first
    | (apply s_a TY; exact rfl)
    | (apply s_t; exact rfl; (first | assumption | omega))
    | apply w_seq
    | apply w_region
    | apply s_nil
    | apply t_norm
    | apply t_ret
    | apply w_ret
    | (apply w_condT; exact rfl; exact rfl)
    | (apply s_c TY; exact rfl; (first | omega | exact ⟨by omega, by (first | with_reducible assumption | ((with_reducible apply intsF_ne); omega) | assumption)⟩))
    | (apply s_l TY; exact rfl; (first | exact rfl | with_reducible assumption | ((with_reducible apply intsF_at); omega) | assumption)))
    exact lv_ret (ret1 rfl (res_tmp rfl))
  · rw [show l.getD i default = 0 by rw [List.getD_eq_getElem?_getD, List.getElem?_eq_none (by omega)]; rfl]
    refine summW Tryz.func218 rfl rfl 13 rfl (by simp) (fun M0 => ?_)
    repeat (first
    | (apply s_a TY; exact rfl)
    | (apply s_f; exact rfl; (first | assumption | omega))
    | apply w_seq
    | apply w_region
    | apply s_nil
    | apply t_norm
    | apply w_ret
    | apply w_skip
    | (apply w_condF; exact rfl; exact rfl))
    exact lv_ret (ret1 rfl (res_tmp rfl))
theorem dig_getD (n i : Nat) : (digN n).getD i default = ((dg n i : Nat) : Int) := by
  by_cases h : i < lenD n
  · rw [getD_at (show i < (digN n).length by rw [digN_len]; exact h)]
    exact rowD_at h
  · rw [List.getD_eq_getElem?_getD, List.getElem?_eq_none (by rw [digN_len]; omega), dg_out (by omega)]; rfl
theorem dig_s (n i : Nat) (hl : lenD n ≤ 1000000) (hi : i ≤ 1000000) : Summ Tryz.prog GG 218 [.sl (digN n).length (intsF (digN n)), iv ((i : Nat) : Int)] (iv ((dg n i : Nat) : Int)) := by
  have := digit_s (digN n) i (by rw [digN_len]; exact hl) hi
  rwa [dig_getD] at this
def cmpN (a b : Nat) : Int := if a < b then -1 else if b < a then 1 else 0
theorem cmpN_lt {a b : Nat} (h : a < b) : cmpN a b = -1 := if_pos h
theorem cmpN_gt {a b : Nat} (h : b < a) : cmpN a b = 1 := by unfold cmpN; rw [if_neg (by omega), if_pos h]
theorem cmpN_eq (a : Nat) : cmpN a a = 0 := by unfold cmpN; rw [if_neg (by omega), if_neg (by omega)]
set_option maxRecDepth 100000 in
set_option maxHeartbeats 1600000 in
theorem cmpDigits_s (a b : Nat) (_ha : lenD a ≤ 1000000) (hb : lenD b ≤ 1000000) : Summ Tryz.prog GG 199 [.sl (digN a).length (intsF (digN a)), .sl (digN b).length (intsF (digN b))] (iv (cmpN a b)) := by
  have hla := digN_len a
  have hlb := digN_len b
  by_cases h1 : lenD a < lenD b
  · rw [cmpN_lt (cmp_len h1)]
    refine summW Tryz.func199 rfl rfl 41 rfl (by simp) (fun M0 => ?_)
    repeat (first
    | (apply s_a TY; exact rfl)
    | (apply s_t; exact rfl; (first | assumption | omega))
    | (apply s_f; exact rfl; (first | assumption | omega))
    | apply w_seq
    | apply w_region
    | apply s_nil
    | apply t_norm
    | apply t_ret
    | apply w_ret
    | (apply w_condT; exact rfl; exact rfl))
    exact lv_ret (ret1 rfl (res_tmp rfl))
  by_cases h2 : lenD b < lenD a
  · rw [cmpN_gt (cmp_len h2)]
    refine summW Tryz.func199 rfl rfl 41 rfl (by simp) (fun M0 => ?_)
    repeat (first
    | (apply s_a TY; exact rfl)
    | (apply s_f; exact rfl; (first | assumption | omega))
    | apply w_seq
    | apply w_region
    | apply s_nil
    | apply t_norm
    | apply t_ret
    | apply w_ret
    | apply w_skip
    | (apply w_condT; exact rfl; exact rfl)
    | (apply w_condF; exact rfl; exact rfl))
    exact lv_ret (ret1 rfl (res_tmp rfl))
  refine summW Tryz.func199 rfl rfl 41 rfl (by simp) (fun M0 => ?_)
  repeat (first
    | (apply s_a TY; exact rfl)
    | (apply s_t; exact rfl; (first | assumption | omega))
    | apply w_seq
    | apply w_region
    | apply s_nil
    | apply t_norm
    | apply w_block
    | apply w_skip
    | (apply w_condF; exact rfl; exact rfl)
    | (apply s_c TY; exact rfl; (first | omega | exact ⟨by omega, by (first | with_reducible assumption | ((with_reducible apply intsF_ne); omega) | assumption)⟩)))
  apply w_loop (fun k : Nat => ⟨(Ab.upd (Ab.upd (Ab.upd (fun _ => .bot) 0 (.f (.sl (digN a).length (intsF (digN a))))) 1 (.f (.sl (digN b).length (intsF (digN b))))) 5 (.f (iv (((k : Nat) : Int) - 1)))), (fun _ => none), 0⟩) (fun k => k ≤ lenD a ∧ shD a k = shD b k) (fun k => k) (lenD a) (⟨Nat.le_refl _, by rw [shD_len, show lenD a = lenD b by omega, shD_len]⟩) (gh_le ⟨le_upd (congrArg (fun z => AV.f (iv z)) (show ((lenD a : Nat) : Int) - 1 = (((digN a).length : Nat) : Int) - 1 by omega)) trivial (le_upd rfl trivial (le_upd rfl trivial (le_nil _))), le_h0 _ _⟩)
  rintro k ⟨hk, hsh⟩
  by_cases h0 : k = 0
  · subst h0
    rw [shD_0, shD_0] at hsh
    subst hsh
    rw [cmpN_eq]
    repeat (first
    | (apply s_a TY; exact rfl)
    | (apply s_f; exact rfl; (first | assumption | omega))
    | apply w_seq
    | apply w_region
    | apply s_nil
    | apply t_norm
    | apply t_exit
    | apply k_hit
    | apply w_exit
    | apply w_ret
    | (apply w_condF; exact rfl; exact rfl))
    exact lv_ret (ret1 rfl (res_tmp rfl))
  obtain ⟨j, rfl⟩ : ∃ j, k = j + 1 := ⟨k - 1, by omega⟩
  have hata : (intsF (digN a))[((((j + 1 : Nat) : Nat) : Int) - 1).toNat * 1]? = some (iv ((dg a j : Nat) : Int)) := by
    rw [show ((((j + 1 : Nat) : Nat) : Int) - 1).toNat = j by omega, ← dig_getD]; exact getD_get (by omega)
  have hatb : (intsF (digN b))[((((j + 1 : Nat) : Nat) : Int) - 1).toNat * 1]? = some (iv ((dg b j : Nat) : Int)) := by
    rw [show ((((j + 1 : Nat) : Nat) : Int) - 1).toNat = j by omega, ← dig_getD]; exact getD_get (by omega)
  have hna : intsF (digN a) ≠ [] := intsF_ne (k := j) (by omega)
  have hnb : intsF (digN b) ≠ [] := intsF_ne (k := j) (by omega)
  by_cases h3 : dg a j < dg b j
  · rw [cmpN_lt (cmp_dig hsh h3)]
    repeat (first
    | (apply s_a TY; exact rfl)
    | (apply s_t; exact rfl; (first | assumption | omega))
    | apply w_seq
    | apply w_region
    | (apply w_draw (id := 8) 8 rfl (by kernel_rfl))
    | apply s_nil
    | apply t_norm
    | apply t_ret
    | apply k_ret
    | apply w_block
    | apply w_ret
    | apply w_skip
    | (apply w_condT; exact rfl; exact rfl)
    | (apply s_z TY; exact rfl; (first | omega | exact ⟨by omega, by (first | with_reducible assumption | ((with_reducible apply intsF_ne); omega) | assumption)⟩))
    | (apply s_l TY; exact rfl; (first | exact rfl | with_reducible assumption | ((with_reducible apply intsF_at); omega) | assumption)))
    exact lv_ret (ret1 rfl (res_tmp rfl))
  by_cases h4 : dg b j < dg a j
  · rw [cmpN_gt (cmp_dig hsh.symm h4)]
    repeat (first
    | (apply s_a TY; exact rfl)
    | (apply s_t; exact rfl; (first | assumption | omega))
    | (apply s_f; exact rfl; (first | assumption | omega))
    | apply w_seq
    | apply w_region
    | (apply w_draw (id := 8) 8 rfl (by kernel_rfl))
    | (apply w_draw (id := 10) 8 rfl (by kernel_rfl))
    | apply s_nil
    | apply t_norm
    | apply t_ret
    | apply k_ret
    | apply w_block
    | apply w_ret
    | apply w_skip
    | (apply w_condT; exact rfl; exact rfl)
    | (apply w_condF; exact rfl; exact rfl)
    | (apply s_z TY; exact rfl; (first | omega | exact ⟨by omega, by (first | with_reducible assumption | ((with_reducible apply intsF_ne); omega) | assumption)⟩))
    | (apply s_l TY; exact rfl; (first | exact rfl | with_reducible assumption | ((with_reducible apply intsF_at); omega) | assumption)))
    exact lv_ret (ret1 rfl (res_tmp rfl))
  repeat (first
    | (apply s_a TY; exact rfl)
    | (apply s_t; exact rfl; (first | assumption | omega))
    | (apply s_f; exact rfl; (first | assumption | omega))
    | apply w_seq
    | apply w_region
    | (apply w_draw (id := 8) 8 rfl (by kernel_rfl))
    | (apply w_draw (id := 10) 8 rfl (by kernel_rfl))
    | apply s_nil
    | apply t_norm
    | apply k_norm
    | apply w_block
    | apply w_skip
    | (apply w_condT; exact rfl; exact rfl)
    | (apply w_condF; exact rfl; exact rfl)
    | (apply s_c TY; exact rfl; (first | omega | exact ⟨by omega, by (first | with_reducible assumption | ((with_reducible apply intsF_ne); omega) | assumption)⟩))
    | (apply s_z TY; exact rfl; (first | omega | exact ⟨by omega, by (first | with_reducible assumption | ((with_reducible apply intsF_ne); omega) | assumption)⟩))
    | (apply s_l TY; exact rfl; (first | exact rfl | with_reducible assumption | ((with_reducible apply intsF_at); omega) | assumption)))
  exact ⟨j, ⟨by omega, cmp_same hsh (by omega)⟩, by omega, gh_le ⟨le_upd (congrArg (fun z => AV.f (iv z)) (show ((j : Nat) : Int) - 1 = (((j + 1 : Nat) : Nat) : Int) - 1 - 1 by omega)) trivial (le_upd rfl trivial (le_upd rfl trivial (le_nil _))), le_h0 _ _⟩⟩
set_option maxRecDepth 100000 in
set_option maxHeartbeats 1600000 in
theorem addDigits_s (a b : Nat) (ha : lenD a ≤ 100000) (hb : lenD b ≤ 100000) : Summ Tryz.prog GG 201 [.sl (digN a).length (intsF (digN a)), .sl (digN b).length (intsF (digN b))] (.sl (digN (a + b)).length (intsF (digN (a + b)))) := by
  have hla := digN_len a
  have hlb := digN_len b
  refine summW Tryz.func201 rfl rfl 42 rfl (by simp) (fun M0 => ?_)
  repeat (first
    | (apply s_a TY; exact rfl)
    | apply w_seq
    | apply w_region
    | apply s_nil
    | apply t_norm
    | apply w_block)
  apply w_gh (gh_own 5 3 1 rfl rfl)
  apply w_loop (fun i : Nat => ⟨(Ab.upd (Ab.upd (Ab.upd (Ab.upd (Ab.upd (fun _ => .bot) 0 (.f (.sl (digN a).length (intsF (digN a))))) 1 (.f (.sl (digN b).length (intsF (digN b))))) 5 (.ow 0)) 6 (.f (iv ((carD a b i : Nat) : Int)))) 7 (.f (iv ((i : Nat) : Int)))), (Ab.upd (fun _ => none) 0 (some (.row 3 1 (rowD (a + b) i).length (intsF (rowD (a + b) i))))), 1⟩) (fun i => i ≤ lenD (a + b)) (fun i => lenD (a + b) - i) 0 (Nat.zero_le _) (gh_le ⟨le_upd rfl trivial (le_upd (congrArg (fun z : Nat => AV.f (iv (z : Int))) (carD_0 a b)) trivial (le_upd rfl rfl (le_upd rfl trivial (le_upd rfl trivial (le_nil _))))), le_hupd rfl trivial (le_h0 _ _)⟩)
  intro i hi
  have hrl := rowD_len (a + b) i
  have hend := add_end a b i
  have hmax : lenD (a + b) ≤ 200001 := by
    refine Nat.le_of_not_lt fun h => ?_
    have := (add_end a b 200001).1 h
    have c := carD_le a b 200001
    have h2 := (add_end a b 200000).1 (by omega)
    have q1 := lt_lenD.1 h
    have e1 := shD_mono (show lenD a ≤ 200000 by omega) (shD_len a)
    have e2 := shD_mono (show lenD b ≤ 200000 by omega) (shD_len b)
    have h3 := shD_add a b 200000
    rw [shD_succ] at q1
    omega
  by_cases hc : i < lenD (a + b)
  · have HA := dig_s a i (by omega) (by omega)
    have HB := dig_s b i (by omega) (by omega)
    have hda := dg_lt a i
    have hdb := dg_lt b i
    have hcl := carD_le a b i
    obtain ⟨hs1, hs2⟩ := add_step a b i
    have hdg : (((dg a i : Nat) : Int) + ((dg b i : Nat) : Int) + ((carD a b i : Nat) : Int)).tmod 1000000000 = ((dg (a + b) i : Nat) : Int) := by rw [Int.tmod_eq_emod_of_nonneg (by omega)]; omega
    have hcr : ((carD a b (i + 1) : Nat) : Int) = (((dg a i : Nat) : Int) + ((dg b i : Nat) : Int) + ((carD a b i : Nat) : Int)).tdiv 1000000000 := by rw [Int.tdiv_eq_ediv_of_nonneg (by omega)]; omega
    have hrow : some (Blk.row 3 1 ((rowD (a + b) i).length + 1) (intsF (rowD (a + b) i) ++ [iv ((((dg a i : Nat) : Int) + ((dg b i : Nat) : Int) + ((carD a b i : Nat) : Int)).tmod 1000000000)])) = some (Blk.row 3 1 (rowD (a + b) (i + 1)).length (intsF (rowD (a + b) (i + 1)))) := by rw [hdg, rowD_succ, intsF_snoc, List.length_append]; rfl
    by_cases hA : i < lenD a
    · repeat (first
    | (apply s_append TY; exact rfl; exact rfl; exact rfl; exact rfl; exact rfl; exact rfl; exact rfl; exact rfl; exact rfl; (unfold maxLen; omega); omega)
    | (apply s_a TY; exact rfl)
    | (apply s_t; exact rfl; (first | assumption | omega))
    | apply w_seq
    | apply w_region
    | apply s_nil
    | apply t_norm
    | apply k_norm
    | apply w_block
    | apply w_skip
    | (apply w_condT; exact rfl; exact rfl)
    | (apply s_k (HA); exact rfl)
    | (apply s_k (HB); exact rfl)
    | (apply s_s; exact rfl)
    | (apply s_c TY; exact rfl; omega))
      exact ⟨i + 1, by omega, by omega, gh_le ⟨le_upd rfl trivial (le_upd (congrArg (fun z => AV.f (iv z)) hcr) trivial (le_upd rfl rfl (le_upd rfl trivial (le_upd rfl trivial (le_nil _))))), le_hupd hrow trivial (le_h0 _ _)⟩⟩
    by_cases hB : i < lenD b
    · repeat (first
    | (apply s_append TY; exact rfl; exact rfl; exact rfl; exact rfl; exact rfl; exact rfl; exact rfl; exact rfl; exact rfl; (unfold maxLen; omega); omega)
    | (apply s_a TY; exact rfl)
    | (apply s_t; exact rfl; (first | assumption | omega))
    | (apply s_f; exact rfl; (first | assumption | omega))
    | apply w_seq
    | apply w_region
    | apply s_nil
    | apply t_norm
    | apply k_norm
    | apply w_block
    | apply w_skip
    | (apply w_condT; exact rfl; exact rfl)
    | (apply s_k (HA); exact rfl)
    | (apply s_k (HB); exact rfl)
    | (apply s_s; exact rfl)
    | (apply s_c TY; exact rfl; omega))
      exact ⟨i + 1, by omega, by omega, gh_le ⟨le_upd rfl trivial (le_upd (congrArg (fun z => AV.f (iv z)) hcr) trivial (le_upd rfl rfl (le_upd rfl trivial (le_upd rfl trivial (le_nil _))))), le_hupd hrow trivial (le_h0 _ _)⟩⟩
    have hC : 0 < carD a b i := by omega
    repeat (first
    | (apply s_append TY; exact rfl; exact rfl; exact rfl; exact rfl; exact rfl; exact rfl; exact rfl; exact rfl; exact rfl; (unfold maxLen; omega); omega)
    | (apply s_a TY; exact rfl)
    | (apply s_t; exact rfl; (first | assumption | omega))
    | (apply s_f; exact rfl; (first | assumption | omega))
    | apply w_seq
    | apply w_region
    | apply s_nil
    | apply t_norm
    | apply k_norm
    | apply w_block
    | apply w_skip
    | (apply w_condT; exact rfl; exact rfl)
    | (apply s_k (HA); exact rfl)
    | (apply s_k (HB); exact rfl)
    | (apply s_c TY; exact rfl; omega))
    exact ⟨i + 1, by omega, by omega, gh_le ⟨le_upd rfl trivial (le_upd (congrArg (fun z => AV.f (iv z)) hcr) trivial (le_upd rfl rfl (le_upd rfl trivial (le_upd rfl trivial (le_nil _))))), le_hupd hrow trivial (le_h0 _ _)⟩⟩
  · have hie : i = lenD (a + b) := by omega
    have hC : ¬ 0 < carD a b i := by omega
    rw [show digN (a + b) = rowD (a + b) i by rw [hie]; rfl]
    repeat (first
    | (apply s_a TY; exact rfl)
    | (apply s_f; exact rfl; (first | assumption | omega))
    | apply w_seq
    | apply w_region
    | apply s_nil
    | apply t_norm
    | apply t_exit
    | apply k_hit
    | apply w_exit
    | apply w_ret
    | (apply w_condF; exact rfl; exact rfl))
    exact lv_ret (ret1 rfl (res_sees rfl (sees_row rfl)))
set_option maxRecDepth 100000 in
set_option maxHeartbeats 1600000 in
theorem subDigits_s (a b : Nat) (h : b ≤ a) (ha : lenD a ≤ 100000) : Summ Tryz.prog GG 200 [.sl (digN a).length (intsF (digN a)), .sl (digN b).length (intsF (digN b))] (.sl (digN (a - b)).length (intsF (digN (a - b)))) := by
  have hla := digN_len a
  have hlb := digN_len b
  have hlab := lenD_le h
  have HT := trimmed_s (rowD (a - b) (lenD a)) (by rw [rowD_len]; omega)
  rw [sub_end] at HT
  refine summW Tryz.func200 rfl rfl 35 rfl (by simp) (fun M0 => ?_)
  repeat (first
    | (apply s_a TY; exact rfl)
    | apply w_seq
    | apply w_region
    | apply s_nil
    | apply t_norm
    | apply w_block)
  apply w_gh (gh_own 5 3 1 rfl rfl)
  apply w_loop (fun i : Nat => ⟨(Ab.upd (Ab.upd (Ab.upd (Ab.upd (Ab.upd (fun _ => .bot) 0 (.f (.sl (digN a).length (intsF (digN a))))) 1 (.f (.sl (digN b).length (intsF (digN b))))) 5 (.ow 0)) 6 (.f (iv ((borD a b i : Nat) : Int)))) 7 (.f (iv ((i : Nat) : Int)))), (Ab.upd (fun _ => none) 0 (some (.row 3 1 (rowD (a - b) i).length (intsF (rowD (a - b) i))))), 1⟩) (fun i => i ≤ lenD a) (fun i => lenD a - i) 0 (Nat.zero_le _) (gh_le ⟨le_upd rfl trivial (le_upd (congrArg (fun z : Nat => AV.f (iv (z : Int))) (borD_0 a b)) trivial (le_upd rfl rfl (le_upd rfl trivial (le_upd rfl trivial (le_nil _))))), le_hupd rfl trivial (le_h0 _ _)⟩)
  intro i hi
  have hrl := rowD_len (a - b) i
  by_cases hc : i < lenD a
  · have HB := dig_s b i (by omega) (by omega)
    have hat : (intsF (digN a))[i * 1]? = some (iv ((dg a i : Nat) : Int)) := by rw [← dig_getD]; exact getD_get (by omega)
    have hne : intsF (digN a) ≠ [] := intsF_ne (k := i) (by omega)
    have hda := dg_lt a i
    have hdb := dg_lt b i
    have hcl := borD_le a b i
    obtain ⟨q1, q2⟩ := sub_step h i
    by_cases hn : ((dg a i : Nat) : Int) - ((dg b i : Nat) : Int) - ((borD a b i : Nat) : Int) < 0
    · have q := q1 hn
      have hrow : some (Blk.row 3 1 ((rowD (a - b) i).length + 1) (intsF (rowD (a - b) i) ++ [iv (((dg a i : Nat) : Int) - ((dg b i : Nat) : Int) - ((borD a b i : Nat) : Int) + 1000000000)])) = some (Blk.row 3 1 (rowD (a - b) (i + 1)).length (intsF (rowD (a - b) (i + 1)))) := by rw [show ((dg a i : Nat) : Int) - ((dg b i : Nat) : Int) - ((borD a b i : Nat) : Int) + 1000000000 = ((dg (a - b) i : Nat) : Int) from q.1, rowD_succ, intsF_snoc, List.length_append]; rfl
      repeat (first
    | (apply s_append TY; exact rfl; exact rfl; exact rfl; exact rfl; exact rfl; exact rfl; exact rfl; exact rfl; exact rfl; (unfold maxLen; omega); omega)
    | (apply s_a TY; exact rfl)
    | (apply s_t; exact rfl; (first | assumption | omega))
    | apply w_seq
    | apply w_region
    | (apply w_draw (id := 6) 9 rfl (by kernel_rfl))
    | apply s_nil
    | apply t_norm
    | apply k_norm
    | apply w_block
    | apply w_skip
    | (apply w_condT; exact rfl; exact rfl)
    | (apply s_k (HB); exact rfl)
    | (apply s_c TY; exact rfl; (first | omega | exact ⟨by omega, by (first | with_reducible assumption | ((with_reducible apply intsF_ne); omega) | assumption)⟩))
    | (apply s_l TY; exact rfl; (first | exact rfl | with_reducible assumption | ((with_reducible apply intsF_at); omega) | assumption)))
      exact ⟨i + 1, by omega, by omega, gh_le ⟨le_upd rfl trivial (le_upd (congrArg (fun z : Nat => AV.f (iv (z : Int))) q.2) trivial (le_upd rfl rfl (le_upd rfl trivial (le_upd rfl trivial (le_nil _))))), le_hupd hrow trivial (le_h0 _ _)⟩⟩
    · have q := q2 hn
      have hrow : some (Blk.row 3 1 ((rowD (a - b) i).length + 1) (intsF (rowD (a - b) i) ++ [iv (((dg a i : Nat) : Int) - ((dg b i : Nat) : Int) - ((borD a b i : Nat) : Int))])) = some (Blk.row 3 1 (rowD (a - b) (i + 1)).length (intsF (rowD (a - b) (i + 1)))) := by rw [show ((dg a i : Nat) : Int) - ((dg b i : Nat) : Int) - ((borD a b i : Nat) : Int) = ((dg (a - b) i : Nat) : Int) from q.1, rowD_succ, intsF_snoc, List.length_append]; rfl
      repeat (first
    | (apply s_append TY; exact rfl; exact rfl; exact rfl; exact rfl; exact rfl; exact rfl; exact rfl; exact rfl; exact rfl; (unfold maxLen; omega); omega)
    | (apply s_a TY; exact rfl)
    | (apply s_t; exact rfl; (first | assumption | omega))
    | (apply s_f; exact rfl; (first | assumption | omega))
    | apply w_seq
    | apply w_region
    | (apply w_draw (id := 6) 9 rfl (by kernel_rfl))
    | apply s_nil
    | apply t_norm
    | apply k_norm
    | apply w_block
    | apply w_skip
    | (apply w_condT; exact rfl; exact rfl)
    | (apply w_condF; exact rfl; exact rfl)
    | (apply s_k (HB); exact rfl)
    | (apply s_c TY; exact rfl; (first | omega | exact ⟨by omega, by (first | with_reducible assumption | ((with_reducible apply intsF_ne); omega) | assumption)⟩))
    | (apply s_l TY; exact rfl; (first | exact rfl | with_reducible assumption | ((with_reducible apply intsF_at); omega) | assumption)))
      exact ⟨i + 1, by omega, by omega, gh_le ⟨le_upd rfl trivial (le_upd (congrArg (fun z : Nat => AV.f (iv (z : Int))) q.2) trivial (le_upd rfl rfl (le_upd rfl trivial (le_upd rfl trivial (le_nil _))))), le_hupd hrow trivial (le_h0 _ _)⟩⟩
  · have hie : i = lenD a := by omega
    subst hie
    apply w_gh (gh_row 0 rfl)
    repeat (first
    | (apply s_a TY; exact rfl)
    | (apply s_f; exact rfl; (first | assumption | omega))
    | apply w_seq
    | apply w_region
    | apply s_nil
    | apply t_norm
    | apply t_exit
    | apply k_hit
    | apply w_exit
    | apply w_ret
    | (apply w_condF; exact rfl; exact rfl)
    | (apply s_k (HT); exact rfl))
    exact lv_ret (ret1 rfl (res_tmp rfl))
end Go.Proofs.YtenkgipcblfocaaGreat
namespace Go.Proofs.YtenkgipcblfocaaGreat
open Go Go.RowKit Go.Proofs Go.Shelf Go.Ab
def wF (x : Int) : FV := .agg [iv (sgI x), .sl (dgI x).length (intsF (dgI x))]
theorem dgI_len (x : Int) : (dgI x).length = lenD x.natAbs := digN_len _
theorem dgI_zero {x : Int} : (dgI x).length = 0 ↔ x = 0 := by rw [dgI_len, lenD_zero]; omega
theorem summ_nilw {g : Nat} {args : List FV} (S : Summ Tryz.prog GG g args (.agg [iv 0, .v (.slice none 0 0)])) : Summ Tryz.prog GG g args (wF 0) :=
  ⟨S.enters, fun w M us h1 h2 h3 => (S.call w M us h1 h2 h3).mono fun _ _ ⟨v, q1, q2, q3⟩ => ⟨v, q1, by
    cases q2 with
    | agg cs us hl ho hr =>
      refine RepF.agg _ us (by simpa using hl) ho (fun k u x a b => ?_)
      match k with
      | 0 => simp at b; subst b; exact hr 0 u _ a rfl
      | 1 => simp at b; subst b; exact rep_nilsl (hr 1 u _ a rfl)
      | k + 2 => simp at b, q3⟩⟩
set_option maxRecDepth 100000 in
theorem wideOf_s (s x : Int) (l : List Int) (hl : l.length ≤ 1000000) (ht : trimD l = dgI x) (hs : x ≠ 0 → s = sgI x) : Summ Tryz.prog GG 173 [iv s, .sl l.length (intsF l)] (wF x) := by
  have HT := trimmed_s l hl
  rw [ht] at HT
  by_cases hx : x = 0
  · have h0 := dgI_zero.2 hx
    subst hx
    refine summW Tryz.func173 rfl rfl 13 rfl (by simp) (fun M0 => ?_)
    repeat (first
    | (apply s_a TY; exact rfl)
    | (apply s_t; exact rfl; (first | assumption | omega))
    | apply w_seq
    | apply w_region
    | apply s_nil
    | apply t_norm
    | apply w_ret
    | (apply w_condT; exact rfl; exact rfl)
    | (apply s_k (HT); exact rfl)
    | (apply s_alloc TY; exact rfl; exact rfl; exact rfl)
    | (apply s_store TY; exact rfl; exact rfl; exact rfl; exact rfl; exact rfl; exact rfl))
    exact lv_ret (ret1 rfl (res_bxs (sub := [iv (sgI 0), .sl (dgI 0).length (intsF (dgI 0))]) TY rfl rfl rfl rfl rfl))
  · have h0 : (dgI x).length ≠ 0 := fun h => hx (dgI_zero.1 h)
    rw [hs hx]
    refine summW Tryz.func173 rfl rfl 13 rfl (by simp) (fun M0 => ?_)
    repeat (first
    | (apply s_a TY; exact rfl)
    | (apply s_f; exact rfl; (first | assumption | omega))
    | apply w_seq
    | apply w_region
    | apply s_nil
    | apply t_norm
    | apply w_ret
    | apply w_skip
    | (apply w_condF; exact rfl; exact rfl)
    | (apply s_k (HT); exact rfl)
    | (apply s_alloc TY; exact rfl; exact rfl; exact rfl)
    | (apply s_store TY; exact rfl; exact rfl; exact rfl; exact rfl; exact rfl; exact rfl))
    exact lv_ret (ret1 rfl (res_bxs (sub := [iv (sgI x), .sl (dgI x).length (intsF (dgI x))]) TY rfl rfl rfl rfl rfl))
theorem quo_t {x y : Operand} {T : TypeId} {a g : Int} (hg : 0 < g) (hr : -9223372036854775808 ≤ a ∧ a ≤ 9223372036854775807) : ∀ w, (do eqGuard .quo T x y (.int .i64 a) (.int .i64 g); binOp .quo T (.int .i64 a) (.int .i64 g) : Sem Value).run Tryz.prog w = .ok (.int .i64 (a.tdiv g)) w := fun w => by
  have h1 : IntKind.i64.wrap (a.tdiv g) = a.tdiv g := IntWalk.i64_quo' _ _ ⟨hr.1, hr.2, by omega⟩
  have hne : g ≠ 0 := by omega
  simp [eqGuard, binOp, Op.intDiv, hne, h1]
theorem len_lt {n k : Nat} (h : n < 1000000000 ^ k) : lenD n ≤ k := by
  refine Nat.le_of_not_lt fun hc => ?_
  have := lt_lenD.1 hc
  unfold shD at this
  rw [Nat.div_eq_of_lt h] at this
  omega
set_option maxRecDepth 100000 in
set_option maxHeartbeats 1600000 in
theorem WideOf_s (n : Int) (h : -9000000000000000000 ≤ n ∧ n ≤ 9000000000000000000) : Summ Tryz.prog GG 140 [iv n] (wF n) := by
  have hlen : lenD n.natAbs ≤ 3 := len_lt (show n.natAbs < 1000000000 ^ 3 by omega)
  by_cases hneg : n < 0
  · have hne9 : (1000000000 : Int) ≠ 0 := by decide
    refine summW Tryz.func140 rfl rfl 20 rfl (by simp) (fun M0 => ?_)
    repeat (first
    | (apply s_a TY; exact rfl)
    | (apply s_t; exact rfl; (first | assumption | omega))
    | apply w_seq
    | apply w_region
    | apply s_nil
    | apply t_norm
    | apply w_block
    | (apply w_condT; exact rfl; exact rfl)
    | (apply s_alloc TY; exact rfl; exact rfl; exact rfl))
    apply w_gh (gh_own 4 3 1 rfl rfl)
    apply w_loop (fun i : Nat => ⟨(Ab.upd (Ab.upd (Ab.upd (Ab.upd (fun _ => .bot) 0 (.f (iv (-((shD n.natAbs i : Nat) : Int))))) 2 (.bx 0 0)) 3 (.f (iv (-1)))) 4 (.ow 1)), (Ab.upd (Ab.upd (fun _ => none) 0 (some (.box [.f (iv 0), .f (.v (.slice none 0 0))]))) 1 (some (.row 3 1 (rowD n.natAbs i).length (intsF (rowD n.natAbs i))))), 2⟩) (fun i => i ≤ lenD n.natAbs) (fun i => lenD n.natAbs - i) 0 (Nat.zero_le _) (gh_le ⟨le_upd rfl rfl (le_upd rfl trivial (le_upd rfl rfl (le_upd (congrArg AV.f (show iv (-((shD n.natAbs 0 : Nat) : Int)) = iv n by rw [shD_0, show -((n.natAbs : Nat) : Int) = n by omega])) trivial (le_nil _)))), le_hupd rfl trivial (le_hupd rfl (fun y hy => by simp at hy; rcases hy with rfl | rfl <;> trivial) (le_h0 _ _))⟩)
    intro i hi
    have hrl := rowD_len n.natAbs i
    have hsb : shD n.natAbs i ≤ 9000000000000000000 := Nat.le_trans (Nat.div_le_self _ _) (by omega)
    have hend := @lt_lenD n.natAbs i
    by_cases hc : i < lenD n.natAbs
    · have hp := hend.1 hc
      have hdl := dg_lt n.natAbs i
      have hst := shD_step n.natAbs i
      have htm : ((-((shD n.natAbs i : Nat) : Int)).tmod 1000000000) = -((dg n.natAbs i : Nat) : Int) := by
        rw [Int.neg_tmod, Int.tmod_eq_emod_of_nonneg (by omega)]; omega
      have htd : (-((shD n.natAbs (i + 1) : Nat) : Int)) = (-((shD n.natAbs i : Nat) : Int)).tdiv 1000000000 := by
        rw [Int.neg_tdiv, Int.tdiv_eq_ediv_of_nonneg (by omega)]; omega
      have HZ := Size_s ((-((shD n.natAbs i : Nat) : Int)).tmod 1000000000) (by rw [htm]; omega)
      rw [show max ((-((shD n.natAbs i : Nat) : Int)).tmod 1000000000) (-((-((shD n.natAbs i : Nat) : Int)).tmod 1000000000)) = ((dg n.natAbs i : Nat) : Int) by rw [htm]; omega] at HZ
      have hrow : some (Blk.row 3 1 ((rowD n.natAbs i).length + 1) (intsF (rowD n.natAbs i) ++ [iv ((dg n.natAbs i : Nat) : Int)])) = some (Blk.row 3 1 (rowD n.natAbs (i + 1)).length (intsF (rowD n.natAbs (i + 1)))) := by rw [rowD_succ, intsF_snoc, List.length_append]; rfl
      repeat (first
    | (apply s_append TY; exact rfl; exact rfl; exact rfl; exact rfl; exact rfl; exact rfl; exact rfl; exact rfl; exact rfl; (unfold maxLen; omega); omega)
    | (apply s_remT; exact rfl; exact rfl; exact rfl; exact hne9)
    | (apply s_bind; exact rfl; exact rfl; exact rfl; exact rfl; exact rfl; exact rfl; exact quo_t (by decide) ⟨by omega, by omega⟩)
    | (apply s_a TY; exact rfl)
    | (apply s_f; exact rfl; (first | assumption | omega))
    | apply w_seq
    | apply w_region
    | apply s_nil
    | apply t_norm
    | apply k_norm
    | apply w_block
    | apply w_skip
    | (apply w_condT; exact rfl; exact rfl)
    | (apply s_k (HZ); exact rfl))
      exact ⟨i + 1, by omega, by omega, gh_le ⟨le_upd rfl rfl (le_upd rfl trivial (le_upd rfl rfl (le_upd (congrArg (fun z => AV.f (iv z)) htd) trivial (le_nil _)))), le_hupd hrow trivial (le_hupd rfl (fun y hy => by simp at hy; rcases hy with rfl | rfl <;> trivial) (le_h0 _ _))⟩⟩
    · have hie : i = lenD n.natAbs := by omega
      have hz : ¬ 0 < shD n.natAbs i := fun h => hc (hend.2 h)
      have HW := wideOf_s (-1) n (rowD n.natAbs i) (by omega) (by rw [hie]; exact trim_dig n.natAbs) (fun h => (sgI_neg hneg).symm)
      apply w_gh (gh_row 1 rfl)
      repeat (first
    | (apply s_a TY; exact rfl)
    | (apply s_t; exact rfl; (first | assumption | omega))
    | apply w_seq
    | apply w_region
    | apply s_nil
    | apply t_norm
    | apply t_exit
    | apply k_hit
    | apply w_exit
    | apply w_ret
    | (apply w_condF; exact rfl; exact rfl)
    | (apply s_k (HW); exact rfl)
    | (apply s_store TY; exact rfl; exact rfl; exact rfl; exact rfl; exact rfl; exact rfl))
      exact lv_ret (ret1 rfl (res_bxs (sub := [iv (sgI n), .sl (dgI n).length (intsF (dgI n))]) TY rfl rfl rfl rfl rfl))
  · skip
    refine summW Tryz.func140 rfl rfl 20 rfl (by simp) (fun M0 => ?_)
    repeat (first
    | (apply s_a TY; exact rfl)
    | (apply s_f; exact rfl; (first | assumption | omega))
    | apply w_seq
    | apply w_region
    | apply s_nil
    | apply t_norm
    | apply w_block
    | apply w_skip
    | (apply w_condF; exact rfl; exact rfl)
    | (apply s_alloc TY; exact rfl; exact rfl; exact rfl))
    apply w_gh (gh_own 4 3 1 rfl rfl)
    apply w_loop (fun i : Nat => ⟨(Ab.upd (Ab.upd (Ab.upd (Ab.upd (fun _ => .bot) 0 (.f (iv ((shD n.natAbs i : Nat) : Int)))) 2 (.bx 0 0)) 3 (.f (iv 1))) 4 (.ow 1)), (Ab.upd (Ab.upd (fun _ => none) 0 (some (.box [.f (iv 0), .f (.v (.slice none 0 0))]))) 1 (some (.row 3 1 (rowD n.natAbs i).length (intsF (rowD n.natAbs i))))), 2⟩) (fun i => i ≤ lenD n.natAbs) (fun i => lenD n.natAbs - i) 0 (Nat.zero_le _) (gh_le ⟨le_upd rfl rfl (le_upd rfl trivial (le_upd rfl rfl (le_upd (congrArg AV.f (show iv ((shD n.natAbs 0 : Nat) : Int) = iv n by rw [shD_0, show ((n.natAbs : Nat) : Int) = n by omega])) trivial (le_nil _)))), le_hupd rfl trivial (le_hupd rfl (fun y hy => by simp at hy; rcases hy with rfl | rfl <;> trivial) (le_h0 _ _))⟩)
    intro i hi
    have hrl := rowD_len n.natAbs i
    have hsb : shD n.natAbs i ≤ 9000000000000000000 := Nat.le_trans (Nat.div_le_self _ _) (by omega)
    have hend := @lt_lenD n.natAbs i
    by_cases hc : i < lenD n.natAbs
    · have hp := hend.1 hc
      have hdl := dg_lt n.natAbs i
      have hst := shD_step n.natAbs i
      have htm : (((shD n.natAbs i : Nat) : Int).tmod 1000000000) = ((dg n.natAbs i : Nat) : Int) := by
        rw [Int.tmod_eq_emod_of_nonneg (by omega)]; omega
      have htd : ((shD n.natAbs (i + 1) : Nat) : Int) = ((shD n.natAbs i : Nat) : Int).tdiv 1000000000 := by
        rw [Int.tdiv_eq_ediv_of_nonneg (by omega)]; omega
      have HZ := Size_s (((shD n.natAbs i : Nat) : Int).tmod 1000000000) (by rw [htm]; omega)
      rw [show max (((shD n.natAbs i : Nat) : Int).tmod 1000000000) (-(((shD n.natAbs i : Nat) : Int).tmod 1000000000)) = ((dg n.natAbs i : Nat) : Int) by rw [htm]; omega] at HZ
      have hrow : some (Blk.row 3 1 ((rowD n.natAbs i).length + 1) (intsF (rowD n.natAbs i) ++ [iv ((dg n.natAbs i : Nat) : Int)])) = some (Blk.row 3 1 (rowD n.natAbs (i + 1)).length (intsF (rowD n.natAbs (i + 1)))) := by rw [rowD_succ, intsF_snoc, List.length_append]; rfl
      repeat (first
    | (apply s_append TY; exact rfl; exact rfl; exact rfl; exact rfl; exact rfl; exact rfl; exact rfl; exact rfl; exact rfl; (unfold maxLen; omega); omega)
    | (apply s_a TY; exact rfl)
    | (apply s_f; exact rfl; (first | assumption | omega))
    | apply w_seq
    | apply w_region
    | apply s_nil
    | apply t_norm
    | apply k_norm
    | apply w_block
    | apply w_skip
    | (apply w_condT; exact rfl; exact rfl)
    | (apply s_k (HZ); exact rfl)
    | (apply s_c TY; exact rfl; omega))
      exact ⟨i + 1, by omega, by omega, gh_le ⟨le_upd rfl rfl (le_upd rfl trivial (le_upd rfl rfl (le_upd (congrArg (fun z => AV.f (iv z)) htd) trivial (le_nil _)))), le_hupd hrow trivial (le_hupd rfl (fun y hy => by simp at hy; rcases hy with rfl | rfl <;> trivial) (le_h0 _ _))⟩⟩
    · have hie : i = lenD n.natAbs := by omega
      have hz : ¬ 0 < shD n.natAbs i := fun h => hc (hend.2 h)
      have HW := wideOf_s (1) n (rowD n.natAbs i) (by omega) (by rw [hie]; exact trim_dig n.natAbs) (fun h => (sgI_pos (by omega)).symm)
      apply w_gh (gh_row 1 rfl)
      repeat (first
    | (apply s_a TY; exact rfl)
    | (apply s_t; exact rfl; (first | assumption | omega))
    | apply w_seq
    | apply w_region
    | apply s_nil
    | apply t_norm
    | apply t_exit
    | apply k_hit
    | apply w_exit
    | apply w_ret
    | (apply w_condF; exact rfl; exact rfl)
    | (apply s_k (HW); exact rfl)
    | (apply s_store TY; exact rfl; exact rfl; exact rfl; exact rfl; exact rfl; exact rfl))
      exact lv_ret (ret1 rfl (res_bxs (sub := [iv (sgI n), .sl (dgI n).length (intsF (dgI n))]) TY rfl rfl rfl rfl rfl))
theorem sgI_bd (x : Int) : -1 ≤ sgI x ∧ sgI x ≤ 1 := by unfold sgI; split <;> (try split) <;> omega
theorem sgI_zero {x : Int} : sgI x = 0 ↔ x = 0 := by unfold sgI; split <;> (try split) <;> omega
theorem WideNeg_s (x : Int) : Summ Tryz.prog GG 170 [wF x] (wF (-x)) := by
  have hb := sgI_bd x
  have e : wF (-x) = .agg [iv (-(sgI x)), .sl (dgI x).length (intsF (dgI x))] := by unfold wF; rw [sgI_op, dgI_op]
  rw [e]
  refine summW Tryz.func170 rfl rfl 9 rfl (by simp) (fun M0 => ?_)
  repeat (first
    | (apply s_boxw; exact rfl; exact rfl; exact rfl; exact rfl)
    | (apply s_a TY; exact rfl)
    | apply w_seq
    | apply w_region
    | apply s_nil
    | apply t_norm
    | apply w_ret
    | (apply s_c TY; exact rfl; omega)
    | (apply s_alloc TY; exact rfl; exact rfl; exact rfl)
    | (apply s_store TY; exact rfl; exact rfl; exact rfl; exact rfl; exact rfl; exact rfl))
  exact lv_ret (ret1 rfl (res_bxs (sub := [iv (-(sgI x)), .sl (dgI x).length (intsF (dgI x))]) TY rfl rfl rfl rfl rfl))
theorem WideSign_s (x : Int) : Summ Tryz.prog GG 145 [wF x] (iv (sgI x)) := by
  refine summW Tryz.func145 rfl rfl 5 rfl (by simp) (fun M0 => ?_)
  repeat (first
    | (apply s_boxw; exact rfl; exact rfl; exact rfl; exact rfl)
    | (apply s_a TY; exact rfl)
    | apply w_seq
    | apply w_region
    | apply s_nil
    | apply t_norm
    | apply w_ret)
  exact lv_ret (ret1 rfl (res_tmp rfl))
theorem wideSize_s (x : Int) : Summ Tryz.prog GG 197 [wF x] (wF (x.natAbs : Int)) := by
  have HN := WideNeg_s x
  by_cases h : x < 0
  · have hs := sgI_neg h
    have hlt : sgI x < 0 := by omega
    rw [show ((x.natAbs : Nat) : Int) = -x by omega]
    refine summW Tryz.func197 rfl rfl 9 rfl (by simp) (fun M0 => ?_)
    repeat (first
    | (apply s_boxw; exact rfl; exact rfl; exact rfl; exact rfl)
    | (apply s_a TY; exact rfl)
    | (apply s_t; exact rfl; (first | assumption | omega))
    | apply w_seq
    | apply w_region
    | apply s_nil
    | apply t_norm
    | apply t_ret
    | apply w_ret
    | (apply w_condT; exact rfl; exact rfl)
    | (apply s_k (HN); exact rfl)
    | (apply s_alloc TY; exact rfl; exact rfl; exact rfl)
    | (apply s_store TY; exact rfl; exact rfl; exact rfl; exact rfl; exact rfl; exact rfl))
    exact lv_ret (ret1 rfl (res_bxs (sub := [iv (sgI (-x)), .sl (dgI (-x)).length (intsF (dgI (-x)))]) TY rfl rfl rfl rfl rfl))
  · have hlt : ¬ sgI x < 0 := by unfold sgI; rw [if_neg h]; split <;> omega
    rw [show ((x.natAbs : Nat) : Int) = x by omega]
    refine summW Tryz.func197 rfl rfl 9 rfl (by simp) (fun M0 => ?_)
    repeat (first
    | (apply s_boxw; exact rfl; exact rfl; exact rfl; exact rfl)
    | (apply s_a TY; exact rfl)
    | (apply s_f; exact rfl; (first | assumption | omega))
    | apply w_seq
    | apply w_region
    | apply s_nil
    | apply t_norm
    | apply w_ret
    | apply w_skip
    | (apply w_condF; exact rfl; exact rfl)
    | (apply s_alloc TY; exact rfl; exact rfl; exact rfl)
    | (apply s_store TY; exact rfl; exact rfl; exact rfl; exact rfl; exact rfl; exact rfl))
    exact lv_ret (ret1 rfl (res_bxs (sub := [iv (sgI x), .sl (dgI x).length (intsF (dgI x))]) TY rfl rfl rfl rfl rfl))
set_option maxRecDepth 100000 in
set_option maxHeartbeats 1600000 in
theorem WideAdd_s (x y : Int) (hx : lenD x.natAbs ≤ 10000) (hy : lenD y.natAbs ≤ 10000) : Summ Tryz.prog GG 174 [wF x, wF y] (wF (x + y)) := by
  have bx := sgI_bd x
  have bY := sgI_bd y
  by_cases h0 : x = 0
  · have z0 := sgI_zero.2 h0
    rw [show x + y = y by omega]
    refine summW Tryz.func174 rfl rfl 53 rfl (by simp) (fun M0 => ?_)
    repeat (first
    | (apply s_boxw; exact rfl; exact rfl; exact rfl; exact rfl)
    | (apply s_a TY; exact rfl)
    | (apply s_t; exact rfl; (first | assumption | omega))
    | apply w_seq
    | apply w_region
    | apply s_nil
    | apply t_norm
    | apply t_ret
    | apply w_ret
    | (apply w_condT; exact rfl; exact rfl)
    | (apply s_alloc TY; exact rfl; exact rfl; exact rfl)
    | (apply s_store TY; exact rfl; exact rfl; exact rfl; exact rfl; exact rfl; exact rfl))
    exact lv_ret (ret1 rfl (res_bxs (sub := [iv (sgI y), .sl (dgI y).length (intsF (dgI y))]) TY rfl rfl rfl rfl rfl))
  have z0 : sgI x ≠ 0 := fun h => h0 (sgI_zero.1 h)
  by_cases h1 : y = 0
  · have z1 := sgI_zero.2 h1
    rw [show x + y = x by omega]
    refine summW Tryz.func174 rfl rfl 53 rfl (by simp) (fun M0 => ?_)
    repeat (first
    | (apply s_boxw; exact rfl; exact rfl; exact rfl; exact rfl)
    | (apply s_a TY; exact rfl)
    | (apply s_t; exact rfl; (first | assumption | omega))
    | (apply s_f; exact rfl; (first | assumption | omega))
    | apply w_seq
    | apply w_region
    | apply s_nil
    | apply t_norm
    | apply t_ret
    | apply w_ret
    | apply w_skip
    | (apply w_condT; exact rfl; exact rfl)
    | (apply w_condF; exact rfl; exact rfl)
    | (apply s_alloc TY; exact rfl; exact rfl; exact rfl)
    | (apply s_store TY; exact rfl; exact rfl; exact rfl; exact rfl; exact rfl; exact rfl))
    exact lv_ret (ret1 rfl (res_bxs (sub := [iv (sgI x), .sl (dgI x).length (intsF (dgI x))]) TY rfl rfl rfl rfl rfl))
  have z1 : sgI y ≠ 0 := fun h => h1 (sgI_zero.1 h)
  have hmx : lenD (x.natAbs + y.natAbs) ≤ 200001 := by
    refine Nat.le_of_not_lt fun h => ?_
    have q1 := lt_lenD.1 h
    have e1 := shD_mono (show lenD x.natAbs ≤ 200000 by omega) (shD_len x.natAbs)
    have e2 := shD_mono (show lenD y.natAbs ≤ 200000 by omega) (shD_len y.natAbs)
    have h3 := shD_add x.natAbs y.natAbs 200000
    rw [shD_succ] at q1
    omega
  by_cases hsg : sgI x = sgI y
  · have hab : (x + y).natAbs = x.natAbs + y.natAbs := by unfold sgI at hsg; split at hsg <;> split at hsg <;> (try split at hsg) <;> omega
    have hsx : sgI x = sgI (x + y) := by unfold sgI at hsg ⊢; split at hsg <;> split at hsg <;> (try split at hsg) <;> (repeat' split) <;> omega
    have HD := addDigits_s x.natAbs y.natAbs (by omega) (by omega)
    rw [show digN (x.natAbs + y.natAbs) = dgI (x + y) by unfold dgI; rw [hab]] at HD
    have HW := wideOf_s (sgI x) (x + y) (dgI (x + y)) (by rw [dgI_len, hab]; omega) (trim_dig _) (fun _ => hsx)
    refine summW Tryz.func174 rfl rfl 53 rfl (by simp) (fun M0 => ?_)
    repeat (first
    | (apply s_boxw; exact rfl; exact rfl; exact rfl; exact rfl)
    | (apply s_a TY; exact rfl)
    | (apply s_t; exact rfl; (first | assumption | omega))
    | (apply s_f; exact rfl; (first | assumption | omega))
    | apply w_seq
    | apply w_region
    | (apply w_draw (id := 6) 7 rfl (by kernel_rfl))
    | apply s_nil
    | apply t_norm
    | apply t_ret
    | apply w_ret
    | apply w_skip
    | (apply w_condT; exact rfl; exact rfl)
    | (apply w_condF; exact rfl; exact rfl)
    | (apply s_k (HD); exact rfl)
    | (apply s_k (HW); exact rfl)
    | (apply s_alloc TY; exact rfl; exact rfl; exact rfl)
    | (apply s_store TY; exact rfl; exact rfl; exact rfl; exact rfl; exact rfl; exact rfl))
    exact lv_ret (ret1 rfl (res_bxs (sub := [iv (sgI (x + y)), .sl (dgI (x + y)).length (intsF (dgI (x + y)))]) TY rfl rfl rfl rfl rfl))
  have HC := cmpDigits_s x.natAbs y.natAbs (by omega) (by omega)
  by_cases hlt : x.natAbs < y.natAbs
  · rw [cmpN_lt hlt] at HC
    have hab : (x + y).natAbs = y.natAbs - x.natAbs := by unfold sgI at hsg; split at hsg <;> split at hsg <;> (try split at hsg) <;> omega
    have hsx : sgI y = sgI (x + y) := by unfold sgI at hsg ⊢; split at hsg <;> split at hsg <;> (try split at hsg) <;> (repeat' split) <;> omega
    have hsub := lenD_le (show (x + y).natAbs ≤ y.natAbs by omega)
    have HD := subDigits_s y.natAbs x.natAbs (by omega) (by omega)
    rw [show digN (y.natAbs - x.natAbs) = dgI (x + y) by unfold dgI; rw [hab]] at HD
    have HW := wideOf_s (sgI y) (x + y) (dgI (x + y)) (by rw [dgI_len]; omega) (trim_dig _) (fun _ => hsx)
    refine summW Tryz.func174 rfl rfl 53 rfl (by simp) (fun M0 => ?_)
    repeat (first
    | (apply s_boxw; exact rfl; exact rfl; exact rfl; exact rfl)
    | (apply s_a TY; exact rfl)
    | (apply s_f; exact rfl; (first | assumption | omega))
    | apply w_seq
    | apply w_region
    | (apply w_draw (id := 12) 7 rfl (by kernel_rfl))
    | apply s_nil
    | apply t_norm
    | apply w_ret
    | apply w_skip
    | (apply w_condF; exact rfl; exact rfl)
    | (apply s_k (HC); exact rfl)
    | (apply s_k (HD); exact rfl)
    | (apply s_k (HW); exact rfl)
    | (apply s_alloc TY; exact rfl; exact rfl; exact rfl)
    | (apply s_store TY; exact rfl; exact rfl; exact rfl; exact rfl; exact rfl; exact rfl))
    exact lv_ret (ret1 rfl (res_bxs (sub := [iv (sgI (x + y)), .sl (dgI (x + y)).length (intsF (dgI (x + y)))]) TY rfl rfl rfl rfl rfl))
  by_cases hgt : y.natAbs < x.natAbs
  · rw [cmpN_gt hgt] at HC
    have hab : (x + y).natAbs = x.natAbs - y.natAbs := by unfold sgI at hsg; split at hsg <;> split at hsg <;> (try split at hsg) <;> omega
    have hsx : sgI x = sgI (x + y) := by unfold sgI at hsg ⊢; split at hsg <;> split at hsg <;> (try split at hsg) <;> (repeat' split) <;> omega
    have hsub := lenD_le (show (x + y).natAbs ≤ x.natAbs by omega)
    have HD := subDigits_s x.natAbs y.natAbs (by omega) (by omega)
    rw [show digN (x.natAbs - y.natAbs) = dgI (x + y) by unfold dgI; rw [hab]] at HD
    have HW := wideOf_s (sgI x) (x + y) (dgI (x + y)) (by rw [dgI_len]; omega) (trim_dig _) (fun _ => hsx)
    refine summW Tryz.func174 rfl rfl 53 rfl (by simp) (fun M0 => ?_)
    repeat (first
    | (apply s_boxw; exact rfl; exact rfl; exact rfl; exact rfl)
    | (apply s_a TY; exact rfl)
    | (apply s_t; exact rfl; (first | assumption | omega))
    | (apply s_f; exact rfl; (first | assumption | omega))
    | apply w_seq
    | apply w_region
    | (apply w_draw (id := 11) 7 rfl (by kernel_rfl))
    | apply s_nil
    | apply t_norm
    | apply t_ret
    | apply w_ret
    | apply w_skip
    | (apply w_condT; exact rfl; exact rfl)
    | (apply w_condF; exact rfl; exact rfl)
    | (apply s_k (HC); exact rfl)
    | (apply s_k (HD); exact rfl)
    | (apply s_k (HW); exact rfl)
    | (apply s_alloc TY; exact rfl; exact rfl; exact rfl)
    | (apply s_store TY; exact rfl; exact rfl; exact rfl; exact rfl; exact rfl; exact rfl))
    exact lv_ret (ret1 rfl (res_bxs (sub := [iv (sgI (x + y)), .sl (dgI (x + y)).length (intsF (dgI (x + y)))]) TY rfl rfl rfl rfl rfl))
  · have heq : x.natAbs = y.natAbs := by omega
    rw [show cmpN x.natAbs y.natAbs = 0 by rw [heq]; exact cmpN_eq _] at HC
    have hz : x + y = 0 := by unfold sgI at hsg; split at hsg <;> split at hsg <;> (try split at hsg) <;> omega
    rw [hz]
    apply summ_nilw
    refine summW Tryz.func174 rfl rfl 53 rfl (by simp) (fun M0 => ?_)
    repeat (first
    | (apply s_boxw; exact rfl; exact rfl; exact rfl; exact rfl)
    | (apply s_a TY; exact rfl)
    | (apply s_t; exact rfl; (first | assumption | omega))
    | (apply s_f; exact rfl; (first | assumption | omega))
    | apply w_seq
    | apply w_region
    | apply s_nil
    | apply t_norm
    | apply t_ret
    | apply w_ret
    | apply w_skip
    | (apply w_condT; exact rfl; exact rfl)
    | (apply w_condF; exact rfl; exact rfl)
    | (apply s_k (HC); exact rfl)
    | (apply s_alloc TY; exact rfl; exact rfl; exact rfl)
    | (apply s_store TY; exact rfl; exact rfl; exact rfl; exact rfl; exact rfl; exact rfl))
    exact lv_ret (ret1 rfl (res_bxs (sub := [iv 0, .v (.slice none 0 0)]) TY rfl rfl rfl rfl rfl))
set_option maxRecDepth 100000 in
theorem WideSub_s (x y : Int) (hx : lenD x.natAbs ≤ 10000) (hy : lenD y.natAbs ≤ 10000) : Summ Tryz.prog GG 175 [wF x, wF y] (wF (x - y)) := by
  have HN := WideNeg_s y
  have HA := WideAdd_s x (-y) hx (by rw [Int.natAbs_neg]; exact hy)
  rw [show x + -y = x - y by omega] at HA
  refine summW Tryz.func175 rfl rfl 9 rfl (by simp) (fun M0 => ?_)
  repeat (first
    | (apply s_boxw; exact rfl; exact rfl; exact rfl; exact rfl)
    | (apply s_a TY; exact rfl)
    | apply w_seq
    | apply w_region
    | (apply w_draw (id := 1) 3 rfl (by kernel_rfl))
    | apply s_nil
    | apply t_norm
    | apply w_ret
    | (apply s_k (HN); exact rfl)
    | (apply s_k (HA); exact rfl)
    | (apply s_alloc TY; exact rfl; exact rfl; exact rfl)
    | (apply s_store TY; exact rfl; exact rfl; exact rfl; exact rfl; exact rfl; exact rfl))
  exact lv_ret (ret1 rfl (res_bxs (sub := [iv (sgI (x - y)), .sl (dgI (x - y)).length (intsF (dgI (x - y)))]) TY rfl rfl rfl rfl rfl))
set_option maxRecDepth 100000 in
theorem WideCmp_s (x y : Int) (hx : lenD x.natAbs ≤ 10000) (hy : lenD y.natAbs ≤ 10000) : Summ Tryz.prog GG 146 [wF x, wF y] (iv (sgI (x - y))) := by
  have HA := WideSub_s x y hx hy
  refine summW Tryz.func146 rfl rfl 9 rfl (by simp) (fun M0 => ?_)
  repeat (first
    | (apply s_boxw; exact rfl; exact rfl; exact rfl; exact rfl)
    | (apply s_field TY Tryz.underlying139; exact rfl; exact rfl; exact rfl; exact rfl; exact rfl; exact rfl)
    | (apply s_a TY; exact rfl)
    | apply w_seq
    | apply w_region
    | apply s_nil
    | apply t_norm
    | apply w_ret
    | (apply s_k (HA); exact rfl))
  exact lv_ret (ret1 rfl (res_tmp rfl))
end Go.Proofs.YtenkgipcblfocaaGreat
namespace Go.Proofs.YtenkgipcblfocaaGreat
open Go Go.RowKit Go.Proofs Go.Shelf Go.Ab
theorem ints_set (L : List Int) (k : Nat) (z : Int) : setAt (intsF L) (k * 1) [iv z] = intsF (L.set k z) := by
  show (intsF L).set (k * 1) (iv z) = _
  rw [Nat.mul_one]
  unfold intsF
  rw [List.map_set]
theorem ints_init (n : Nat) : some (Blk.row 3 1 ((n : Nat) : Int).toNat (initF [.int .i64 0] (((n : Nat) : Int).toNat * 1))) = some (Blk.row 3 1 n (intsF (List.replicate n 0))) := by
  rw [initF_one, Int.toNat_natCast, Nat.mul_one]
  unfold intsF
  rw [List.map_replicate]; rfl
theorem OrdOk.len {l : List Job} {o : List Int} (q : OrdOk l o) : o.length ≤ l.length := by
  have h := pig (n := l.length) (o := o.map Int.toNat) (List.pairwise_map.2 (q.nd.imp_of_mem fun {a b} ha hb hne e => hne (by
    have h1 := q.mem a ha; have h2 := q.mem b hb; omega))) (fun z hz => by
    obtain ⟨y, hy, rfl⟩ := List.mem_map.1 hz
    have := q.mem y hy; omega)
  simpa using h
end Go.Proofs.YtenkgipcblfocaaGreat
namespace Go.Proofs.YtenkgipcblfocaaGreat
open Go Go.RowKit Go.Proofs Go.Shelf Go.Ab
theorem sgI_mul (x y : Int) : sgI x * sgI y = sgI (x * y) := by
  rcases Int.lt_trichotomy x 0 with h | h | h <;> rcases Int.lt_trichotomy y 0 with h2 | h2 | h2
  · rw [sgI_neg h, sgI_neg h2, sgI_pos (Int.mul_pos_of_neg_of_neg h h2)]; rfl
  · subst h2; rw [Int.mul_zero, sgI_0, Int.mul_zero]
  · rw [sgI_neg h, sgI_pos h2, sgI_neg (Int.mul_neg_of_neg_of_pos h h2)]; rfl
  · subst h; rw [Int.zero_mul, sgI_0, Int.zero_mul]
  · subst h; rw [Int.zero_mul, sgI_0, Int.zero_mul]
  · subst h; rw [Int.zero_mul, sgI_0, Int.zero_mul]
  · rw [sgI_pos h, sgI_neg h2, sgI_neg (Int.mul_neg_of_pos_of_neg h h2)]; rfl
  · subst h2; rw [Int.mul_zero, sgI_0, Int.mul_zero]
  · rw [sgI_pos h, sgI_pos h2, sgI_pos (Int.mul_pos h h2)]; rfl
set_option maxRecDepth 100000 in
set_option maxHeartbeats 3200000 in
theorem WideMul_s (x y : Int) (hx : lenD x.natAbs ≤ 10000) (hy : lenD y.natAbs ≤ 10000) : Summ Tryz.prog GG 147 [wF x, wF y] (wF (x * y)) := by
  have hla := dgI_len x
  have hlb := dgI_len y
  have bx := sgI_bd x
  have bY := sgI_bd y
  refine summW Tryz.func147 rfl rfl 86 rfl (by simp) (fun M0 => ?_)
  repeat (first
    | (apply s_a TY; exact rfl)
    | apply w_seq
    | apply w_region
    | apply s_nil
    | apply t_norm
    | apply w_block
    | (apply s_c TY; exact rfl; (first | omega | exact ⟨by omega, by (first | with_reducible assumption | ((with_reducible apply intsF_ne); omega) | assumption)⟩))
    | (apply s_alloc TY; exact rfl; exact rfl; exact rfl)
    | (apply s_make TY; exact rfl; exact rfl; exact rfl; exact rfl; exact rfl; exact rfl; omega; omega; omega; omega))
  apply w_loop (fun q : Nat × List Int => ⟨(Ab.upd (Ab.upd (Ab.upd (Ab.upd (Ab.upd (fun _ => .bot) 2 (.f (.pt [iv (sgI x), .sl (dgI x).length (intsF (dgI x))] 0))) 3 (.f (.pt [iv (sgI y), .sl (dgI y).length (intsF (dgI y))] 0))) 4 (.bx 0 0)) 5 (.ow 1)) 6 (.f (iv ((q.1 : Nat) : Int)))), (Ab.upd (Ab.upd (fun _ => none) 0 (some (.box [.f (iv 0), .f (.v (.slice none 0 0))]))) 1 (some (.row 3 1 ((dgI x).length + (dgI y).length + 1) (intsF q.2)))), 2⟩) (fun q => MulK x.natAbs y.natAbs q.1 0 q.2 0 ∧ q.1 ≤ lenD x.natAbs) (fun q => lenD x.natAbs - q.1) (0, List.replicate ((dgI x).length + (dgI y).length + 1) 0) (⟨by rw [hla, hlb]; exact mul_start x.natAbs y.natAbs, Nat.zero_le _⟩) (gh_le ⟨le_upd rfl trivial (le_upd rfl rfl (le_upd rfl rfl (le_upd rfl trivial (le_upd rfl trivial (le_nil _))))), le_hupd (ints_init ((dgI x).length + (dgI y).length + 1)) trivial (le_hupd rfl (fun y hy => by simp at hy; rcases hy with rfl | rfl <;> trivial) (le_h0 _ _))⟩)
  rintro ⟨i, o⟩ ⟨hm, hi⟩
  change MulK x.natAbs y.natAbs i 0 o 0 at hm
  change i ≤ lenD x.natAbs at hi
  change W _ _ _ _ (⟨(Ab.upd (Ab.upd (Ab.upd (Ab.upd (Ab.upd (fun _ => .bot) 2 (.f (.pt [iv (sgI x), .sl (dgI x).length (intsF (dgI x))] 0))) 3 (.f (.pt [iv (sgI y), .sl (dgI y).length (intsF (dgI y))] 0))) 4 (.bx 0 0)) 5 (.ow 1)) 6 (.f (iv ((i : Nat) : Int)))), (Ab.upd (Ab.upd (fun _ => none) 0 (some (.box [.f (iv 0), .f (.v (.slice none 0 0))]))) 1 (some (.row 3 1 ((dgI x).length + (dgI y).length + 1) (intsF o)))), 2⟩)
  by_cases hc : i < lenD x.natAbs
  · repeat (first
    | (apply s_a TY; exact rfl)
    | (apply s_t; exact rfl; (first | assumption | omega))
    | apply w_seq
    | apply w_region
    | apply s_nil
    | apply t_norm
    | apply w_block
    | apply w_skip
    | (apply w_condT; exact rfl; exact rfl))
    apply w_loop (fun q : Nat × List Int × Int => ⟨(Ab.upd (Ab.upd (Ab.upd (Ab.upd (Ab.upd (Ab.upd (Ab.upd (fun _ => .bot) 2 (.f (.pt [iv (sgI x), .sl (dgI x).length (intsF (dgI x))] 0))) 3 (.f (.pt [iv (sgI y), .sl (dgI y).length (intsF (dgI y))] 0))) 4 (.bx 0 0)) 5 (.ow 1)) 6 (.f (iv ((i : Nat) : Int)))) 7 (.f (iv q.2.2))) 8 (.f (iv ((q.1 : Nat) : Int)))), (Ab.upd (Ab.upd (fun _ => none) 0 (some (.box [.f (iv 0), .f (.v (.slice none 0 0))]))) 1 (some (.row 3 1 ((dgI x).length + (dgI y).length + 1) (intsF q.2.1)))), 2⟩) (fun q => MulK x.natAbs y.natAbs i q.1 q.2.1 q.2.2 ∧ q.1 ≤ lenD y.natAbs) (fun q => lenD y.natAbs - q.1) (0, o, 0) (⟨hm, Nat.zero_le _⟩) (gh_le ⟨le_upd rfl trivial (le_upd rfl trivial (le_upd rfl trivial (le_upd rfl rfl (le_upd rfl rfl (le_upd rfl trivial (le_upd rfl trivial (le_nil _))))))), le_hupd rfl trivial (le_hupd rfl (fun y hy => by simp at hy; rcases hy with rfl | rfl <;> trivial) (le_h0 _ _))⟩)
    rintro ⟨k, u, c⟩ ⟨hk, hkl⟩
    change MulK x.natAbs y.natAbs i k u c at hk
    change k ≤ lenD y.natAbs at hkl
    change W _ _ _ _ (⟨(Ab.upd (Ab.upd (Ab.upd (Ab.upd (Ab.upd (Ab.upd (Ab.upd (fun _ => .bot) 2 (.f (.pt [iv (sgI x), .sl (dgI x).length (intsF (dgI x))] 0))) 3 (.f (.pt [iv (sgI y), .sl (dgI y).length (intsF (dgI y))] 0))) 4 (.bx 0 0)) 5 (.ow 1)) 6 (.f (iv ((i : Nat) : Int)))) 7 (.f (iv c))) 8 (.f (iv ((k : Nat) : Int)))), (Ab.upd (Ab.upd (fun _ => none) 0 (some (.box [.f (iv 0), .f (.v (.slice none 0 0))]))) 1 (some (.row 3 1 ((dgI x).length + (dgI y).length + 1) (intsF u)))), 2⟩)
    have hul := hk.len
    have hcar := hk.car
    by_cases hkc : k < lenD y.natAbs
    · have hato : (intsF u)[(((i : Nat) : Int) + ((k : Nat) : Int)).toNat * 1]? = some (iv (u.getD (i + k) default)) := by
        rw [show (((i : Nat) : Int) + ((k : Nat) : Int)).toNat = i + k by omega]; exact getD_get (by omega)
      have hata : (intsF (dgI x))[i * 1]? = some (iv ((dg x.natAbs i : Nat) : Int)) := by rw [← dig_getD]; exact getD_get (by show i < (dgI x).length; omega)
      have hatb : (intsF (dgI y))[k * 1]? = some (iv ((dg y.natAbs k : Nat) : Int)) := by rw [← dig_getD]; exact getD_get (by show k < (dgI y).length; omega)
      have hnu : intsF u ≠ [] := intsF_ne (k := i + k) (by omega)
      have hna : intsF (dgI x) ≠ [] := intsF_ne (k := i) (by omega)
      have hnb : intsF (dgI y) ≠ [] := intsF_ne (k := k) (by omega)
      have hda := dg_lt x.natAbs i
      have hdb := dg_lt y.natAbs k
      have hp := mul_bd9 (x := (dg x.natAbs i : Nat)) (y := (dg y.natAbs k : Nat)) (by omega) (by omega)
      have hud := digOk_at hk.ok (j := i + k) (by omega)
      have hjk : i + k < u.length := by omega
      have hgu := getD_at hjk
      have hnext := mul_step hk hc hkc rfl
      rw [hgu] at hud hnext
      have hst : (((i : Nat) : Int) + ((k : Nat) : Int)).toNat * 1 + 1 ≤ (intsF u).length := by rw [intsF_len]; omega
      have hrow : some (Blk.row 3 1 ((dgI x).length + (dgI y).length + 1) (setAt (intsF u) ((((i : Nat) : Int) + ((k : Nat) : Int)).toNat * 1) [iv ((u[i + k] + ((dg x.natAbs i : Nat) : Int) * ((dg y.natAbs k : Nat) : Int) + c) % 1000000000)])) = some (Blk.row 3 1 ((dgI x).length + (dgI y).length + 1) (intsF (u.set (i + k) ((u[i + k] + ((dg x.natAbs i : Nat) : Int) * ((dg y.natAbs k : Nat) : Int) + c) % 1000000000)))) := by
        rw [show (((i : Nat) : Int) + ((k : Nat) : Int)).toNat = i + k by omega, ints_set]
      repeat (first
    | (apply s_storeR TY; exact rfl; exact rfl; exact rfl; exact rfl; exact rfl; exact hst)
    | (apply s_a TY; exact rfl)
    | (apply s_t; exact rfl; (first | assumption | omega))
    | apply w_seq
    | apply w_region
    | (apply w_draw (id := 9) 19 rfl (by kernel_rfl))
    | apply s_nil
    | apply t_norm
    | apply k_norm
    | apply w_block
    | apply w_skip
    | (apply w_condT; exact rfl; exact rfl)
    | (apply s_c TY; exact rfl; (first | omega | exact ⟨by omega, by (first | with_reducible assumption | ((with_reducible apply intsF_ne); omega) | assumption)⟩))
    | (apply s_l TY; exact rfl; (first | exact rfl | with_reducible assumption | ((with_reducible apply intsF_at); omega) | assumption))
    | (apply s_r TY; exact rfl; (first | exact rfl | with_reducible assumption | ((with_reducible apply intsF_at); omega) | assumption)))
      exact ⟨(k + 1, _, _), ⟨hnext, by show k + 1 ≤ _; omega⟩, by show _ - (k + 1) < _ - k; omega, gh_le ⟨le_upd rfl trivial (le_upd rfl trivial (le_upd rfl trivial (le_upd rfl rfl (le_upd rfl rfl (le_upd rfl trivial (le_upd rfl trivial (le_nil _))))))), le_hupd hrow trivial (le_hupd rfl (fun y hy => by simp at hy; rcases hy with rfl | rfl <;> trivial) (le_h0 _ _))⟩⟩
    · have hke : k = lenD y.natAbs := by omega
      subst hke
      have hj : i + (dgI y).length < u.length := by omega
      have hl2 : (((i : Nat) : Int) + (((dgI y).length : Nat) : Int)).toNat = i + (dgI y).length := by omega
      have hato : (intsF u)[(((i : Nat) : Int) + (((dgI y).length : Nat) : Int)).toNat * 1]? = some (iv u[i + (dgI y).length]) := by
        rw [hl2, ← getD_at hj]; exact getD_get hj
      have hnu : intsF u ≠ [] := intsF_ne (k := i + (dgI y).length) hj
      have hz := hk.zero (i + (dgI y).length) (by omega)
      have hgu := getD_at hj
      have hnext := mul_row hk hc
      rw [← hlb, hgu] at hnext
      rw [hgu] at hz
      have hst : (((i : Nat) : Int) + (((dgI y).length : Nat) : Int)).toNat * 1 + 1 ≤ (intsF u).length := by rw [intsF_len, hl2]; omega
      have hrow : some (Blk.row 3 1 ((dgI x).length + (dgI y).length + 1) (setAt (intsF u) ((((i : Nat) : Int) + (((dgI y).length : Nat) : Int)).toNat * 1) [iv (u[i + (dgI y).length] + c)])) = some (Blk.row 3 1 ((dgI x).length + (dgI y).length + 1) (intsF (u.set (i + (dgI y).length) (u[i + (dgI y).length] + c)))) := by
        rw [hl2, ints_set]
      repeat (first
    | (apply s_storeR TY; exact rfl; exact rfl; exact rfl; exact rfl; exact rfl; exact hst)
    | (apply s_a TY; exact rfl)
    | (apply s_f; exact rfl; (first | assumption | omega))
    | apply w_seq
    | apply w_region
    | (apply w_draw (id := 11) 16 rfl (by kernel_rfl))
    | apply s_nil
    | apply t_norm
    | apply t_exit
    | apply k_hit
    | apply k_norm
    | apply w_exit
    | (apply w_condF; exact rfl; exact rfl)
    | (apply s_c TY; exact rfl; (first | omega | exact ⟨by omega, by (first | with_reducible assumption | ((with_reducible apply intsF_ne); omega) | assumption)⟩))
    | (apply s_r TY; exact rfl; (first | exact rfl | with_reducible assumption | ((with_reducible apply intsF_at); omega) | assumption)))
      exact ⟨(i + 1, _), ⟨hnext, by show i + 1 ≤ _; omega⟩, by show _ - (i + 1) < _ - i; omega, gh_le ⟨le_upd rfl trivial (le_upd rfl rfl (le_upd rfl rfl (le_upd rfl trivial (le_upd rfl trivial (le_nil _))))), le_hupd hrow trivial (le_hupd rfl (fun y hy => by simp at hy; rcases hy with rfl | rfl <;> trivial) (le_h0 _ _))⟩⟩
  · have hie : i = lenD x.natAbs := by omega
    subst hie
    have hol := hm.len
    have hsp : -1 ≤ sgI x * sgI y ∧ sgI x * sgI y ≤ 1 := by rw [sgI_mul]; exact sgI_bd _
    have HW := wideOf_s (sgI x * sgI y) (x * y) o (by omega) (by rw [mul_end hm]; unfold dgI; rw [Int.natAbs_mul]) (fun _ => sgI_mul x y)
    have hrn : some (Blk.row 3 1 ((dgI x).length + (dgI y).length + 1) (intsF o)) = some (Blk.row 3 1 o.length (intsF o)) := by rw [hol, ← hla, ← hlb]
    apply w_gh (gh_row 1 hrn)
    repeat (first
    | (apply s_a TY; exact rfl)
    | (apply s_f; exact rfl; (first | assumption | omega))
    | apply w_seq
    | apply w_region
    | apply s_nil
    | apply t_norm
    | apply t_exit
    | apply k_hit
    | apply w_exit
    | apply w_ret
    | (apply w_condF; exact rfl; exact rfl)
    | (apply s_k (HW); exact rfl)
    | (apply s_c TY; exact rfl; (first | omega | exact ⟨by omega, by (first | with_reducible assumption | ((with_reducible apply intsF_ne); omega) | assumption)⟩))
    | (apply s_store TY; exact rfl; exact rfl; exact rfl; exact rfl; exact rfl; exact rfl))
    exact lv_ret (ret1 rfl (res_bxs (sub := [iv (sgI (x * y)), .sl (dgI (x * y)).length (intsF (dgI (x * y)))]) TY rfl rfl rfl rfl rfl))
end Go.Proofs.YtenkgipcblfocaaGreat
namespace Go.Proofs.YtenkgipcblfocaaGreat
open Go Go.RowKit Go.Proofs Go.Shelf Go.Ab
def qK (a b n : Nat) : List Int := (List.range (lenD a)).map fun j => if j < n then 0 else ((dg (a / b) j : Nat) : Int)
theorem qK_len (a b n : Nat) : (qK a b n).length = lenD a := by simp [qK]
theorem qK_start (a b : Nat) : qK a b (lenD a) = List.replicate (lenD a) 0 := by
  refine List.ext_getElem (by simp [qK]) fun j h1 h2 => ?_
  simp [qK] at h1 ⊢
  exact fun h => absurd h1 (by omega)
theorem qK_end (a b : Nat) : qK a b 0 = rowD (a / b) (lenD a) := by simp [qK, rowD]
theorem qK_set {a b i : Nat} (_h : i < lenD a) : (qK a b (i + 1)).set i ((dg (a / b) i : Nat) : Int) = qK a b i := by
  refine List.ext_getElem (by simp [qK]) fun j h1 h2 => ?_
  simp [qK] at h1
  rw [List.getElem_set]
  simp only [qK, List.getElem_map, List.getElem_range]
  by_cases e : i = j
  · subst e; rw [if_pos rfl, if_neg (by omega)]
  · rw [if_neg e]
    by_cases c : j < i
    · rw [if_pos (by omega), if_pos c]
    · rw [if_neg (by omega), if_neg c]
theorem wF_nat (n : Nat) : wF (n : Int) = .agg [iv (sgI (n : Int)), .sl (digN n).length (intsF (digN n))] := rfl
theorem intsF_c1 (d : Int) (l : List Int) : intsF (d :: l) = [iv d] ++ intsF l := rfl
theorem trimD_le (l : List Int) : (trimD l).length ≤ l.length := by
  induction l with
  | nil => exact Nat.le_refl _
  | cons d l ih =>
    rw [trimD]
    split
    · simp
    · simpa using ih
theorem lt_pow (n : Nat) : n < 1000000000 ^ lenD n := by
  have h := shD_len n
  unfold shD at h
  have hp : 0 < 1000000000 ^ lenD n := Nat.pow_pos (by decide)
  rcases Nat.div_eq_zero_iff.1 h with h | h
  · omega
  · exact h
theorem len_mul1 {b m : Nat} (h : m ≤ 999999999) : lenD (b * m) ≤ lenD b + 1 := len_lt (by
  rw [Nat.pow_succ]
  have h1 := lt_pow b
  have h2 : b * m ≤ b * 999999999 := Nat.mul_le_mul_left b h
  have h3 : b * 999999999 ≤ 1000000000 ^ lenD b * 999999999 := Nat.mul_le_mul_right _ (by omega)
  have h4 : 0 < 1000000000 ^ lenD b := Nat.pow_pos (by decide)
  omega)
set_option maxRecDepth 100000 in
set_option maxHeartbeats 6400000 in
theorem WideFloor_s (x : Int) (b : Nat) (hb : 0 < b) (hx : lenD x.natAbs ≤ 1000) (hy : lenD b ≤ 1000) : Summ Tryz.prog GG 172 [wF x, wF (b : Int)] (wF (x / (b : Int))) := by
  have hla := dgI_len x
  have bx := sgI_bd x
  by_cases h0 : x = 0
  · subst h0
    have s0 : sgI 0 = 0 := rfl
    rw [Int.zero_ediv]
    apply summ_nilw
    refine summW Tryz.func172 rfl rfl 88 rfl (by simp) (fun M0 => ?_)
    repeat (first
    | (apply s_a TY; exact rfl)
    | (apply s_t; exact rfl; (first | assumption | omega))
    | apply w_seq
    | apply w_region
    | apply s_nil
    | apply t_norm
    | apply t_ret
    | apply w_ret
    | (apply w_condT; exact rfl; exact rfl)
    | (apply s_alloc TY; exact rfl; exact rfl; exact rfl)
    | (apply s_store TY; exact rfl; exact rfl; exact rfl; exact rfl; exact rfl; exact rfl))
    exact lv_ret (ret1 rfl (res_bxs (sub := [iv 0, .v (.slice none 0 0)]) TY rfl rfl rfl rfl rfl))
  have z0 : sgI x ≠ 0 := fun h => h0 (sgI_zero.1 h)
  have HB1 := wideOf_s 1 (b : Int) (dgI (b : Int)) (by rw [dgI_len]; exact Nat.le_trans hy (by decide)) (trim_dig _) (fun _ => (sgI_pos (by omega)).symm)
  refine summW Tryz.func172 rfl rfl 88 rfl (by simp) (fun M0 => ?_)
  repeat (first
    | (apply s_a TY; exact rfl)
    | (apply s_f; exact rfl; (first | assumption | omega))
    | apply w_seq
    | apply w_region
    | apply s_nil
    | apply t_norm
    | apply w_block
    | apply w_skip
    | (apply w_condF; exact rfl; exact rfl)
    | (apply s_c TY; exact rfl; (first | omega | exact ⟨by omega, by (first | with_reducible assumption | ((with_reducible apply intsF_ne); omega) | assumption)⟩))
    | (apply s_alloc TY; exact rfl; exact rfl; exact rfl)
    | (apply s_make TY; exact rfl; exact rfl; exact rfl; exact rfl; exact rfl; exact rfl; omega; omega; omega; omega))
  apply w_loop (fun n : Nat => ⟨(Ab.upd (Ab.upd (Ab.upd (Ab.upd (Ab.upd (Ab.upd (fun _ => .bot) 2 (.f (.pt [iv (sgI x), .sl (dgI x).length (intsF (dgI x))] 0))) 3 (.f (.pt [iv (sgI (b : Int)), .sl (dgI (b : Int)).length (intsF (dgI (b : Int)))] 0))) 4 (.bx 0 0)) 5 (.ow 1)) 6 (.f (.sl (digN (remD x.natAbs b n)).length (intsF (digN (remD x.natAbs b n)))))) 7 (.f (iv (((n : Nat) : Int) - 1)))), (Ab.upd (Ab.upd (fun _ => none) 0 (some (.box [.f (iv 0), .f (.v (.slice none 0 0))]))) 1 (some (.row 3 1 (dgI x).length (intsF (qK x.natAbs b n))))), 2⟩) (fun n => n ≤ lenD x.natAbs) (fun n => n) (lenD x.natAbs) (Nat.le_refl _) (gh_le ⟨le_upd (congrArg (fun z => AV.f (iv z)) (show ((lenD x.natAbs : Nat) : Int) - 1 = (((dgI x).length : Nat) : Int) - 1 by omega)) trivial (le_upd (show AV.f (.sl (digN (remD x.natAbs b (lenD x.natAbs))).length (intsF (digN (remD x.natAbs b (lenD x.natAbs))))) = AV.f (.sl 0 []) by rw [rem_len]; rfl) trivial (le_upd rfl rfl (le_upd rfl rfl (le_upd rfl trivial (le_upd rfl trivial (le_nil _)))))), le_hupd ((ints_init (dgI x).length).trans (by rw [qK_start, hla])) trivial (le_hupd rfl (fun y hy => by simp at hy; rcases hy with rfl | rfl <;> trivial) (le_h0 _ _))⟩)
  intro n hn
  cases n with
  | succ i =>
    have hil : i < lenD x.natAbs := hn
    obtain ⟨q1, q2, q3⟩ := quo_step (a := x.natAbs) hb i
    have hata : (intsF (dgI x))[((((i + 1 : Nat) : Nat) : Int) - 1).toNat * 1]? = some (iv ((dg x.natAbs i : Nat) : Int)) := by
      rw [show ((((i + 1 : Nat) : Nat) : Int) - 1).toNat = i by omega, ← dig_getD]; exact getD_get (by show i < (dgI x).length; omega)
    have hna : intsF (dgI x) ≠ [] := intsF_ne (k := i) (by omega)
    have hlen : (intsF (digN (remD x.natAbs b (i + 1)))).length = (digN (remD x.natAbs b (i + 1))).length * 1 := intsF_len _
    have hrl : (digN (remD x.natAbs b (i + 1))).length ≤ 1000 := by rw [digN_len]; exact Nat.le_trans (lenD_le (Nat.le_of_lt (Nat.mod_lt _ hb))) hy
    have HT := trimmed_s (((dg x.natAbs i : Nat) : Int) :: digN (remD x.natAbs b (i + 1))) (by rw [List.length_cons]; omega)
    have hvl : lenD (nxtD x.natAbs b i) ≤ 1001 := by
      have h := trimD_le (((dg x.natAbs i : Nat) : Int) :: digN (remD x.natAbs b (i + 1)))
      rw [nxt_trim, digN_len, List.length_cons] at h
      omega
    rw [nxt_trim, List.length_cons, Nat.add_comm _ 1, intsF_c1] at HT
    repeat (first
    | (apply s_bslicew TY (len := 1); exact rfl; exact rfl; exact rfl; exact rfl; exact rfl; exact rfl; exact rfl; exact rfl; exact rfl)
    | (apply s_append TY; (first | exact rfl | exact hlen); (first | exact rfl | exact hlen); (first | exact rfl | exact hlen); (first | exact rfl | exact hlen); (first | exact rfl | exact hlen); (first | exact rfl | exact hlen); (first | exact rfl | exact hlen); (first | exact rfl | exact hlen); (first | exact rfl | exact hlen); (unfold maxLen; omega); omega)
    | (apply s_a TY; exact rfl)
    | (apply s_t; exact rfl; (first | assumption | omega))
    | apply w_seq
    | apply w_region
    | apply s_nil
    | apply t_norm
    | apply w_block
    | apply w_skip
    | (apply w_condT; exact rfl; exact rfl)
    | (apply s_z TY; exact rfl; (first | omega | exact ⟨by omega, by (first | with_reducible assumption | ((with_reducible apply intsF_ne); omega) | assumption)⟩))
    | (apply s_l TY; exact rfl; (first | exact rfl | with_reducible assumption | ((with_reducible apply intsF_at); omega) | assumption)))
    refine s_ghost rfl (gh_row 2 (e := 3) (sz := 1) (n := 1 + (digN (remD x.natAbs b (i + 1))).length) (cs := [iv ((dg x.natAbs i : Nat) : Int)] ++ intsF (digN (remD x.natAbs b (i + 1)))) rfl) ?_
    repeat (first
    | (apply s_a TY; exact rfl)
    | apply w_seq
    | apply w_region
    | apply s_nil
    | apply t_norm
    | apply w_block
    | (apply s_k (HT); exact rfl))
    obtain ⟨hi0, hhi0⟩ : ∃ h : Nat, h = 999999999 := ⟨_, rfl⟩
    apply w_loop (fun q : Nat × Nat => ⟨(Ab.upd (Ab.upd (Ab.upd (Ab.upd (Ab.upd (Ab.upd (Ab.upd (Ab.upd (fun _ => .bot) 2 (.f (.pt [iv (sgI x), .sl (dgI x).length (intsF (dgI x))] 0))) 3 (.f (.pt [iv (sgI (b : Int)), .sl (dgI (b : Int)).length (intsF (dgI (b : Int)))] 0))) 4 (.bx 0 0)) 5 (.ow 1)) 6 (.f (.sl (digN (nxtD x.natAbs b i)).length (intsF (digN (nxtD x.natAbs b i)))))) 7 (.f (iv ((((i + 1) : Nat) : Int) - 1)))) 8 (.f (iv ((q.1 : Nat) : Int)))) 9 (.f (iv ((q.2 : Nat) : Int)))), (Ab.upd (Ab.upd (fun _ => none) 0 (some (.box [.f (iv 0), .f (.v (.slice none 0 0))]))) 1 (some (.row 3 1 (dgI x).length (intsF (qK x.natAbs b (i + 1)))))), 2⟩) (fun q => b * q.1 ≤ (nxtD x.natAbs b i) ∧ (nxtD x.natAbs b i) < b * (q.2 + 1) ∧ q.1 ≤ q.2 ∧ q.2 ≤ 999999999) (fun q => q.2 - q.1) (0, hi0) (⟨by rw [Nat.mul_zero]; exact Nat.zero_le _, by show (nxtD x.natAbs b i) < b * (hi0 + 1); rw [hhi0]; exact q3, Nat.zero_le _, by show hi0 ≤ 999999999; omega⟩) (gh_le ⟨le_upd (show AV.f (iv ((hi0 : Nat) : Int)) = AV.f (iv 999999999) by rw [hhi0]; rfl) trivial (le_upd rfl trivial (le_upd rfl trivial (le_upd rfl trivial (le_upd rfl rfl (le_upd rfl rfl (le_upd rfl trivial (le_upd rfl trivial (le_nil _)))))))), le_hupd rfl trivial (le_hupd rfl (fun y hy => by simp at hy; rcases hy with rfl | rfl <;> trivial) (le_h0 _ _))⟩)
    rintro ⟨lo, hi⟩ ⟨g1, g2, g3, g4⟩
    change b * lo ≤ (nxtD x.natAbs b i) at g1
    change (nxtD x.natAbs b i) < b * (hi + 1) at g2
    change lo ≤ hi at g3
    change hi ≤ 999999999 at g4
    change W _ _ _ _ (⟨(Ab.upd (Ab.upd (Ab.upd (Ab.upd (Ab.upd (Ab.upd (Ab.upd (Ab.upd (fun _ => .bot) 2 (.f (.pt [iv (sgI x), .sl (dgI x).length (intsF (dgI x))] 0))) 3 (.f (.pt [iv (sgI (b : Int)), .sl (dgI (b : Int)).length (intsF (dgI (b : Int)))] 0))) 4 (.bx 0 0)) 5 (.ow 1)) 6 (.f (.sl (digN (nxtD x.natAbs b i)).length (intsF (digN (nxtD x.natAbs b i)))))) 7 (.f (iv ((((i + 1) : Nat) : Int) - 1)))) 8 (.f (iv ((lo : Nat) : Int)))) 9 (.f (iv ((hi : Nat) : Int)))), (Ab.upd (Ab.upd (fun _ => none) 0 (some (.box [.f (iv 0), .f (.v (.slice none 0 0))]))) 1 (some (.row 3 1 (dgI x).length (intsF (qK x.natAbs b (i + 1)))))), 2⟩)
    by_cases hlh : lo < hi
    · obtain ⟨mm, hmm⟩ : ∃ mm : Nat, mm = (lo + hi + 1) / 2 := ⟨_, rfl⟩
      have hm1 : (((lo : Nat) : Int) + ((hi : Nat) : Int) + 1) / 2 = ((mm : Nat) : Int) := by omega
      have HO := WideOf_s ((mm : Nat) : Int) (by omega)
      have HM := WideMul_s (b : Int) ((mm : Nat) : Int) (Nat.le_trans hy (by decide)) (Nat.le_trans (show lenD mm ≤ 1 from len_lt (by omega)) (by decide))
      rw [← Int.natCast_mul, wF_nat] at HM
      have HC := cmpDigits_s (b * mm) (nxtD x.natAbs b i) (Nat.le_trans (len_mul1 (by omega)) (by omega)) (by omega)
      rw [← hm1] at HO HM
      by_cases hle : b * mm ≤ (nxtD x.natAbs b i)
      · have hcm : cmpN (b * mm) (nxtD x.natAbs b i) ≤ 0 := by unfold cmpN; split <;> (try split) <;> omega
        repeat (first
    | (apply s_field TY Tryz.underlying139; exact rfl; exact rfl; exact rfl; exact rfl; exact rfl; exact rfl)
    | (apply s_a TY; exact rfl)
    | (apply s_t; exact rfl; (first | assumption | omega))
    | apply w_seq
    | apply w_region
    | apply s_nil
    | apply t_norm
    | apply k_norm
    | apply w_block
    | apply w_skip
    | (apply w_condT; exact rfl; exact rfl)
    | (apply s_k (HB1); exact rfl)
    | (apply s_k (HO); exact rfl)
    | (apply s_k (HM); exact rfl)
    | (apply s_k (HC); exact rfl)
    | (apply s_c TY; exact rfl; (first | omega | exact ⟨by omega, by (first | with_reducible assumption | ((with_reducible apply intsF_ne); omega) | assumption)⟩)))
        exact ⟨(mm, hi), ⟨hle, g2, by show mm ≤ hi; omega, g4⟩, by show hi - mm < hi - lo; omega, gh_le ⟨le_upd rfl trivial (le_upd (congrArg (fun z => AV.f (iv z)) hm1.symm) trivial (le_upd rfl trivial (le_upd rfl trivial (le_upd rfl rfl (le_upd rfl rfl (le_upd rfl trivial (le_upd rfl trivial (le_nil _)))))))), le_hupd rfl trivial (le_hupd rfl (fun y hy => by simp at hy; rcases hy with rfl | rfl <;> trivial) (le_h0 _ _))⟩⟩
      · have hcm : ¬ cmpN (b * mm) (nxtD x.natAbs b i) ≤ 0 := by unfold cmpN; rw [if_neg (by omega), if_pos (by omega)]; decide
        repeat (first
    | (apply s_field TY Tryz.underlying139; exact rfl; exact rfl; exact rfl; exact rfl; exact rfl; exact rfl)
    | (apply s_a TY; exact rfl)
    | (apply s_t; exact rfl; (first | assumption | omega))
    | (apply s_f; exact rfl; (first | assumption | omega))
    | apply w_seq
    | apply w_region
    | apply s_nil
    | apply t_norm
    | apply k_norm
    | apply w_block
    | apply w_skip
    | (apply w_condT; exact rfl; exact rfl)
    | (apply w_condF; exact rfl; exact rfl)
    | (apply s_k (HB1); exact rfl)
    | (apply s_k (HO); exact rfl)
    | (apply s_k (HM); exact rfl)
    | (apply s_k (HC); exact rfl)
    | (apply s_c TY; exact rfl; (first | omega | exact ⟨by omega, by (first | with_reducible assumption | ((with_reducible apply intsF_ne); omega) | assumption)⟩)))
        exact ⟨(lo, mm - 1), ⟨g1, by show (nxtD x.natAbs b i) < b * (mm - 1 + 1); rw [show mm - 1 + 1 = mm by omega]; omega, by show lo ≤ mm - 1; omega, by show mm - 1 ≤ 999999999; omega⟩, by show mm - 1 - lo < hi - lo; omega, gh_le ⟨le_upd (congrArg (fun z => AV.f (iv z)) (show ((mm - 1 : Nat) : Int) = (((lo : Nat) : Int) + ((hi : Nat) : Int) + 1) / 2 - 1 by omega)) trivial (le_upd rfl trivial (le_upd rfl trivial (le_upd rfl trivial (le_upd rfl rfl (le_upd rfl rfl (le_upd rfl trivial (le_upd rfl trivial (le_nil _)))))))), le_hupd rfl trivial (le_hupd rfl (fun y hy => by simp at hy; rcases hy with rfl | rfl <;> trivial) (le_h0 _ _))⟩⟩
    · have hee : lo = hi := by omega
      subst hee
      have hlo := quo_found g1 g2
      rw [q1] at hlo
      have HO := WideOf_s ((lo : Nat) : Int) (by omega)
      have HM := WideMul_s (b : Int) ((lo : Nat) : Int) (Nat.le_trans hy (by decide)) (Nat.le_trans (show lenD lo ≤ 1 from len_lt (by omega)) (by decide))
      rw [← Int.natCast_mul, wF_nat] at HM
      have HD := subDigits_s (nxtD x.natAbs b i) (b * lo) g1 (by omega)
      rw [show (nxtD x.natAbs b i) - b * lo = remD x.natAbs b i by rw [hlo, ← q1, ← q2]; have := Nat.div_add_mod (nxtD x.natAbs b i) b; omega] at HD
      have hst : ((((i + 1 : Nat) : Nat) : Int) - 1).toNat * 1 + 1 ≤ (intsF (qK x.natAbs b (i + 1))).length := by rw [intsF_len, qK_len]; omega
      have hnq : intsF (qK x.natAbs b (i + 1)) ≠ [] := intsF_ne (k := i) (by rw [qK_len]; omega)
      have hql : (intsF (qK x.natAbs b (i + 1))).length = (dgI x).length := by rw [intsF_len, qK_len]; omega
      have hrow : some (Blk.row 3 1 (dgI x).length (setAt (intsF (qK x.natAbs b (i + 1))) (((((i + 1 : Nat) : Nat) : Int) - 1).toNat * 1) [iv ((lo : Nat) : Int)])) = some (Blk.row 3 1 (dgI x).length (intsF (qK x.natAbs b i))) := by
        rw [show ((((i + 1 : Nat) : Nat) : Int) - 1).toNat = i by omega, ints_set, hlo, qK_set hil]
      repeat (first
    | (apply s_field TY Tryz.underlying139; exact rfl; exact rfl; exact rfl; exact rfl; exact rfl; exact rfl)
    | (apply s_storeR TY; exact rfl; exact rfl; exact rfl; exact rfl; exact rfl; exact hst)
    | (apply s_a TY; exact rfl)
    | (apply s_f; exact rfl; (first | assumption | omega))
    | apply w_seq
    | apply w_region
    | apply s_nil
    | apply t_norm
    | apply t_exit
    | apply k_hit
    | apply k_norm
    | apply w_exit
    | (apply w_condF; exact rfl; exact rfl)
    | (apply s_k (HB1); exact rfl)
    | (apply s_k (HO); exact rfl)
    | (apply s_k (HM); exact rfl)
    | (apply s_k (HD); exact rfl)
    | (apply s_c TY; exact rfl; (first | omega | exact ⟨by omega, by (first | with_reducible assumption | ((with_reducible apply intsF_ne); omega) | assumption)⟩))
    | (apply s_z TY; exact rfl; (first | omega | exact ⟨by omega, by (first | with_reducible assumption | ((with_reducible apply intsF_ne); omega) | assumption)⟩)))
      exact ⟨i, by show i ≤ _; omega, by show i < i + 1; omega, gh_le ⟨le_upd (congrArg (fun z => AV.f (iv z)) (show ((i : Nat) : Int) - 1 = (((i + 1 : Nat) : Nat) : Int) - 1 - 1 by omega)) trivial (le_upd rfl trivial (le_upd rfl rfl (le_upd rfl rfl (le_upd rfl trivial (le_upd rfl trivial (le_nil _)))))), le_hupd hrow trivial (le_hupd rfl (fun y hy => by simp at hy; rcases hy with rfl | rfl <;> trivial) (le_h0 _ _))⟩⟩
  | zero =>
    have hrn : some (Blk.row 3 1 (dgI x).length (intsF (qK x.natAbs b 0))) = some (Blk.row 3 1 (rowD (x.natAbs / b) (lenD x.natAbs)).length (intsF (rowD (x.natAbs / b) (lenD x.natAbs)))) := by rw [qK_end, rowD_len, hla]
    have hleft := digN_len (remD x.natAbs b 0)
    have hlz := lenD_zero (n := remD x.natAbs b 0)
    rw [rem_0] at hleft hlz
    have hql : lenD (x.natAbs / b) ≤ 1000 := Nat.le_trans (lenD_le (Nat.div_le_self _ _)) hx
    rw [rem_0]
    have hq0 : 0 ≤ ((x.natAbs / b : Nat) : Int) := Int.natCast_nonneg _
    obtain ⟨qq, hqq⟩ : ∃ qq : Nat, qq = x.natAbs / b := ⟨_, rfl⟩
    by_cases hneg : x < 0
    · have hsn := sgI_neg hneg
      have hfl := floor_neg (n := x.natAbs) hb
      rw [show -((x.natAbs : Nat) : Int) = x by omega] at hfl
      have HW := wideOf_s (sgI x) (-((x.natAbs / b : Nat) : Int)) (rowD (x.natAbs / b) (lenD x.natAbs)) (by rw [rowD_len]; omega) (by rw [quo_trim hb, dgI_op]; rfl) (fun h => by rw [← hqq] at h ⊢; rw [hsn, sgI_neg (by omega)])
      by_cases hz : x.natAbs % b = 0
      · have hl0 : (digN (x.natAbs % b)).length = 0 := by rw [hleft]; exact hlz.2 hz
        rw [if_pos hz] at hfl
        rw [hfl]
        apply w_gh (gh_row 1 hrn)
        repeat (first
    | (apply s_a TY; exact rfl)
    | (apply s_t; exact rfl; (first | assumption | omega))
    | (apply s_f; exact rfl; (first | assumption | omega))
    | apply w_seq
    | apply w_region
    | apply s_nil
    | apply t_norm
    | apply t_exit
    | apply k_hit
    | apply w_exit
    | apply w_ret
    | apply w_skip
    | (apply w_condF; exact rfl; exact rfl)
    | (apply s_k (HW); exact rfl)
    | (apply s_alloc TY; exact rfl; exact rfl; exact rfl)
    | (apply s_store TY; exact rfl; exact rfl; exact rfl; exact rfl; exact rfl; exact rfl))
        exact lv_ret (ret1 rfl (res_bxs (sub := [iv (sgI (-((x.natAbs / b : Nat) : Int))), .sl (dgI (-((x.natAbs / b : Nat) : Int))).length (intsF (dgI (-((x.natAbs / b : Nat) : Int))))]) TY rfl rfl rfl rfl rfl))
      · have hl0 : (digN (x.natAbs % b)).length ≠ 0 := fun h => hz (hlz.1 (hleft.symm.trans h))
        rw [if_neg hz] at hfl
        have HO := WideOf_s 1 (by decide)
        have HS := WideSub_s (-((x.natAbs / b : Nat) : Int)) 1 (by rw [Int.natAbs_neg]; exact Nat.le_trans hql (by decide)) (Nat.le_trans (show lenD (1 : Int).natAbs ≤ 1 from len_lt (by decide)) (by decide))
        rw [hfl]
        apply w_gh (gh_row 1 hrn)
        repeat (first
    | (apply s_a TY; exact rfl)
    | (apply s_t; exact rfl; (first | assumption | omega))
    | (apply s_f; exact rfl; (first | assumption | omega))
    | apply w_seq
    | apply w_region
    | (apply w_draw (id := 18) 2 rfl (by kernel_rfl))
    | apply s_nil
    | apply t_norm
    | apply t_exit
    | apply k_hit
    | apply w_exit
    | apply w_ret
    | (apply w_condT; exact rfl; exact rfl)
    | (apply w_condF; exact rfl; exact rfl)
    | (apply s_k (HW); exact rfl)
    | (apply s_k (HO); exact rfl)
    | (apply s_k (HS); exact rfl)
    | (apply s_alloc TY; exact rfl; exact rfl; exact rfl)
    | (apply s_store TY; exact rfl; exact rfl; exact rfl; exact rfl; exact rfl; exact rfl))
        exact lv_ret (ret1 rfl (res_bxs (sub := [iv (sgI (-((x.natAbs / b : Nat) : Int) - 1)), .sl (dgI (-((x.natAbs / b : Nat) : Int) - 1)).length (intsF (dgI (-((x.natAbs / b : Nat) : Int) - 1)))]) TY rfl rfl rfl rfl rfl))
    · have hsn : ¬ sgI x < 0 := by rw [sgI_pos (by omega)]; decide
      have HW := wideOf_s (sgI x) ((x.natAbs / b : Nat) : Int) (rowD (x.natAbs / b) (lenD x.natAbs)) (by rw [rowD_len]; omega) (by rw [quo_trim hb]; rfl) (fun h => by rw [← hqq] at h ⊢; rw [sgI_pos (show 0 < x by omega), sgI_pos (by omega)])
      rw [show x / (b : Int) = ((x.natAbs / b : Nat) : Int) by rw [← floor_pos, show ((x.natAbs : Nat) : Int) = x by omega]]
      apply w_gh (gh_row 1 hrn)
      repeat (first
    | (apply s_a TY; exact rfl)
    | (apply s_f; exact rfl; (first | assumption | omega))
    | apply w_seq
    | apply w_region
    | apply s_nil
    | apply t_norm
    | apply t_exit
    | apply k_hit
    | apply w_exit
    | apply w_ret
    | apply w_skip
    | (apply w_condF; exact rfl; exact rfl)
    | (apply s_k (HW); exact rfl)
    | (apply s_s; exact rfl)
    | (apply s_alloc TY; exact rfl; exact rfl; exact rfl)
    | (apply s_store TY; exact rfl; exact rfl; exact rfl; exact rfl; exact rfl; exact rfl))
      exact lv_ret (ret1 rfl (res_bxs (sub := [iv (sgI ((x.natAbs / b : Nat) : Int)), .sl (dgI ((x.natAbs / b : Nat) : Int)).length (intsF (dgI ((x.natAbs / b : Nat) : Int)))]) TY rfl rfl rfl rfl rfl))
end Go.Proofs.YtenkgipcblfocaaGreat
namespace Go.Proofs.YtenkgipcblfocaaGreat
open Go Go.RowKit Go.Proofs Go.Shelf Go.Ab
def gcN (n d : Int) : Nat := Nat.gcd n.natAbs d.natAbs
def mkQ (n d : Int) : Int × Int := if d < 0 then (-n / (gcN n d : Int), -d / (gcN n d : Int)) else (n / (gcN n d : Int), d / (gcN n d : Int))
theorem gcN_pos {n d : Int} (h : d ≠ 0) : 0 < gcN n d := Nat.gcd_pos_of_pos_right _ (by omega)
theorem gcN_neg (n d : Int) : gcN (-n) (-d) = gcN n d := by unfold gcN; rw [Int.natAbs_neg, Int.natAbs_neg]
theorem gcN_dvd (n d : Int) : ((gcN n d : Nat) : Int) ∣ n ∧ ((gcN n d : Nat) : Int) ∣ d :=
  ⟨Int.ofNat_dvd_left.2 (Nat.gcd_dvd_left _ _), Int.ofNat_dvd_left.2 (Nat.gcd_dvd_right _ _)⟩
theorem mkQ_pos {n d : Int} (h : 0 < d) : mkQ n d = (n / (gcN n d : Int), d / (gcN n d : Int)) := if_neg (by omega)
theorem mkQ_spec {n d : Int} (h : 0 < d) : ∃ g : Nat, 0 < g ∧ n = (g : Int) * (mkQ n d).1 ∧ d = (g : Int) * (mkQ n d).2 := by
  obtain ⟨⟨x, hx⟩, y, hy⟩ := gcN_dvd n d
  have hg := gcN_pos (n := n) (d := d) (by omega)
  refine ⟨gcN n d, hg, ?_, ?_⟩
  · rw [mkQ_pos h]
    show n = _ * (n / _)
    rw [Int.ediv_eq_of_eq_mul_right (by omega) hx]
    exact hx
  · rw [mkQ_pos h]
    show d = _ * (d / _)
    rw [Int.ediv_eq_of_eq_mul_right (by omega) hy]
    exact hy
theorem mkQ_den {n d : Int} (h : 0 < d) : 0 < (mkQ n d).2 := by
  obtain ⟨g, hg, _, h2⟩ := mkQ_spec (n := n) h
  refine Int.lt_of_not_ge fun hc => ?_
  have := Int.mul_nonpos_of_nonneg_of_nonpos (a := (g : Int)) (by omega) hc
  omega
theorem abs_le {g : Nat} {x y : Int} (hg : 0 < g) (h : x = (g : Int) * y) : y.natAbs ≤ x.natAbs := by
  rw [h, Int.natAbs_mul, Int.natAbs_natCast]
  exact Nat.le_mul_of_pos_left _ hg
theorem mkQ_abs {n d : Int} (h : 0 < d) : (mkQ n d).1.natAbs ≤ n.natAbs ∧ (mkQ n d).2.natAbs ≤ d.natAbs := by
  obtain ⟨g, hg, h1, h2⟩ := mkQ_spec (n := n) h
  exact ⟨abs_le hg h1, abs_le hg h2⟩
def eqQ (a b : Int × Int) : Prop := a.1 * b.2 = b.1 * a.2
theorem mkQ_eq {n d : Int} (h : 0 < d) : eqQ (mkQ n d) (n, d) := by
  obtain ⟨g, _, h1, h2⟩ := mkQ_spec (n := n) h
  show (mkQ n d).1 * d = n * (mkQ n d).2
  generalize mkQ n d = q at *
  rw [h1, h2]
  ac_rfl
theorem eqQ_symm {a b : Int × Int} (h : eqQ a b) : eqQ b a := Eq.symm h
theorem eqQ_trans {a b c : Int × Int} (hb : b.2 ≠ 0) (h1 : eqQ a b) (h2 : eqQ b c) : eqQ a c := by
  unfold eqQ at *
  refine Int.eq_of_mul_eq_mul_right hb ?_
  have e1 : a.1 * c.2 * b.2 = a.1 * b.2 * c.2 := by ac_rfl
  have e2 : c.1 * a.2 * b.2 = c.1 * b.2 * a.2 := by ac_rfl
  rw [e1, e2, h1, ← h2]
  ac_rfl
theorem eqQ_mul {a b c d : Int × Int} (h1 : eqQ a b) (h2 : eqQ c d) : eqQ (a.1 * c.1, a.2 * c.2) (b.1 * d.1, b.2 * d.2) := by
  unfold eqQ at *
  show a.1 * c.1 * (b.2 * d.2) = b.1 * d.1 * (a.2 * c.2)
  have e1 : a.1 * c.1 * (b.2 * d.2) = (a.1 * b.2) * (c.1 * d.2) := by ac_rfl
  rw [e1, h1, h2]
  ac_rfl
theorem eqQ_add {a b c d : Int × Int} (h1 : eqQ a b) (h2 : eqQ c d) : eqQ (a.1 * c.2 + c.1 * a.2, a.2 * c.2) (b.1 * d.2 + d.1 * b.2, b.2 * d.2) := by
  unfold eqQ at *
  show (a.1 * c.2 + c.1 * a.2) * (b.2 * d.2) = (b.1 * d.2 + d.1 * b.2) * (a.2 * c.2)
  rw [Int.add_mul, Int.add_mul]
  have e1 : a.1 * c.2 * (b.2 * d.2) = (a.1 * b.2) * (c.2 * d.2) := by ac_rfl
  have e2 : c.1 * a.2 * (b.2 * d.2) = (c.1 * d.2) * (a.2 * b.2) := by ac_rfl
  rw [e1, e2, h1, h2]
  congr 1 <;> ac_rfl
theorem eqQ_neg {a b : Int × Int} (h : eqQ a b) : eqQ (-a.1, a.2) (-b.1, b.2) := by
  unfold eqQ at *
  show -a.1 * b.2 = -b.1 * a.2
  rw [Int.neg_mul, Int.neg_mul, h]
theorem eqQ_mk {n d : Int} {b : Int × Int} (h : 0 < d) (he : eqQ (n, d) b) : eqQ (mkQ n d) b := eqQ_trans (b := (n, d)) (by show d ≠ 0; omega) (mkQ_eq h) he
theorem eqQ_sign {a b : Int × Int} (ha : 0 < a.2) (hb : 0 < b.2) (h : eqQ a b) (hp : 0 < b.1) : 0 < a.1 := by
  unfold eqQ at h
  refine Int.lt_of_not_ge fun hc => ?_
  have h1 := Int.mul_nonpos_of_nonpos_of_nonneg hc (Int.le_of_lt hb)
  have h2 := Int.mul_pos hp ha
  omega
theorem pow_pos9 (k : Nat) : 0 < 1000000000 ^ k := Nat.pow_pos (by decide)
theorem lt_pow9 (n : Nat) : n < 1000000000 ^ lenD n := by
  have h := shD_len n
  unfold shD at h
  have hp := pow_pos9 (lenD n)
  rcases Nat.div_eq_zero_iff.1 h with h | h
  · omega
  · exact h
theorem len_lt9 {n k : Nat} (h : n < 1000000000 ^ k) : lenD n ≤ k := by
  refine Nat.le_of_not_lt fun hc => ?_
  have := lt_lenD.1 hc
  unfold shD at this
  rw [Nat.div_eq_of_lt h] at this
  omega
theorem len_mul (a b : Nat) : lenD (a * b) ≤ lenD a + lenD b := len_lt9 (by
  rw [Nat.pow_add]
  exact Nat.mul_lt_mul'' (lt_pow9 a) (lt_pow9 b))
theorem len_add {a b k : Nat} (ha : lenD a ≤ k) (hb : lenD b ≤ k) : lenD (a + b) ≤ k + 1 := len_lt9 (by
  have h1 := lt_pow9 a
  have h2 := lt_pow9 b
  have h3 := Nat.pow_le_pow_right (n := 1000000000) (by decide) ha
  have h4 := Nat.pow_le_pow_right (n := 1000000000) (by decide) hb
  rw [Nat.pow_succ]
  have hp := pow_pos9 k
  omega)
theorem lenM {x y : Int} {k m : Nat} (hx : lenD x.natAbs ≤ k) (hy : lenD y.natAbs ≤ m) : lenD (x * y).natAbs ≤ k + m := by
  rw [Int.natAbs_mul]
  exact Nat.le_trans (len_mul _ _) (Nat.add_le_add hx hy)
theorem lenA {x y : Int} {k : Nat} (hx : lenD x.natAbs ≤ k) (hy : lenD y.natAbs ≤ k) : lenD (x + y).natAbs ≤ k + 1 :=
  Nat.le_trans (lenD_le (show (x + y).natAbs ≤ x.natAbs + y.natAbs from Int.natAbs_add_le _ _)) (len_add hx hy)
end Go.Proofs.YtenkgipcblfocaaGreat
namespace Go.Ab
open Go Go.RowKit Go.Shelf Go.Proofs
section
variable {C : Ctx} {N : Nat}
theorem s_stWb (ty : Ty C.P) {T0 : TypeId} {pos : String} {af : Array Edge} {K : St → Prop} {ops : Array Oper} {all mid : List Oper} {stE stA st : St} {T i off : Nat} {x y : Operand} {cs ys : List AV} {av : AV} (hx : st.ev C x = .bx i off) (hi : st.h i = some (.box cs)) (hy : st.ev C y = av) (hc : cellsA av = some ys) (hT : sizeB (ty.ty T) ys.length = true) (hl : Nat.ble (off + ys.length) cs.length = true) (hx2 : stE.ev C x = st.ev C x) (hy2 : stE.ev C y = st.ev C y) (hh : ∀ k, stA.h k = st.h k)
    (h : R C N ops true (KW all K stA) mid { st with h := upd st.h i (some (.box (setAt cs off ys))) }) : GW C N ops ⟨none, .store T x y, T0, pos, af, none⟩ all mid K stE stA st :=
  ⟨i, _, ⟨rfl, rfl, fun w0 a w st' hA hk S K Q hK => e_store (st := st') ty rfl rfl ((hA.ev x (by simp [Op.operands])).trans hx) ((hk i).trans hi) ((hA.ev y (by simp [Op.operands])).trans hy) hc hT (Nat.le_of_ble_eq_true hl) w0 a w S K Q hK⟩, fun z hz2 => by
    have : z = x ∨ z = y := by simpa [Op.operands] using hz2
    rcases this with rfl | rfl
    · exact hx2
    · exact hy2, hh, Run.mono (fun _ h2 => ⟨h2.eqs, h2.out⟩) h.out⟩
end
end Go.Ab
namespace Go.Proofs.YtenkgipcblfocaaGreat
open Go Go.RowKit Go.Proofs Go.Shelf Go.Ab
theorem mod_wide (a b : Nat) : ((a : Nat) : Int) - ((a : Nat) : Int) / ((b : Nat) : Int) * ((b : Nat) : Int) = (((a % b) : Nat) : Int) := by
  have h : ((a : Nat) : Int) = ((b : Nat) : Int) * (((a / b) : Nat) : Int) + (((a % b) : Nat) : Int) := by rw [← Int.natCast_mul, ← Int.natCast_add, Nat.div_add_mod]
  rw [← Int.natCast_ediv, Int.mul_comm]
  omega
set_option maxRecDepth 100000 in
set_option maxHeartbeats 1600000 in
theorem wideGcd_s (x y : Int) (hx : lenD x.natAbs ≤ 1000) (hy : lenD y.natAbs ≤ 1000) : Summ Tryz.prog GG 171 [wF x, wF y] (wF (((gcN x y) : Nat) : Int)) := by
  have HX := wideSize_s x
  have HY := wideSize_s y
  refine summW Tryz.func171 rfl rfl 23 rfl (by simp) (fun M0 => ?_)
  repeat (first
    | (apply s_boxw; exact rfl; exact rfl; exact rfl; exact rfl)
    | (apply s_a TY; exact rfl)
    | apply w_seq
    | apply w_region
    | (apply w_draw (id := 1) 3 rfl (by kernel_rfl))
    | apply s_nil
    | apply t_norm
    | apply w_block
    | (apply s_k (HX); exact rfl)
    | (apply s_k (HY); exact rfl)
    | (apply s_alloc TY; exact rfl; exact rfl; exact rfl)
    | (apply s_store TY; exact rfl; exact rfl; exact rfl; exact rfl; exact rfl; exact rfl))
  apply w_loop (fun q : Nat × Nat => ⟨(Ab.upd (Ab.upd (Ab.upd (fun _ => .bot) 2 (.bx 0 0)) 3 (.bx 1 0)) 4 (.bx 2 0)), (Ab.upd (Ab.upd (Ab.upd (fun _ => none) 0 (some (.box [.f (iv (sgI ((q.1 : Nat) : Int))), .f (.sl (dgI ((q.1 : Nat) : Int)).length (intsF (dgI ((q.1 : Nat) : Int))))]))) 1 (some (.box [.f (iv (sgI ((q.2 : Nat) : Int))), .f (.sl (dgI ((q.2 : Nat) : Int)).length (intsF (dgI ((q.2 : Nat) : Int))))]))) 2 (some (.box [.f (iv 0), .f (.v (.slice none 0 0))]))), 3⟩) (fun q => Nat.gcd q.1 q.2 = gcN x y ∧ lenD q.1 ≤ 1000 ∧ lenD q.2 ≤ 1000) (fun q => q.2) (x.natAbs, y.natAbs) (⟨rfl, hx, hy⟩) (gh_le ⟨le_upd rfl rfl (le_upd rfl rfl (le_upd rfl rfl (le_nil _))), le_hupd rfl (fun y hy => by simp at hy; rcases hy with rfl | rfl <;> trivial) (le_hupd rfl (fun y hy => by simp at hy; rcases hy with rfl | rfl <;> trivial) (le_hupd rfl (fun y hy => by simp at hy; rcases hy with rfl | rfl <;> trivial) (le_h0 _ _)))⟩)
  rintro ⟨a, b⟩ ⟨hg, ha, hb⟩
  change Nat.gcd a b = gcN x y at hg
  change lenD a ≤ 1000 at ha
  change lenD b ≤ 1000 at hb
  change W _ _ _ _ (⟨(Ab.upd (Ab.upd (Ab.upd (fun _ => .bot) 2 (.bx 0 0)) 3 (.bx 1 0)) 4 (.bx 2 0)), (Ab.upd (Ab.upd (Ab.upd (fun _ => none) 0 (some (.box [.f (iv (sgI ((a : Nat) : Int))), .f (.sl (dgI ((a : Nat) : Int)).length (intsF (dgI ((a : Nat) : Int))))]))) 1 (some (.box [.f (iv (sgI ((b : Nat) : Int))), .f (.sl (dgI ((b : Nat) : Int)).length (intsF (dgI ((b : Nat) : Int))))]))) 2 (some (.box [.f (iv 0), .f (.v (.slice none 0 0))]))), 3⟩)
  have HS := WideSign_s ((b : Nat) : Int)
  by_cases h0 : b = 0
  · subst h0
    rw [Nat.gcd_zero_right] at hg
    subst hg
    rw [show sgI ((0 : Nat) : Int) = 0 from rfl] at HS
    repeat (first
    | (apply s_a TY; exact rfl)
    | (apply s_t; exact rfl; (first | assumption | omega))
    | apply w_seq
    | apply w_region
    | apply s_nil
    | apply t_norm
    | apply t_exit
    | apply k_hit
    | apply w_exit
    | apply w_ret
    | (apply w_condF; exact rfl; exact rfl)
    | (apply s_k (HS); exact rfl)
    | (apply s_store TY; exact rfl; exact rfl; exact rfl; exact rfl; exact rfl; exact rfl))
    exact lv_ret (ret1 rfl (res_bxs (sub := [iv (sgI (((gcN x y) : Nat) : Int)), .sl (dgI (((gcN x y) : Nat) : Int)).length (intsF (dgI (((gcN x y) : Nat) : Int)))]) TY rfl rfl rfl rfl rfl))
  · have hsg : sgI ((b : Nat) : Int) = 1 := sgI_pos (by omega)
    have HF := WideFloor_s ((a : Nat) : Int) b (by omega) ha hb
    have HM := WideMul_s (((a : Nat) : Int) / ((b : Nat) : Int)) ((b : Nat) : Int) (Nat.le_trans (lenD_le (Nat.div_le_self a b)) (Nat.le_trans ha (by decide))) (Nat.le_trans hb (by decide))
    have hml : lenD (((a : Nat) : Int) / ((b : Nat) : Int) * ((b : Nat) : Int)).natAbs ≤ 10000 := Nat.le_trans (lenD_le (show ((((a : Nat) : Int) / ((b : Nat) : Int)) * ((b : Nat) : Int)).natAbs ≤ a from Nat.div_mul_le_self a b)) (Nat.le_trans ha (by decide))
    have HU := WideSub_s ((a : Nat) : Int) (((a : Nat) : Int) / ((b : Nat) : Int) * ((b : Nat) : Int)) (Nat.le_trans ha (by decide)) hml
    rw [mod_wide] at HU
    rw [hsg] at HS
    repeat (first
    | (apply w_draw4 (id := 4) 2 3 1 2 rfl (by kernel_rfl) (by kernel_rfl); exact rfl)
    | (refine KW.mk ⟨rfl, rfl, trivial⟩ ?_)
    | (apply s_stWb TY; exact rfl; exact rfl; exact rfl; exact rfl; exact rfl; exact rfl; exact rfl; exact rfl; exact (fun _ => rfl))
    | (apply s_a TY; exact rfl)
    | (apply s_f; exact rfl; (first | assumption | omega))
    | apply w_seq
    | apply w_region
    | (apply w_draw (id := 3) 8 rfl (by kernel_rfl))
    | apply s_nil
    | apply t_norm
    | apply k_norm
    | apply w_block
    | apply w_skip
    | (apply w_condT; exact rfl; exact rfl)
    | (apply s_k (HS); exact rfl)
    | (apply s_k (HF); exact rfl)
    | (apply s_k (HM); exact rfl)
    | (apply s_k (HU); exact rfl)
    | (apply s_alloc TY; exact rfl; exact rfl; exact rfl)
    | (apply s_store TY; exact rfl; exact rfl; exact rfl; exact rfl; exact rfl; exact rfl))
    exact ⟨(b, a % b), ⟨by show Nat.gcd b (a % b) = _; rw [gcdN_step, hg], hb, Nat.le_trans (lenD_le (Nat.le_of_lt (Nat.mod_lt a (by omega)))) hb⟩, Nat.mod_lt a (by omega), gh_le ⟨le_upd rfl rfl (le_upd rfl rfl (le_upd rfl rfl (le_nil _))), le_hupd rfl (fun y hy => by simp at hy; rcases hy with rfl | rfl <;> trivial) (le_hupd rfl (fun y hy => by simp at hy; rcases hy with rfl | rfl <;> trivial) (le_hupd rfl (fun y hy => by simp at hy; rcases hy with rfl | rfl <;> trivial) (le_h0 _ _)))⟩⟩
def rF (q : Int × Int) : FV := .agg [iv (sgI q.1), .sl (dgI q.1).length (intsF (dgI q.1)), iv (sgI q.2), .sl (dgI q.2).length (intsF (dgI q.2))]
theorem gcN_len {n d : Int} (hd : d ≠ 0) (h : lenD d.natAbs ≤ 1000) : lenD (gcN n d) ≤ 1000 := Nat.le_trans (lenD_le (Nat.le_of_dvd (by omega) (Nat.gcd_dvd_right _ _))) h
set_option maxRecDepth 100000 in
set_option maxHeartbeats 1600000 in
theorem RatioMake_s (n d : Int) (hd : d ≠ 0) (hn : lenD n.natAbs ≤ 1000) (hdl : lenD d.natAbs ≤ 1000) : Summ Tryz.prog GG 139 [wF n, wF d] (rF (mkQ n d)) := by
  have HS := WideSign_s d
  have HO := WideOf_s 1 (by decide)
  have hgl := gcN_len (n := n) hd hdl
  have HC := WideCmp_s (((gcN n d) : Nat) : Int) 1 (Nat.le_trans hgl (by decide)) (by decide)
  by_cases hneg : d < 0
  · rw [sgI_neg hneg] at HS
    have HN1 := WideNeg_s n
    have HN2 := WideNeg_s d
    have HG := wideGcd_s (-n) (-d) (by rw [Int.natAbs_neg]; exact hn) (by rw [Int.natAbs_neg]; exact hdl)
    rw [gcN_neg] at HG
    have HF1 := WideFloor_s (-n) (gcN n d) (gcN_pos hd) (by rw [Int.natAbs_neg]; exact hn) hgl
    have HF2 := WideFloor_s (-d) (gcN n d) (gcN_pos hd) (by rw [Int.natAbs_neg]; exact hdl) hgl
    unfold mkQ
    rw [if_pos hneg]
    by_cases h1 : gcN n d = 1
    · have hsc : sgI ((((gcN n d) : Nat) : Int) - 1) = 0 := by rw [h1]; rfl
      rw [hsc] at HC
      rw [h1, Int.natCast_one, Int.ediv_one, Int.ediv_one]
      refine summW Tryz.func139 rfl rfl 30 rfl (by simp) (fun M0 => ?_)
      repeat (first
    | (apply s_boxw; exact rfl; exact rfl; exact rfl; exact rfl)
    | (apply s_a TY; exact rfl)
    | (apply s_t; exact rfl; (first | assumption | omega))
    | apply w_seq
    | apply w_region
    | (apply w_draw (id := 2) 3 rfl (by kernel_rfl))
    | (apply w_draw (id := 4) 2 rfl (by kernel_rfl))
    | apply s_nil
    | apply t_norm
    | apply t_ret
    | apply w_ret
    | (apply w_condT; exact rfl; exact rfl)
    | (apply s_k (HS); exact rfl)
    | (apply s_k (HG); exact rfl)
    | (apply s_k (HO); exact rfl)
    | (apply s_k (HC); exact rfl)
    | (apply s_k (HN1); exact rfl)
    | (apply s_k (HN2); exact rfl)
    | (apply s_alloc TY; exact rfl; exact rfl; exact rfl)
    | (apply s_store TY; exact rfl; exact rfl; exact rfl; exact rfl; exact rfl; exact rfl))
      exact lv_ret (ret1 rfl (res_bxs (sub := [iv (sgI (-n)), .sl (dgI (-n)).length (intsF (dgI (-n))), iv (sgI (-d)), .sl (dgI (-d)).length (intsF (dgI (-d)))]) TY rfl rfl rfl rfl rfl))
    · have hsc : sgI ((((gcN n d) : Nat) : Int) - 1) = 1 := sgI_pos (by have := gcN_pos (n := n) hd; omega)
      rw [hsc] at HC
      refine summW Tryz.func139 rfl rfl 30 rfl (by simp) (fun M0 => ?_)
      repeat (first
    | (apply s_boxw; exact rfl; exact rfl; exact rfl; exact rfl)
    | (apply s_a TY; exact rfl)
    | (apply s_t; exact rfl; (first | assumption | omega))
    | (apply s_f; exact rfl; (first | assumption | omega))
    | apply w_seq
    | apply w_region
    | (apply w_draw (id := 2) 3 rfl (by kernel_rfl))
    | (apply w_draw (id := 4) 2 rfl (by kernel_rfl))
    | (apply w_draw (id := 6) 5 rfl (by kernel_rfl))
    | apply s_nil
    | apply t_norm
    | apply w_ret
    | apply w_skip
    | (apply w_condT; exact rfl; exact rfl)
    | (apply w_condF; exact rfl; exact rfl)
    | (apply s_k (HS); exact rfl)
    | (apply s_k (HG); exact rfl)
    | (apply s_k (HO); exact rfl)
    | (apply s_k (HC); exact rfl)
    | (apply s_k (HF1); exact rfl)
    | (apply s_k (HF2); exact rfl)
    | (apply s_k (HN1); exact rfl)
    | (apply s_k (HN2); exact rfl)
    | (apply s_alloc TY; exact rfl; exact rfl; exact rfl)
    | (apply s_store TY; exact rfl; exact rfl; exact rfl; exact rfl; exact rfl; exact rfl))
      exact lv_ret (ret1 rfl (res_bxs (sub := [iv (sgI ((-n) / (((gcN n d) : Nat) : Int))), .sl (dgI ((-n) / (((gcN n d) : Nat) : Int))).length (intsF (dgI ((-n) / (((gcN n d) : Nat) : Int)))), iv (sgI ((-d) / (((gcN n d) : Nat) : Int))), .sl (dgI ((-d) / (((gcN n d) : Nat) : Int))).length (intsF (dgI ((-d) / (((gcN n d) : Nat) : Int))))]) TY rfl rfl rfl rfl rfl))
  · rw [sgI_pos (show 0 < d by omega)] at HS
    have HG := wideGcd_s n d hn hdl
    have HF1 := WideFloor_s n (gcN n d) (gcN_pos hd) hn hgl
    have HF2 := WideFloor_s d (gcN n d) (gcN_pos hd) hdl hgl
    unfold mkQ
    rw [if_neg hneg]
    by_cases h1 : gcN n d = 1
    · have hsc : sgI ((((gcN n d) : Nat) : Int) - 1) = 0 := by rw [h1]; rfl
      rw [hsc] at HC
      rw [h1, Int.natCast_one, Int.ediv_one, Int.ediv_one]
      refine summW Tryz.func139 rfl rfl 30 rfl (by simp) (fun M0 => ?_)
      repeat (first
    | (apply s_boxw; exact rfl; exact rfl; exact rfl; exact rfl)
    | (apply s_a TY; exact rfl)
    | (apply s_t; exact rfl; (first | assumption | omega))
    | (apply s_f; exact rfl; (first | assumption | omega))
    | apply w_seq
    | apply w_region
    | (apply w_draw (id := 4) 2 rfl (by kernel_rfl))
    | apply s_nil
    | apply t_norm
    | apply t_ret
    | apply w_ret
    | apply w_skip
    | (apply w_condT; exact rfl; exact rfl)
    | (apply w_condF; exact rfl; exact rfl)
    | (apply s_k (HS); exact rfl)
    | (apply s_k (HG); exact rfl)
    | (apply s_k (HO); exact rfl)
    | (apply s_k (HC); exact rfl)
    | (apply s_alloc TY; exact rfl; exact rfl; exact rfl)
    | (apply s_store TY; exact rfl; exact rfl; exact rfl; exact rfl; exact rfl; exact rfl))
      exact lv_ret (ret1 rfl (res_bxs (sub := [iv (sgI n), .sl (dgI n).length (intsF (dgI n)), iv (sgI d), .sl (dgI d).length (intsF (dgI d))]) TY rfl rfl rfl rfl rfl))
    · have hsc : sgI ((((gcN n d) : Nat) : Int) - 1) = 1 := sgI_pos (by have := gcN_pos (n := n) hd; omega)
      rw [hsc] at HC
      refine summW Tryz.func139 rfl rfl 30 rfl (by simp) (fun M0 => ?_)
      repeat (first
    | (apply s_boxw; exact rfl; exact rfl; exact rfl; exact rfl)
    | (apply s_a TY; exact rfl)
    | (apply s_f; exact rfl; (first | assumption | omega))
    | apply w_seq
    | apply w_region
    | (apply w_draw (id := 4) 2 rfl (by kernel_rfl))
    | (apply w_draw (id := 6) 5 rfl (by kernel_rfl))
    | apply s_nil
    | apply t_norm
    | apply w_ret
    | apply w_skip
    | (apply w_condF; exact rfl; exact rfl)
    | (apply s_k (HS); exact rfl)
    | (apply s_k (HG); exact rfl)
    | (apply s_k (HO); exact rfl)
    | (apply s_k (HC); exact rfl)
    | (apply s_k (HF1); exact rfl)
    | (apply s_k (HF2); exact rfl)
    | (apply s_alloc TY; exact rfl; exact rfl; exact rfl)
    | (apply s_store TY; exact rfl; exact rfl; exact rfl; exact rfl; exact rfl; exact rfl))
      exact lv_ret (ret1 rfl (res_bxs (sub := [iv (sgI (n / (((gcN n d) : Nat) : Int))), .sl (dgI (n / (((gcN n d) : Nat) : Int))).length (intsF (dgI (n / (((gcN n d) : Nat) : Int)))), iv (sgI (d / (((gcN n d) : Nat) : Int))), .sl (dgI (d / (((gcN n d) : Nat) : Int))).length (intsF (dgI (d / (((gcN n d) : Nat) : Int))))]) TY rfl rfl rfl rfl rfl))
end Go.Proofs.YtenkgipcblfocaaGreat
namespace Go.Proofs.YtenkgipcblfocaaGreat
open Go Go.RowKit Go.Proofs Go.Shelf Go.Ab
theorem wof_len {n : Int} (h : -9000000000000000000 ≤ n ∧ n ≤ 9000000000000000000) : lenD n.natAbs ≤ 3 := len_lt9 (show n.natAbs < 1000000000 ^ 3 by omega)
set_option maxRecDepth 100000 in
theorem RatioOf_s (n d : Int) (hd : d ≠ 0) (hn : -9000000000000000000 ≤ n ∧ n ≤ 9000000000000000000) (hdd : -9000000000000000000 ≤ d ∧ d ≤ 9000000000000000000) : Summ Tryz.prog GG 80 [iv n, iv d] (rF (mkQ n d)) := by
  have H1 := WideOf_s n hn
  have H2 := WideOf_s d hdd
  have H3 := RatioMake_s n d hd (Nat.le_trans (wof_len hn) (by decide)) (Nat.le_trans (wof_len hdd) (by decide))
  refine summW Tryz.func80 rfl rfl 10 rfl (by simp) (fun M0 => ?_)
  repeat (first
    | (apply s_a TY; exact rfl)
    | apply w_seq
    | apply w_region
    | apply s_nil
    | apply t_norm
    | apply w_ret
    | (apply s_k (H1); exact rfl)
    | (apply s_k (H2); exact rfl)
    | (apply s_k (H3); exact rfl)
    | (apply s_alloc TY; exact rfl; exact rfl; exact rfl)
    | (apply s_store TY; exact rfl; exact rfl; exact rfl; exact rfl; exact rfl; exact rfl))
  exact lv_ret (ret1 rfl (res_bxs (sub := [iv (sgI (mkQ n d).1), .sl (dgI (mkQ n d).1).length (intsF (dgI (mkQ n d).1)), iv (sgI (mkQ n d).2), .sl (dgI (mkQ n d).2).length (intsF (dgI (mkQ n d).2))]) TY rfl rfl rfl rfl rfl))
set_option maxRecDepth 100000 in
theorem RatioFrom_s (q : Int × Int) (hd : q.2 ≠ 0) (hn : -9000000000000000000 ≤ q.1 ∧ q.1 ≤ 9000000000000000000) (hdd : -9000000000000000000 ≤ q.2 ∧ q.2 ≤ 9000000000000000000) : Summ Tryz.prog GG 83 [fracF q] (rF (mkQ q.1 q.2)) := by
  have H1 := RatioOf_s q.1 q.2 hd hn hdd
  refine summW Tryz.func83 rfl rfl 8 rfl (by simp) (fun M0 => ?_)
  repeat (first
    | (apply s_a TY; exact rfl)
    | apply w_seq
    | apply w_region
    | apply s_nil
    | apply t_norm
    | apply w_ret
    | (apply s_k (H1); exact rfl)
    | (apply s_alloc TY; exact rfl; exact rfl; exact rfl)
    | (apply s_store TY; exact rfl; exact rfl; exact rfl; exact rfl; exact rfl; exact rfl))
  exact lv_ret (ret1 rfl (res_bxs (sub := [iv (sgI (mkQ q.1 q.2).1), .sl (dgI (mkQ q.1 q.2).1).length (intsF (dgI (mkQ q.1 q.2).1)), iv (sgI (mkQ q.1 q.2).2), .sl (dgI (mkQ q.1 q.2).2).length (intsF (dgI (mkQ q.1 q.2).2))]) TY rfl rfl rfl rfl rfl))
set_option maxRecDepth 100000 in
theorem RatioNeg_s (a : Int × Int)  : Summ Tryz.prog GG 144 [rF a] (rF (-a.1, a.2)) := by
  have H1 := WideNeg_s a.1
  refine summW Tryz.func144 rfl rfl 9 rfl (by simp) (fun M0 => ?_)
  repeat (first
    | (apply s_a TY; exact rfl)
    | apply w_seq
    | apply w_region
    | (apply w_draw (id := 1) 5 rfl (by kernel_rfl))
    | apply s_nil
    | apply t_norm
    | apply w_ret
    | (apply s_k (H1); exact rfl)
    | (apply s_alloc TY; exact rfl; exact rfl; exact rfl)
    | (apply s_store TY; exact rfl; exact rfl; exact rfl; exact rfl; exact rfl; exact rfl))
  exact lv_ret (ret1 rfl (res_bxs (sub := [iv (sgI (-a.1)), .sl (dgI (-a.1)).length (intsF (dgI (-a.1))), iv (sgI a.2), .sl (dgI a.2).length (intsF (dgI a.2))]) TY rfl rfl rfl rfl rfl))
set_option maxRecDepth 100000 in
theorem RatioSign_s (a : Int × Int)  : Summ Tryz.prog GG 84 [rF a] (iv (sgI a.1)) := by
  have H1 := WideSign_s a.1
  refine summW Tryz.func84 rfl rfl 6 rfl (by simp) (fun M0 => ?_)
  repeat (first
    | (apply s_a TY; exact rfl)
    | apply w_seq
    | apply w_region
    | apply s_nil
    | apply t_norm
    | apply w_ret
    | (apply s_k (H1); exact rfl))
  exact lv_ret (ret1 rfl (res_tmp rfl))
set_option maxRecDepth 100000 in
theorem RatioAdd_s (a b : Int × Int) (ha : 0 < a.2) (hb : 0 < b.2) (ha1 : lenD a.1.natAbs ≤ 400) (ha2 : lenD a.2.natAbs ≤ 400) (hb1 : lenD b.1.natAbs ≤ 400) (hb2 : lenD b.2.natAbs ≤ 400) : Summ Tryz.prog GG 143 [rF a, rF b] (rF (mkQ (a.1 * b.2 + b.1 * a.2) (a.2 * b.2))) := by
  have M1 := WideMul_s a.1 b.2 (Nat.le_trans ha1 (by decide)) (Nat.le_trans hb2 (by decide))
  have M2 := WideMul_s b.1 a.2 (Nat.le_trans hb1 (by decide)) (Nat.le_trans ha2 (by decide))
  have M3 := WideMul_s a.2 b.2 (Nat.le_trans ha2 (by decide)) (Nat.le_trans hb2 (by decide))
  have l1 := lenM ha1 hb2
  have l2 := lenM hb1 ha2
  have l3 := lenM ha2 hb2
  have S1 := WideAdd_s (a.1 * b.2) (b.1 * a.2) (Nat.le_trans l1 (by decide)) (Nat.le_trans l2 (by decide))
  have hp := Int.mul_pos ha hb
  have R1 := RatioMake_s (a.1 * b.2 + b.1 * a.2) (a.2 * b.2) (by omega) (Nat.le_trans (lenA l1 l2) (by decide)) (Nat.le_trans l3 (by decide))
  refine summW Tryz.func143 rfl rfl 22 rfl (by simp) (fun M0 => ?_)
  repeat (first
    | (apply s_a TY; exact rfl)
    | apply w_seq
    | apply w_region
    | (apply w_draw (id := 1) 15 rfl (by kernel_rfl))
    | apply s_nil
    | apply t_norm
    | apply w_ret
    | (apply s_k (M1); exact rfl)
    | (apply s_k (M2); exact rfl)
    | (apply s_k (M3); exact rfl)
    | (apply s_k (S1); exact rfl)
    | (apply s_k (R1); exact rfl)
    | (apply s_alloc TY; exact rfl; exact rfl; exact rfl)
    | (apply s_store TY; exact rfl; exact rfl; exact rfl; exact rfl; exact rfl; exact rfl))
  exact lv_ret (ret1 rfl (res_bxs (sub := [iv (sgI (mkQ (a.1 * b.2 + b.1 * a.2) (a.2 * b.2)).1), .sl (dgI (mkQ (a.1 * b.2 + b.1 * a.2) (a.2 * b.2)).1).length (intsF (dgI (mkQ (a.1 * b.2 + b.1 * a.2) (a.2 * b.2)).1)), iv (sgI (mkQ (a.1 * b.2 + b.1 * a.2) (a.2 * b.2)).2), .sl (dgI (mkQ (a.1 * b.2 + b.1 * a.2) (a.2 * b.2)).2).length (intsF (dgI (mkQ (a.1 * b.2 + b.1 * a.2) (a.2 * b.2)).2))]) TY rfl rfl rfl rfl rfl))
set_option maxRecDepth 100000 in
theorem RatioSub_s (a b : Int × Int) (ha : 0 < a.2) (hb : 0 < b.2) (ha1 : lenD a.1.natAbs ≤ 400) (ha2 : lenD a.2.natAbs ≤ 400) (hb1 : lenD b.1.natAbs ≤ 400) (hb2 : lenD b.2.natAbs ≤ 400) : Summ Tryz.prog GG 82 [rF a, rF b] (rF (mkQ (a.1 * b.2 + -b.1 * a.2) (a.2 * b.2))) := by
  have H1 := RatioNeg_s b
  have H2 := RatioAdd_s a (-b.1, b.2) ha hb ha1 ha2 (by rw [Int.natAbs_neg]; exact hb1) hb2
  refine summW Tryz.func82 rfl rfl 9 rfl (by simp) (fun M0 => ?_)
  repeat (first
    | (apply s_a TY; exact rfl)
    | apply w_seq
    | apply w_region
    | (apply w_draw (id := 1) 3 rfl (by kernel_rfl))
    | apply s_nil
    | apply t_norm
    | apply w_ret
    | (apply s_k (H1); exact rfl)
    | (apply s_k (H2); exact rfl)
    | (apply s_alloc TY; exact rfl; exact rfl; exact rfl)
    | (apply s_store TY; exact rfl; exact rfl; exact rfl; exact rfl; exact rfl; exact rfl))
  exact lv_ret (ret1 rfl (res_bxs (sub := [iv (sgI (mkQ (a.1 * b.2 + -b.1 * a.2) (a.2 * b.2)).1), .sl (dgI (mkQ (a.1 * b.2 + -b.1 * a.2) (a.2 * b.2)).1).length (intsF (dgI (mkQ (a.1 * b.2 + -b.1 * a.2) (a.2 * b.2)).1)), iv (sgI (mkQ (a.1 * b.2 + -b.1 * a.2) (a.2 * b.2)).2), .sl (dgI (mkQ (a.1 * b.2 + -b.1 * a.2) (a.2 * b.2)).2).length (intsF (dgI (mkQ (a.1 * b.2 + -b.1 * a.2) (a.2 * b.2)).2))]) TY rfl rfl rfl rfl rfl))
set_option maxRecDepth 100000 in
theorem RatioMul_s (a b : Int × Int) (ha : 0 < a.2) (hb : 0 < b.2) (ha1 : lenD a.1.natAbs ≤ 400) (ha2 : lenD a.2.natAbs ≤ 400) (hb1 : lenD b.1.natAbs ≤ 400) (hb2 : lenD b.2.natAbs ≤ 400) : Summ Tryz.prog GG 86 [rF a, rF b] (rF (mkQ (a.1 * b.1) (a.2 * b.2))) := by
  have M1 := WideMul_s a.1 b.1 (Nat.le_trans ha1 (by decide)) (Nat.le_trans hb1 (by decide))
  have M2 := WideMul_s a.2 b.2 (Nat.le_trans ha2 (by decide)) (Nat.le_trans hb2 (by decide))
  have hp := Int.mul_pos ha hb
  have R1 := RatioMake_s (a.1 * b.1) (a.2 * b.2) (by omega) (Nat.le_trans (lenM ha1 hb1) (by decide)) (Nat.le_trans (lenM ha2 hb2) (by decide))
  refine summW Tryz.func86 rfl rfl 16 rfl (by simp) (fun M0 => ?_)
  repeat (first
    | (apply s_a TY; exact rfl)
    | apply w_seq
    | apply w_region
    | (apply w_draw (id := 1) 9 rfl (by kernel_rfl))
    | apply s_nil
    | apply t_norm
    | apply w_ret
    | (apply s_k (M1); exact rfl)
    | (apply s_k (M2); exact rfl)
    | (apply s_k (R1); exact rfl)
    | (apply s_alloc TY; exact rfl; exact rfl; exact rfl)
    | (apply s_store TY; exact rfl; exact rfl; exact rfl; exact rfl; exact rfl; exact rfl))
  exact lv_ret (ret1 rfl (res_bxs (sub := [iv (sgI (mkQ (a.1 * b.1) (a.2 * b.2)).1), .sl (dgI (mkQ (a.1 * b.1) (a.2 * b.2)).1).length (intsF (dgI (mkQ (a.1 * b.1) (a.2 * b.2)).1)), iv (sgI (mkQ (a.1 * b.1) (a.2 * b.2)).2), .sl (dgI (mkQ (a.1 * b.1) (a.2 * b.2)).2).length (intsF (dgI (mkQ (a.1 * b.1) (a.2 * b.2)).2))]) TY rfl rfl rfl rfl rfl))
set_option maxRecDepth 100000 in
theorem RatioCmp_s (a b : Int × Int) (ha1 : lenD a.1.natAbs ≤ 400) (ha2 : lenD a.2.natAbs ≤ 400) (hb1 : lenD b.1.natAbs ≤ 400) (hb2 : lenD b.2.natAbs ≤ 400) : Summ Tryz.prog GG 85 [rF a, rF b] (iv (sgI (a.1 * b.2 - b.1 * a.2))) := by
  have M1 := WideMul_s a.1 b.2 (Nat.le_trans ha1 (by decide)) (Nat.le_trans hb2 (by decide))
  have M2 := WideMul_s b.1 a.2 (Nat.le_trans hb1 (by decide)) (Nat.le_trans ha2 (by decide))
  have C1 := WideCmp_s (a.1 * b.2) (b.1 * a.2) (Nat.le_trans (lenM ha1 hb2) (by decide)) (Nat.le_trans (lenM hb1 ha2) (by decide))
  refine summW Tryz.func85 rfl rfl 16 rfl (by simp) (fun M0 => ?_)
  repeat (first
    | (apply s_a TY; exact rfl)
    | apply w_seq
    | apply w_region
    | (apply w_draw (id := 1) 9 rfl (by kernel_rfl))
    | apply s_nil
    | apply t_norm
    | apply w_ret
    | (apply s_k (M1); exact rfl)
    | (apply s_k (M2); exact rfl)
    | (apply s_k (C1); exact rfl))
  exact lv_ret (ret1 rfl (res_tmp rfl))
theorem Whole_s (n : Int) : Summ Tryz.prog GG 87 [iv n] (fracF (n, 1)) := by
  refine summW Tryz.func87 rfl rfl 5 rfl (by simp) (fun M0 => ?_)
  repeat (first
    | (apply s_a TY; exact rfl)
    | apply w_seq
    | apply w_region
    | apply s_nil
    | apply t_norm
    | apply w_ret
    | (apply s_alloc TY; exact rfl; exact rfl; exact rfl)
    | (apply s_store TY; exact rfl; exact rfl; exact rfl; exact rfl; exact rfl; exact rfl))
  exact lv_ret (ret1 rfl (res_bxs (sub := [iv n, iv 1]) TY rfl rfl rfl rfl rfl))
set_option maxRecDepth 100000 in
theorem IsLowest_s (q : Int × Int) (hd : 0 < q.2) (hn : -9000000000000000000 ≤ q.1 ∧ q.1 ≤ 9000000000000000000) (hdd : -9000000000000000000 ≤ q.2 ∧ q.2 ≤ 9000000000000000000) (hg : gcdZ q.1 q.2 = 1) : Summ Tryz.prog GG 141 [fracF q] (.v (.bool true)) := by
  have H1 := Gcd_s q.1 q.2 ⟨hn, hdd⟩
  rw [hg] at H1
  refine summW Tryz.func141 rfl rfl 14 rfl (by simp) (fun M0 => ?_)
  repeat (first
    | (apply s_a TY; exact rfl)
    | (apply s_t; exact rfl; (first | assumption | omega))
    | apply w_seq
    | apply w_region
    | apply s_nil
    | apply t_norm
    | apply w_ret
    | (apply s_k (H1); exact rfl))
  exact lv_ret (ret1 rfl (res_tmp rfl))
theorem IsSmall_s (q : Int × Int) (hn : -1000000000 ≤ q.1 ∧ q.1 ≤ 1000000000) (hdd : 1 ≤ q.2 ∧ q.2 ≤ 1000000000) : Summ Tryz.prog GG 142 [fracF q] (.v (.bool true)) := by
  have H1 := bwithin_T q.1 (-1000000000) 1000000000 hn
  have H2 := bwithin_T q.2 1 1000000000 hdd
  refine summW Tryz.func142 rfl rfl 11 rfl (by simp) (fun M0 => ?_)
  repeat (first
    | (apply s_a TY; exact rfl)
    | apply w_seq
    | apply w_region
    | apply s_nil
    | apply t_norm
    | apply w_ret
    | (apply s_k (H1); exact rfl)
    | (apply s_k (H2); exact rfl))
  exact lv_ret (ret1 rfl (res_tmp rfl))
set_option maxRecDepth 100000 in
theorem lowest_s (a b : Int × Int) (ha : 1 ≤ a.2 ∧ a.2 ≤ 1000000000) (ha1 : -1000000000 ≤ a.1 ∧ a.1 ≤ 1000000000) (hga : gcdZ a.1 a.2 = 1) (hb : 1 ≤ b.2 ∧ b.2 ≤ 1000000000) (hb1 : -1000000000 ≤ b.1 ∧ b.1 ≤ 1000000000) (hgb : gcdZ b.1 b.2 = 1) : Summ Tryz.prog GG 81 [.agg [iv a.1, iv a.2, iv b.1, iv b.2]] (.v (.bool true)) := by
  have H1 := IsLowest_s a (by omega) (by omega) (by omega) hga
  have H2 := IsSmall_s a ha1 ha
  have H3 := IsLowest_s b (by omega) (by omega) (by omega) hgb
  have H4 := IsSmall_s b hb1 hb
  refine summW Tryz.func81 rfl rfl 21 rfl (by simp) (fun M0 => ?_)
  repeat (first
    | (apply s_a TY; exact rfl)
    | apply w_seq
    | apply w_region
    | apply s_nil
    | apply t_norm
    | apply w_ret
    | (apply s_k (H1); exact rfl)
    | (apply s_k (H2); exact rfl)
    | (apply s_k (H3); exact rfl)
    | (apply s_k (H4); exact rfl))
  exact lv_ret (ret1 rfl (res_tmp rfl))
end Go.Proofs.YtenkgipcblfocaaGreat
namespace Go.Proofs.YtenkgipcblfocaaGreat
open Go Go.RowKit Go.Proofs Go.Shelf Go.Ab
structure CelsOk (cs : List Cel) : Prop where
  len : cs.length ≤ 96
  each : ∀ i (hi : i < cs.length), (1 ≤ cs[i].count ∧ cs[i].count ≤ 12) ∧ (0 ≤ cs[i].index ∧ cs[i].index < cs[i].count) ∧ 0 ≤ cs[i].ring ∧ cs[i].ring ≤ 8
  same : ∀ i j (hi : i < cs.length) (hj : j < cs.length), cs[i].ring = cs[j].ring → cs[i].count = cs[j].count
theorem mul_bdC {x y : Int} (hx : 0 ≤ x ∧ x ≤ 12) (hy : 0 ≤ y ∧ y ≤ 12) : 0 ≤ x * y ∧ x * y ≤ 144 :=
  ⟨Int.mul_nonneg hx.1 hy.1, Int.le_trans (Int.mul_le_mul hx.2 hy.2 hy.1 (by omega)) (by decide)⟩
theorem skyC_cels {rs : List Int} (o : SkyOk rs) : CelsOk (skyC rs) := by
  have hb := skyC_bd o
  refine ⟨hb.2, fun i hi => ?_, fun i j hi hj he => ?_⟩
  case refine_2 =>
    obtain ⟨h1, h2, -, -⟩ := ring_at o hi
    obtain ⟨k1, k2, -, -⟩ := ring_at o hj
    rw [h2, k2] at he ⊢
    have e : ringZ rs i = ringZ rs j := by have : ((ringZ rs i : Nat) : Int) = (ringZ rs j : Nat) := he; omega
    show rs.getD (ringZ rs i) default = rs.getD (ringZ rs j) default
    rw [e]
  obtain ⟨h1, h2, h3, h4⟩ := ring_at o hi
  have hr := o.ring _ h1
  have hl := o.len
  rw [h2]
  refine ⟨hr, ⟨h3, h4⟩, ?_, ?_⟩
  · show (0 : Int) ≤ (ringZ rs i : Nat); omega
  · show ((ringZ rs i : Nat) : Int) ≤ 8; omega
set_option maxRecDepth 100000 in
set_option maxHeartbeats 3200000 in
theorem near_s (cs : List Cel) (o : CelsOk cs) (a b : Nat) (ha : a < cs.length) (hb : b < cs.length) : Summ Tryz.prog GG 126 [xF cs, iv ((a : Nat) : Int), iv ((b : Nat) : Int)] (bv (nearC a b cs[a] cs[b])) := by
  have hl := o.len
  obtain ⟨a1, a2, a3⟩ := o.each a ha
  obtain ⟨b1, b2, b3⟩ := o.each b hb
  have hca : cs[a].count ≠ 0 := by omega
  have m1 := mul_bdC (x := cs[a].index) (y := cs[b].count) (by omega) (by omega)
  have m2 := mul_bdC (x := cs[b].index + 1) (y := cs[a].count) (by omega) (by omega)
  have m3 := mul_bdC (x := cs[b].index) (y := cs[a].count) (by omega) (by omega)
  have hcc := o.same a b ha hb
  have m4 := mul_bdC (x := cs[a].index + 1) (y := cs[b].count) (by omega) (by omega)
  by_cases hab : (a : Int) = b
  · have hv : nearC a b cs[a] cs[b] = false := by
      unfold nearC
      rw [if_pos hab]
    rw [hv]
    refine summW Tryz.func126 rfl rfl 82 rfl (by simp) (fun M0 => ?_)
    repeat (first
    | (apply s_a TY; exact rfl)
    | (apply s_t; exact rfl; (first | assumption | omega))
    | apply w_seq
    | apply w_region
    | (apply w_draw1 (id := 1) 10 rfl (by kernel_rfl); exact rfl; kernel_rfl)
    | (apply s_allocB TY (d := some 7); exact rfl; exact rfl; exact rfl)
    | (apply s_sto TY; exact rfl; exact rfl; exact rfl; exact rfl; exact rfl; exact rfl; exact rfl)
    | apply s_nil
    | apply t_norm
    | apply t_ret
    | apply k_ret
    | apply w_block
    | apply w_ret
    | (apply w_condT; exact rfl; exact rfl)
    | (apply s_c TY; exact rfl; (first | omega | exact ⟨by omega, by (first | with_reducible assumption | ((with_reducible apply celsF_ne); omega) | assumption)⟩))
    | (apply s_m TY; exact rfl; (first | with_reducible assumption | ((with_reducible apply celsF_sub); omega) | exact rfl); exact rfl)
    | (apply s_alloc TY; exact rfl; exact rfl; exact rfl)
    | (apply s_store TY; exact rfl; exact rfl; exact rfl; exact rfl; exact rfl; exact rfl))
    exact lv_ret (ret1 rfl (res_tmp rfl))
  · by_cases hr : cs[a].ring = cs[b].ring
    · by_cases h1 : (cs[a].index - cs[b].index + cs[a].count) % cs[a].count = 1
      · have hv : nearC a b cs[a] cs[b] = true := by
          unfold nearC
          rw [if_neg hab, if_pos hr]
          rw [decide_eq_true h1]; rfl
        rw [hv]
        have hcc := hcc hr
        refine summW Tryz.func126 rfl rfl 82 rfl (by simp) (fun M0 => ?_)
        repeat (first
    | (apply s_a TY; exact rfl)
    | (apply s_t; exact rfl; (first | assumption | omega))
    | (apply s_f; exact rfl; (first | assumption | omega))
    | apply w_seq
    | apply w_region
    | (apply w_draw1 (id := 1) 10 rfl (by kernel_rfl); exact rfl; kernel_rfl)
    | (apply s_allocB TY (d := some 7); exact rfl; exact rfl; exact rfl)
    | (apply s_sto TY; exact rfl; exact rfl; exact rfl; exact rfl; exact rfl; exact rfl; exact rfl)
    | apply s_nil
    | apply t_norm
    | apply t_ret
    | apply k_ret
    | apply w_block
    | apply w_ret
    | (apply w_condT; exact rfl; exact rfl)
    | (apply w_condF; exact rfl; exact rfl)
    | (apply s_s; exact rfl)
    | (apply s_c TY; exact rfl; (first | omega | exact ⟨by omega, by (first | with_reducible assumption | ((with_reducible apply celsF_ne); omega) | assumption)⟩))
    | (apply s_m TY; exact rfl; (first | with_reducible assumption | ((with_reducible apply celsF_sub); omega) | exact rfl); exact rfl)
    | (apply s_alloc TY; exact rfl; exact rfl; exact rfl)
    | (apply s_store TY; exact rfl; exact rfl; exact rfl; exact rfl; exact rfl; exact rfl))
        exact lv_ret (ret1 rfl (res_tmp rfl))
      · by_cases h2 : (cs[a].index - cs[b].index + cs[a].count) % cs[a].count = cs[a].count - 1
        · have hv : nearC a b cs[a] cs[b] = true := by
            unfold nearC
            rw [if_neg hab, if_pos hr]
            rw [decide_eq_true h2, Bool.or_true]
          rw [hv]
          have hcc := hcc hr
          refine summW Tryz.func126 rfl rfl 82 rfl (by simp) (fun M0 => ?_)
          repeat (first
    | (apply s_a TY; exact rfl)
    | (apply s_t; exact rfl; (first | assumption | omega))
    | (apply s_f; exact rfl; (first | assumption | omega))
    | apply w_seq
    | apply w_region
    | (apply w_draw1 (id := 1) 10 rfl (by kernel_rfl); exact rfl; kernel_rfl)
    | (apply s_allocB TY (d := some 7); exact rfl; exact rfl; exact rfl)
    | (apply s_sto TY; exact rfl; exact rfl; exact rfl; exact rfl; exact rfl; exact rfl; exact rfl)
    | apply s_nil
    | apply t_norm
    | apply t_ret
    | apply k_ret
    | apply w_block
    | apply w_ret
    | (apply w_condT; exact rfl; exact rfl)
    | (apply w_condF; exact rfl; exact rfl)
    | (apply s_c TY; exact rfl; (first | omega | exact ⟨by omega, by (first | with_reducible assumption | ((with_reducible apply celsF_ne); omega) | assumption)⟩))
    | (apply s_m TY; exact rfl; (first | with_reducible assumption | ((with_reducible apply celsF_sub); omega) | exact rfl); exact rfl)
    | (apply s_alloc TY; exact rfl; exact rfl; exact rfl)
    | (apply s_store TY; exact rfl; exact rfl; exact rfl; exact rfl; exact rfl; exact rfl))
          exact lv_ret (ret1 rfl (res_tmp rfl))
        · have hv : nearC a b cs[a] cs[b] = false := by
            unfold nearC
            rw [if_neg hab, if_pos hr]
            rw [decide_eq_false h1, decide_eq_false h2]; rfl
          rw [hv]
          have hcc := hcc hr
          refine summW Tryz.func126 rfl rfl 82 rfl (by simp) (fun M0 => ?_)
          repeat (first
    | (apply s_a TY; exact rfl)
    | (apply s_t; exact rfl; (first | assumption | omega))
    | (apply s_f; exact rfl; (first | assumption | omega))
    | apply w_seq
    | apply w_region
    | (apply w_draw1 (id := 1) 10 rfl (by kernel_rfl); exact rfl; kernel_rfl)
    | (apply s_allocB TY (d := some 7); exact rfl; exact rfl; exact rfl)
    | (apply s_sto TY; exact rfl; exact rfl; exact rfl; exact rfl; exact rfl; exact rfl; exact rfl)
    | apply s_nil
    | apply t_norm
    | apply t_ret
    | apply k_ret
    | apply w_block
    | apply w_ret
    | (apply w_condT; exact rfl; exact rfl)
    | (apply w_condF; exact rfl; exact rfl)
    | (apply s_c TY; exact rfl; (first | omega | exact ⟨by omega, by (first | with_reducible assumption | ((with_reducible apply celsF_ne); omega) | assumption)⟩))
    | (apply s_m TY; exact rfl; (first | with_reducible assumption | ((with_reducible apply celsF_sub); omega) | exact rfl); exact rfl)
    | (apply s_alloc TY; exact rfl; exact rfl; exact rfl)
    | (apply s_store TY; exact rfl; exact rfl; exact rfl; exact rfl; exact rfl; exact rfl))
          exact lv_ret (ret1 rfl (res_tmp rfl))
    · by_cases hw : -1 ≤ cs[a].ring - cs[b].ring ∧ cs[a].ring - cs[b].ring ≤ 1
      · by_cases hp : cs[a].index * cs[b].count < (cs[b].index + 1) * cs[a].count
        · by_cases hq : cs[b].index * cs[a].count < (cs[a].index + 1) * cs[b].count
          · have hv : nearC a b cs[a] cs[b] = true := by
              unfold nearC
              rw [if_neg hab, if_neg hr]
              rw [decide_eq_true hw.1, decide_eq_true hw.2, decide_eq_true hp, decide_eq_true hq]; rfl
            rw [hv]
            refine summW Tryz.func126 rfl rfl 82 rfl (by simp) (fun M0 => ?_)
            repeat (first
    | (apply s_a TY; exact rfl)
    | (apply s_t; exact rfl; (first | assumption | omega))
    | (apply s_f; exact rfl; (first | assumption | omega))
    | apply w_seq
    | apply w_region
    | (apply w_draw1 (id := 1) 10 rfl (by kernel_rfl); exact rfl; kernel_rfl)
    | (apply s_allocB TY (d := some 7); exact rfl; exact rfl; exact rfl)
    | (apply s_sto TY; exact rfl; exact rfl; exact rfl; exact rfl; exact rfl; exact rfl; exact rfl)
    | apply s_nil
    | apply t_norm
    | apply k_norm
    | apply w_block
    | apply w_ret
    | apply w_skip
    | (apply w_condF; exact rfl; exact rfl)
    | (apply s_k1 (within_T _ _ _); exact rfl; (first | assumption | omega | decide))
    | (apply s_c TY; exact rfl; (first | omega | exact ⟨by omega, by (first | with_reducible assumption | ((with_reducible apply celsF_ne); omega) | assumption)⟩))
    | (apply s_m TY; exact rfl; (first | with_reducible assumption | ((with_reducible apply celsF_sub); omega) | exact rfl); exact rfl)
    | (apply s_alloc TY; exact rfl; exact rfl; exact rfl)
    | (apply s_store TY; exact rfl; exact rfl; exact rfl; exact rfl; exact rfl; exact rfl))
            exact lv_ret (ret1 rfl (res_tmp rfl))
          · have hv : nearC a b cs[a] cs[b] = false := by
              unfold nearC
              rw [if_neg hab, if_neg hr]
              rw [decide_eq_false hq, Bool.and_false]
            rw [hv]
            refine summW Tryz.func126 rfl rfl 82 rfl (by simp) (fun M0 => ?_)
            repeat (first
    | (apply s_a TY; exact rfl)
    | (apply s_t; exact rfl; (first | assumption | omega))
    | (apply s_f; exact rfl; (first | assumption | omega))
    | apply w_seq
    | apply w_region
    | (apply w_draw1 (id := 1) 10 rfl (by kernel_rfl); exact rfl; kernel_rfl)
    | (apply s_allocB TY (d := some 7); exact rfl; exact rfl; exact rfl)
    | (apply s_sto TY; exact rfl; exact rfl; exact rfl; exact rfl; exact rfl; exact rfl; exact rfl)
    | apply s_nil
    | apply t_norm
    | apply k_norm
    | apply w_block
    | apply w_ret
    | apply w_skip
    | (apply w_condF; exact rfl; exact rfl)
    | (apply s_k1 (within_T _ _ _); exact rfl; (first | assumption | omega | decide))
    | (apply s_c TY; exact rfl; (first | omega | exact ⟨by omega, by (first | with_reducible assumption | ((with_reducible apply celsF_ne); omega) | assumption)⟩))
    | (apply s_m TY; exact rfl; (first | with_reducible assumption | ((with_reducible apply celsF_sub); omega) | exact rfl); exact rfl)
    | (apply s_alloc TY; exact rfl; exact rfl; exact rfl)
    | (apply s_store TY; exact rfl; exact rfl; exact rfl; exact rfl; exact rfl; exact rfl))
            exact lv_ret (ret1 rfl (res_tmp rfl))
        · have hv : nearC a b cs[a] cs[b] = false := by
            unfold nearC
            rw [if_neg hab, if_neg hr]
            rw [decide_eq_false hp, Bool.and_false, Bool.false_and]
          rw [hv]
          refine summW Tryz.func126 rfl rfl 82 rfl (by simp) (fun M0 => ?_)
          repeat (first
    | (apply s_a TY; exact rfl)
    | (apply s_f; exact rfl; (first | assumption | omega))
    | apply w_seq
    | apply w_region
    | (apply w_draw1 (id := 1) 10 rfl (by kernel_rfl); exact rfl; kernel_rfl)
    | (apply s_allocB TY (d := some 7); exact rfl; exact rfl; exact rfl)
    | (apply s_sto TY; exact rfl; exact rfl; exact rfl; exact rfl; exact rfl; exact rfl; exact rfl)
    | apply s_nil
    | apply t_norm
    | apply k_norm
    | apply w_block
    | apply w_ret
    | apply w_skip
    | (apply w_condF; exact rfl; exact rfl)
    | (apply s_k1 (within_T _ _ _); exact rfl; (first | assumption | omega | decide))
    | (apply s_s; exact rfl)
    | (apply s_c TY; exact rfl; (first | omega | exact ⟨by omega, by (first | with_reducible assumption | ((with_reducible apply celsF_ne); omega) | assumption)⟩))
    | (apply s_m TY; exact rfl; (first | with_reducible assumption | ((with_reducible apply celsF_sub); omega) | exact rfl); exact rfl)
    | (apply s_alloc TY; exact rfl; exact rfl; exact rfl)
    | (apply s_store TY; exact rfl; exact rfl; exact rfl; exact rfl; exact rfl; exact rfl))
          exact lv_ret (ret1 rfl (res_tmp rfl))
      · have hv : nearC a b cs[a] cs[b] = false := by
          unfold nearC
          rw [if_neg hab, if_neg hr]
          rw [show (decide (-1 ≤ cs[a].ring - cs[b].ring) && decide (cs[a].ring - cs[b].ring ≤ 1)) = false by simp only [Bool.and_eq_false_iff, decide_eq_false_iff_not]; omega]; rfl
        rw [hv]
        refine summW Tryz.func126 rfl rfl 82 rfl (by simp) (fun M0 => ?_)
        repeat (first
    | (apply s_a TY; exact rfl)
    | (apply s_f; exact rfl; (first | assumption | omega))
    | apply w_seq
    | apply w_region
    | (apply w_draw1 (id := 1) 10 rfl (by kernel_rfl); exact rfl; kernel_rfl)
    | (apply s_allocB TY (d := some 7); exact rfl; exact rfl; exact rfl)
    | (apply s_sto TY; exact rfl; exact rfl; exact rfl; exact rfl; exact rfl; exact rfl; exact rfl)
    | apply s_nil
    | apply t_norm
    | apply k_norm
    | apply w_block
    | apply w_ret
    | apply w_skip
    | (apply w_condF; exact rfl; exact rfl)
    | (apply s_k1 (within_F _ _ _); exact rfl; (first | assumption | omega | decide))
    | (apply s_s; exact rfl)
    | (apply s_c TY; exact rfl; (first | omega | exact ⟨by omega, by (first | with_reducible assumption | ((with_reducible apply celsF_ne); omega) | assumption)⟩))
    | (apply s_m TY; exact rfl; (first | with_reducible assumption | ((with_reducible apply celsF_sub); omega) | exact rfl); exact rfl)
    | (apply s_alloc TY; exact rfl; exact rfl; exact rfl)
    | (apply s_store TY; exact rfl; exact rfl; exact rfl; exact rfl; exact rfl; exact rfl))
        exact lv_ret (ret1 rfl (res_tmp rfl))
end Go.Proofs.YtenkgipcblfocaaGreat
namespace Go.Proofs.YtenkgipcblfocaaGreat
open Go Go.RowKit Go.Proofs Go.Shelf Go.Ab
theorem ringZ_bd {rs : List Int} (o : SkyOk rs) {n : Nat} (hn : (n : Int) < befK rs rs.length) : ringZ rs n < rs.length ∧ befK rs (ringZ rs n) ≤ n ∧ (n : Int) < befK rs (ringZ rs n + 1) ∧ befK rs (ringZ rs n + 1) = befK rs (ringZ rs n) + rs.getD (ringZ rs n) default := by
  have hl := skyC_len o
  obtain ⟨h1, -, h3, h4⟩ := ring_at o (n := n) (by omega)
  have e : befK rs (ringZ rs n + 1) = befK rs (ringZ rs n) + rs.getD (ringZ rs n) default := rfl
  exact ⟨h1, by omega, by omega, e⟩
def cHlo (rs : List Int) (n : Nat) : Int × Int := fracZ (1000000 * (befK rs rs.length - 2 * (befK rs (ringZ rs n) + rs.getD (ringZ rs n) default))) (befK rs rs.length)
def cHhi (rs : List Int) (n : Nat) : Int × Int := fracZ (1000000 * (befK rs rs.length - 2 * befK rs (ringZ rs n))) (befK rs rs.length)
def cTlo (rs : List Int) (n : Nat) : Int × Int := fracZ (1000000 * ((n : Int) - befK rs (ringZ rs n))) (rs.getD (ringZ rs n) default)
def cThi (rs : List Int) (n : Nat) : Int × Int := fracZ (1000000 * ((n : Int) - befK rs (ringZ rs n) + 1)) (rs.getD (ringZ rs n) default)
def cornL (rs : List Int) (n : Nat) : List FV := [iv (cHlo rs n).1, iv (cHlo rs n).2, iv (cHhi rs n).1, iv (cHhi rs n).2, iv (cTlo rs n).1, iv (cTlo rs n).2, iv (cThi rs n).1, iv (cThi rs n).2]
end Go.Proofs.YtenkgipcblfocaaGreat
namespace Go.Proofs.YtenkgipcblfocaaGreat
open Go Go.RowKit Go.Proofs Go.Shelf Go.Ab
set_option maxRecDepth 100000 in
set_option maxHeartbeats 1600000 in
theorem CornersOf_ok (rs : List Int) (o : SkyOk rs) (n : Nat) (hn : (n : Int) < befK rs rs.length) : Summ Tryz.prog GG 73 [skF rs, iv ((n : Nat) : Int)] (.tup [.agg (cornL rs n), iv 0]) := by
  have HO := open_ok rs o
  have hb := skyC_bd o
  have hlc := skyC_len o
  have HE := cellErr_s (skyC rs) n (by omega)
  rw [hlc, celE_0 (by omega)] at HE
  have hnl : n < (skyC rs).length := by omega
  obtain ⟨h1, h2, h3, h4⟩ := ringZ_bd o hn
  obtain ⟨-, hcell, -, -⟩ := ring_at o hnl
  have hlen := o.len
  have hr := o.ring _ h1
  have hbb := befK_bd o (k := ringZ rs n) (by omega)
  have hbl := befK_bd o (Nat.le_refl rs.length)
  have hle := befK_le o (j := ringZ rs n + 1) (k := rs.length) (by omega) (Nat.le_refl _)
  have HH1 := height_s (skyC rs) (befK rs (ringZ rs n) + rs.getD (ringZ rs n) default) (by omega) (by omega)
  have HH2 := height_s (skyC rs) (befK rs (ringZ rs n)) (by omega) (by omega)
  have HL1 := fraction_s (1000000 * (befK rs rs.length - 2 * (befK rs (ringZ rs n) + rs.getD (ringZ rs n) default))) (befK rs rs.length) (by omega)
  have HL2 := fraction_s (1000000 * (befK rs rs.length - 2 * befK rs (ringZ rs n))) (befK rs rs.length) (by omega)
  have HL3 := fraction_s (1000000 * ((n : Int) - befK rs (ringZ rs n))) (rs.getD (ringZ rs n) default) (by omega)
  have HL4 := fraction_s (1000000 * ((n : Int) - befK rs (ringZ rs n) + 1)) (rs.getD (ringZ rs n) default) (by omega)
  unfold cornL cHlo cHhi cTlo cThi
  generalize fracZ (1000000 * (befK rs rs.length - 2 * (befK rs (ringZ rs n) + rs.getD (ringZ rs n) default))) (befK rs rs.length) = f1 at *
  generalize fracZ (1000000 * (befK rs rs.length - 2 * befK rs (ringZ rs n))) (befK rs rs.length) = f2 at *
  generalize fracZ (1000000 * ((n : Int) - befK rs (ringZ rs n))) (rs.getD (ringZ rs n) default) = f3 at *
  generalize fracZ (1000000 * ((n : Int) - befK rs (ringZ rs n) + 1)) (rs.getD (ringZ rs n) default) = f4 at *
  have hbf : (skyC rs)[n].before = befK rs (ringZ rs n) := by rw [hcell]
  have hct : (skyC rs)[n].count = rs.getD (ringZ rs n) default := by rw [hcell]
  have hix : (skyC rs)[n].index = (n : Int) - befK rs (ringZ rs n) := by rw [hcell]
  rw [← hix] at HL3 HL4
  rw [← hct] at HL1 HL3 HL4 HH1
  rw [← hbf] at HL1 HL2 HH1 HH2
  have hne : celsF (skyC rs) ≠ [] := celsF_ne hnl
  rw [← hlc] at HL1 HL2
  refine summW Tryz.func73 rfl rfl 61 rfl (by simp) (fun M0 => ?_)
  repeat (first
    | (apply s_a TY; exact rfl)
    | (apply s_t; exact rfl; (first | assumption | omega))
    | apply w_seq
    | apply w_region
    | (apply w_draw (id := 6) 32 rfl (by kernel_rfl))
    | apply s_nil
    | apply t_norm
    | apply w_ret
    | apply w_skip
    | (apply w_condF; exact rfl; exact rfl)
    | (apply s_k (HO); exact rfl)
    | (apply s_k (HE); exact rfl)
    | (apply s_k (HH1); exact rfl)
    | (apply s_k (HH2); exact rfl)
    | (apply s_k (HL1); exact rfl)
    | (apply s_k (HL2); exact rfl)
    | (apply s_k (HL3); exact rfl)
    | (apply s_k (HL4); exact rfl)
    | (apply s_k1 (first2_1 _ _); exact rfl; (first | assumption | omega | decide))
    | (apply s_c TY; exact rfl; (first | omega | exact ⟨by omega, by (first | with_reducible assumption | ((with_reducible apply celsF_ne); omega) | assumption)⟩))
    | (apply s_m TY; exact rfl; (first | with_reducible assumption | ((with_reducible apply celsF_sub); omega) | exact rfl); exact rfl)
    | (apply s_alloc TY; exact rfl; exact rfl; exact rfl)
    | (apply s_store TY; exact rfl; exact rfl; exact rfl; exact rfl; exact rfl; exact rfl))
  exact lv_ret (ret2 rfl (res_bxs (sub := [iv f1.1, iv f1.2, iv f2.1, iv f2.2, iv f3.1, iv f3.2, iv f4.1, iv f4.2]) TY rfl rfl rfl rfl rfl) (res_tmp rfl))
end Go.Proofs.YtenkgipcblfocaaGreat
namespace Go.Proofs.YtenkgipcblfocaaGreat
open Go Go.RowKit Go.Proofs Go.Shelf Go.Ab
end Go.Proofs.YtenkgipcblfocaaGreat
namespace Go.Proofs.YtenkgipcblfocaaGreat
open Go Go.RowKit Go.Proofs Go.Shelf Go.Ab
def nbK (q : Nat → Bool) : Nat → List Int
  | 0 => []
  | k + 1 => if q k = true then nbK q k ++ [(k : Int)] else nbK q k
theorem nbK_len (q : Nat → Bool) : ∀ k, (nbK q k).length ≤ k
  | 0 => Nat.le_refl _
  | k + 1 => by
    have := nbK_len q k
    rw [nbK]; split
    · rw [List.length_append, List.length_singleton]; omega
    · omega
set_option maxRecDepth 100000 in
set_option maxHeartbeats 1600000 in
theorem NeighboursOf_ok (rs : List Int) (o : SkyOk rs) (n : Nat) (hn : (n : Int) < befK rs rs.length) : Summ Tryz.prog GG 74 [skF rs, iv ((n : Nat) : Int)] (.tup [.sl (nbK (fun k => nearR rs n k) (skyC rs).length).length (intsF (nbK (fun k => nearR rs n k) (skyC rs).length)), iv 0]) := by
  have HO := open_ok rs o
  have hb := skyC_bd o
  have hlc := skyC_len o
  have HE := cellErr_s (skyC rs) n (by omega)
  rw [hlc, celE_0 (by omega)] at HE
  have hnl : n < (skyC rs).length := by omega
  refine summW Tryz.func74 rfl rfl 39 rfl (by simp) (fun M0 => ?_)
  repeat (first
    | (apply s_a TY; exact rfl)
    | (apply s_t; exact rfl; (first | assumption | omega))
    | apply w_seq
    | apply w_region
    | apply s_nil
    | apply t_norm
    | apply w_block
    | apply w_skip
    | (apply w_condF; exact rfl; exact rfl)
    | (apply s_k (HO); exact rfl)
    | (apply s_k (HE); exact rfl)
    | (apply s_k1 (first2_1 _ _); exact rfl; (first | assumption | omega | decide)))
  apply w_gh (gh_own 8 3 1 rfl rfl)
  apply w_loop (fun k : Nat => ⟨(Ab.upd (Ab.upd (Ab.upd (Ab.upd (Ab.upd (fun _ => .bot) 1 (.f (iv ((n : Nat) : Int)))) 6 (.f (xF (skyC rs)))) 8 (.ow 0)) 25 (.f (iv (skyC rs).length))) 26 (.f (iv (k : Nat)))), (Ab.upd (fun _ => none) 0 (some (.row 3 1 (nbK (fun k => nearR rs n k) k).length (intsF (nbK (fun k => nearR rs n k) k))))), 1⟩) (fun k => k ≤ (skyC rs).length) (fun k => (skyC rs).length - k) 0 (Nat.zero_le _) (gh_le ⟨le_upd rfl trivial (le_upd rfl trivial (le_upd rfl rfl (le_upd rfl trivial (le_upd rfl trivial (le_nil _))))), le_hupd rfl trivial (le_h0 _ _)⟩)
  intro k hk
  by_cases hc : k < (skyC rs).length
  · have HN := near_s (skyC rs) (skyC_cels o) n k hnl hc
    rw [near_eq o hnl hc] at HN
    have hnb := nbK_len (fun k => nearR rs n k) k
    cases hv : nearR rs n k with
    | true =>
      rw [hv] at HN
      have hs : (nbK (fun k => nearR rs n k) (k + 1)) = (nbK (fun k => nearR rs n k) k) ++ [(k : Int)] := by rw [nbK, if_pos hv]
      have hrow : some (Blk.row 3 1 ((nbK (fun k => nearR rs n k) k).length + 1) (intsF (nbK (fun k => nearR rs n k) k) ++ [iv ((k : Nat) : Int)])) = some (Blk.row 3 1 (nbK (fun k => nearR rs n k) (k + 1)).length (intsF (nbK (fun k => nearR rs n k) (k + 1)))) := by rw [hs, intsF_snoc, List.length_append]; rfl
      repeat (first
    | (apply s_append TY; exact rfl; exact rfl; exact rfl; exact rfl; exact rfl; exact rfl; exact rfl; exact rfl; exact rfl; (unfold maxLen; omega); omega)
    | (apply s_a TY; exact rfl)
    | (apply s_t; exact rfl; (first | assumption | omega))
    | apply w_seq
    | apply w_region
    | apply s_nil
    | apply t_norm
    | apply k_norm
    | apply w_block
    | apply w_skip
    | (apply w_condT; exact rfl; exact rfl)
    | (apply s_k (HN); exact rfl)
    | (apply s_c TY; exact rfl; omega))
      exact ⟨k + 1, by omega, by omega, gh_le ⟨le_upd rfl trivial (le_upd rfl trivial (le_upd rfl rfl (le_upd rfl trivial (le_upd rfl trivial (le_nil _))))), le_hupd hrow trivial (le_h0 _ _)⟩⟩
    | false =>
      rw [hv] at HN
      have hs : (nbK (fun k => nearR rs n k) (k + 1)) = (nbK (fun k => nearR rs n k) k) := by rw [nbK, if_neg (by rw [hv]; decide)]
      have hrow : some (Blk.row 3 1 (nbK (fun k => nearR rs n k) k).length (intsF (nbK (fun k => nearR rs n k) k))) = some (Blk.row 3 1 (nbK (fun k => nearR rs n k) (k + 1)).length (intsF (nbK (fun k => nearR rs n k) (k + 1)))) := by rw [hs]
      repeat (first
    | (apply s_a TY; exact rfl)
    | (apply s_t; exact rfl; (first | assumption | omega))
    | apply w_seq
    | apply w_region
    | apply s_nil
    | apply t_norm
    | apply k_norm
    | apply w_block
    | apply w_skip
    | (apply w_condT; exact rfl; exact rfl)
    | (apply w_condF; exact rfl; exact rfl)
    | (apply s_k (HN); exact rfl)
    | (apply s_c TY; exact rfl; omega))
      exact ⟨k + 1, by omega, by omega, gh_le ⟨le_upd rfl trivial (le_upd rfl trivial (le_upd rfl rfl (le_upd rfl trivial (le_upd rfl trivial (le_nil _))))), le_hupd hrow trivial (le_h0 _ _)⟩⟩
  · have hke : k = (skyC rs).length := by omega
    subst hke
    repeat (first
    | (apply s_a TY; exact rfl)
    | (apply s_f; exact rfl; (first | assumption | omega))
    | apply w_seq
    | apply w_region
    | apply s_nil
    | apply t_norm
    | apply t_exit
    | apply k_hit
    | apply w_exit
    | apply w_ret
    | (apply w_condF; exact rfl; exact rfl))
    exact lv_ret (ret2 rfl (res_sees rfl (sees_row rfl)) (res_tmp rfl))
end Go.Proofs.YtenkgipcblfocaaGreat
namespace Go.Proofs.YtenkgipcblfocaaGreat
open Go Go.RowKit Go.Proofs Go.Shelf Go.Ab
theorem fracZ_low {n d : Int} (h : 0 < d) : gcdZ (fracZ n d).1 (fracZ n d).2 = 1 := by
  obtain ⟨hg, hn, hd⟩ := fracZ_g (n := n) h
  rw [gcdZ_eq]
  have hG := gcdZ_eq n d
  generalize gcdZ n d = g at *
  generalize fracZ n d = q at *
  have e1 : n.natAbs = g.natAbs * q.1.natAbs := by rw [← Int.natAbs_mul, ← hn]
  have e2 : d.natAbs = g.natAbs * q.2.natAbs := by rw [← Int.natAbs_mul, ← hd]
  rw [e1, e2, Nat.gcd_mul_left] at hG
  have hp : 0 < g.natAbs := by omega
  have h1 : g.natAbs * Nat.gcd q.1.natAbs q.2.natAbs = g.natAbs * 1 := by omega
  have := Nat.eq_of_mul_eq_mul_left hp h1
  omega
theorem fracZ_abs {n d : Int} (h : 0 < d) : (fracZ n d).1.natAbs ≤ n.natAbs ∧ 1 ≤ (fracZ n d).2 ∧ (fracZ n d).2 ≤ d := by
  obtain ⟨hg, hn, hd⟩ := fracZ_g (n := n) h
  generalize gcdZ n d = g at *
  generalize fracZ n d = q at *
  obtain ⟨g, rfl⟩ : ∃ m : Nat, g = m := ⟨g.toNat, by omega⟩
  have h1 := abs_le (g := g) (by omega) hn
  have h2 := abs_le (g := g) (by omega) hd
  have h3 : 0 < q.2 := by
    refine Int.lt_of_not_ge fun hc => ?_
    have := Int.mul_nonpos_of_nonneg_of_nonpos (a := (g : Int)) (by omega) hc
    omega
  exact ⟨h1, by omega, by omega⟩
theorem fracZ_eqQ {n d : Int} (h : 0 < d) : eqQ (fracZ n d) (n, d) := by
  obtain ⟨_, h1, h2⟩ := fracZ_g (n := n) h
  show (fracZ n d).1 * d = n * (fracZ n d).2
  generalize gcdZ n d = g at *
  generalize fracZ n d = q at *
  rw [h1, h2]
  ac_rfl
theorem fracZ_one (n : Int) : fracZ n 1 = (n, 1) := by
  have hg : gcdZ n 1 = 1 := by rw [gcdZ_eq]; show ((Nat.gcd n.natAbs 1 : Nat) : Int) = 1; rw [Nat.gcd_one_right]; rfl
  unfold fracZ
  rw [hg, Int.ediv_one]; rfl
theorem cmp_fr {n d m k : Int} (hd : 0 < d) (hk : 0 < k) : cmpF (fracZ n d) (fracZ m k) = if n * k < m * d then -1 else if m * d < n * k then 1 else 0 := by
  have h1 := fracZ_cmp (n := n) (m := m) hd hk
  have h2 := fracZ_cmp (n := m) (m := n) hk hd
  unfold cmpF
  simp only [h1, h2]
theorem sgn_le {a b : Int} : (if a < b then (-1 : Int) else if b < a then 1 else 0) ≤ 0 ↔ a ≤ b := by split <;> (try split) <;> omega
theorem sgn_lt {a b : Int} : (if a < b then (-1 : Int) else if b < a then 1 else 0) < 0 ↔ a < b := by split <;> (try split) <;> omega
theorem sgn_eq {a b : Int} : (if a < b then (-1 : Int) else if b < a then 1 else 0) = 0 ↔ a = b := by split <;> (try split) <;> omega
theorem in_cmp {rs : List Int} (o : SkyOk rs) {h t : Int} (hh : -1000000 ≤ h ∧ h ≤ 1000000) (ht : 0 ≤ t ∧ t < 1000000) {n : Nat} (hn : n < (skyC rs).length) :
    (cmpF (h, 1) (cHhi rs n) ≤ 0 ∧ (cmpF (cHlo rs n) (h, 1) < 0 ∨ h = -1000000 ∧ cmpF (cHlo rs n) (h, 1) = 0) ∧ cmpF (cTlo rs n) (t, 1) ≤ 0 ∧ cmpF (t, 1) (cThi rs n) < 0) ↔ (n : Int) = cellZ rs h t := by
  obtain ⟨a1, a2, a3, a4⟩ := ring_at o hn
  have hN := befK_bd o (Nat.le_refl rs.length)
  have hpos := o.pos
  have hr := o.ring _ a1
  rw [← in_cell o hh ht hn, ← fracZ_one h, ← fracZ_one t]
  unfold cHhi cHlo cTlo cThi
  rw [cmp_fr (by decide) (by omega), cmp_fr (by omega) (by decide), cmp_fr (by omega) (by decide), cmp_fr (by decide) (by omega), sgn_le, sgn_lt, sgn_eq, sgn_le, sgn_lt]
  unfold inH inT upB
  rw [decide_eq_true_eq, decide_eq_false_iff_not]
  rw [show befK rs (ringZ rs n + 1) = befK rs (ringZ rs n) + rs.getD (ringZ rs n) default from rfl]
  generalize befK rs (ringZ rs n) = a at *
  generalize befK rs rs.length = N at *
  generalize rs.getD (ringZ rs n) default = c at *
  simp only [Int.mul_one]
  generalize h * N = u
  generalize t * c = v
  constructor
  · rintro ⟨p1, p2, p3, p4⟩
    refine ⟨⟨p1, ?_⟩, p3, p4⟩
    rcases p2 with p2 | ⟨p2, p5⟩
    · exact .inl (by omega)
    · exact .inr ⟨p2, p5⟩
  · rintro ⟨⟨p1, p2⟩, p3, p4⟩
    refine ⟨p1, ?_, p3, p4⟩
    rcases p2 with p2 | ⟨p2, p5⟩
    · exact .inl (by omega)
    · exact .inr ⟨p2, p5⟩
theorem lenQ {n d : Int} (hd : 0 < d) {k m : Nat} (h1 : lenD n.natAbs ≤ k) (h2 : lenD d.natAbs ≤ m) : lenD (mkQ n d).1.natAbs ≤ k ∧ lenD (mkQ n d).2.natAbs ≤ m :=
  ⟨Nat.le_trans (lenD_le (mkQ_abs hd).1) h1, Nat.le_trans (lenD_le (mkQ_abs hd).2) h2⟩
def subQ (a b : Int × Int) : Int × Int := mkQ (a.1 * b.2 + -b.1 * a.2) (a.2 * b.2)
def mulQ (a b : Int × Int) : Int × Int := mkQ (a.1 * b.1) (a.2 * b.2)
theorem subQ_eq {a b c d : Int × Int} (ha : 0 < a.2) (hb : 0 < b.2) (h1 : eqQ a c) (h2 : eqQ b d) : eqQ (subQ a b) (c.1 * d.2 + -d.1 * c.2, c.2 * d.2) :=
  eqQ_mk (Int.mul_pos ha hb) (eqQ_add h1 (eqQ_neg h2))
theorem mulQ_eq {a b c d : Int × Int} (ha : 0 < a.2) (hb : 0 < b.2) (h1 : eqQ a c) (h2 : eqQ b d) : eqQ (mulQ a b) (c.1 * d.1, c.2 * d.2) :=
  eqQ_mk (Int.mul_pos ha hb) (eqQ_mul h1 h2)
def rfQ (q : Int × Int) : Int × Int := mkQ q.1 q.2
structure AreaOk (f1 f2 f3 f4 ar : Int × Int) : Prop where
  lh : subQ (rfQ f2) (rfQ f1) = subQ (rfQ f2) (rfQ f1)
  hpos : 0 < (subQ (rfQ f2) (rfQ f1)).1
  tpos : 0 < (subQ (rfQ f4) (rfQ f3)).1
  same : (mulQ (subQ (rfQ f2) (rfQ f1)) (subQ (rfQ f4) (rfQ f3))).1 * ar.2 - ar.1 * (mulQ (subQ (rfQ f2) (rfQ f1)) (subQ (rfQ f4) (rfQ f3))).2 = 0
theorem area_ok {N a c k : Int} (hN : 0 < N) (hc : 0 < c) : AreaOk (fracZ (1000000 * (N - 2 * (a + c))) N) (fracZ (1000000 * (N - 2 * a)) N) (fracZ (1000000 * k) c) (fracZ (1000000 * (k + 1)) c) (mkQ 2000000000000 N) := by
  have p1 := (fracZ_abs (n := 1000000 * (N - 2 * (a + c))) hN).2.1
  have p2 := (fracZ_abs (n := 1000000 * (N - 2 * a)) hN).2.1
  have p3 := (fracZ_abs (n := 1000000 * k) hc).2.1
  have p4 := (fracZ_abs (n := 1000000 * (k + 1)) hc).2.1
  have e1 := fracZ_eqQ (n := 1000000 * (N - 2 * (a + c))) hN
  have e2 := fracZ_eqQ (n := 1000000 * (N - 2 * a)) hN
  have e3 := fracZ_eqQ (n := 1000000 * k) hc
  have e4 := fracZ_eqQ (n := 1000000 * (k + 1)) hc
  generalize fracZ (1000000 * (N - 2 * (a + c))) N = f1 at *
  generalize fracZ (1000000 * (N - 2 * a)) N = f2 at *
  generalize fracZ (1000000 * k) c = f3 at *
  generalize fracZ (1000000 * (k + 1)) c = f4 at *
  have g1 := eqQ_mk (show 0 < f1.2 by omega) e1
  have g2 := eqQ_mk (show 0 < f2.2 by omega) e2
  have g3 := eqQ_mk (show 0 < f3.2 by omega) e3
  have g4 := eqQ_mk (show 0 < f4.2 by omega) e4
  have d1 := mkQ_den (n := f1.1) (show 0 < f1.2 by omega)
  have d2 := mkQ_den (n := f2.1) (show 0 < f2.2 by omega)
  have d3 := mkQ_den (n := f3.1) (show 0 < f3.2 by omega)
  have d4 := mkQ_den (n := f4.1) (show 0 < f4.2 by omega)
  have sH := subQ_eq (a := rfQ f2) (b := rfQ f1) d2 d1 g2 g1
  have sT := subQ_eq (a := rfQ f4) (b := rfQ f3) d4 d3 g4 g3
  have dH : 0 < (subQ (rfQ f2) (rfQ f1)).2 := mkQ_den (Int.mul_pos d2 d1)
  have dT : 0 < (subQ (rfQ f4) (rfQ f3)).2 := mkQ_den (Int.mul_pos d4 d3)
  have hNN := Int.mul_pos hN hN
  have hcc := Int.mul_pos hc hc
  have nH : eqQ (1000000 * (N - 2 * a) * N + -(1000000 * (N - 2 * (a + c))) * N, N * N) (2000000 * c, N) := by
    show (1000000 * (N - 2 * a) * N + -(1000000 * (N - 2 * (a + c))) * N) * N = 2000000 * c * (N * N)
    rw [← Int.add_mul, show 1000000 * (N - 2 * a) + -(1000000 * (N - 2 * (a + c))) = 2000000 * c by omega]
    ac_rfl
  have nT : eqQ (1000000 * (k + 1) * c + -(1000000 * k) * c, c * c) (1000000, c) := by
    show (1000000 * (k + 1) * c + -(1000000 * k) * c) * c = 1000000 * (c * c)
    rw [← Int.add_mul, show 1000000 * (k + 1) + -(1000000 * k) = 1000000 by omega]
    ac_rfl
  have sH2 := eqQ_trans (show N * N ≠ 0 by omega) sH nH
  have sT2 := eqQ_trans (show c * c ≠ 0 by omega) sT nT
  have mM := mulQ_eq dH dT sH2 sT2
  have hNc := Int.mul_pos hN hc
  have nM : eqQ (2000000 * c * 1000000, N * c) (2000000000000, N) := by
    show 2000000 * c * 1000000 * N = 2000000000000 * (N * c)
    have e5 : 2000000 * c * 1000000 * N = 2000000 * 1000000 * (N * c) := by ac_rfl
    rw [e5]
    omega
  have mA := eqQ_trans (show N * c ≠ 0 by omega) mM nM
  have mB := eqQ_trans (show N ≠ 0 by omega) mA (eqQ_symm (mkQ_eq (n := 2000000000000) hN))
  refine ⟨rfl, eqQ_sign dH hN sH2 (by show 0 < 2000000 * c; omega), eqQ_sign dT hc sT2 (by show (0 : Int) < 1000000; omega), ?_⟩
  unfold eqQ at mB
  rw [mB]
  omega
theorem near_self {rs : List Int} (n : Int) : nearR rs n n = false := by unfold nearR; rw [if_pos rfl]
theorem nbK_mem {q : Nat → Bool} {z : Int} : ∀ {k : Nat}, z ∈ nbK q k ↔ ∃ m : Nat, m < k ∧ z = m ∧ q m = true
  | 0 => by simp [nbK]
  | k + 1 => by
    rw [nbK]
    constructor
    · intro h
      split at h
      · rename_i hq
        rcases List.mem_append.1 h with h | h
        · obtain ⟨m, h1, h2, h3⟩ := nbK_mem.1 h
          exact ⟨m, by omega, h2, h3⟩
        · exact ⟨k, by omega, List.mem_singleton.1 h, hq⟩
      · obtain ⟨m, h1, h2, h3⟩ := nbK_mem.1 h
        exact ⟨m, by omega, h2, h3⟩
    · rintro ⟨m, h1, h2, h3⟩
      by_cases e : m = k
      · subst e
        rw [if_pos h3]
        exact List.mem_append_right _ (List.mem_singleton.2 h2)
      · have h4 := (nbK_mem (q := q) (z := z) (k := k)).2 ⟨m, by omega, h2, h3⟩
        split
        · exact List.mem_append_left _ h4
        · exact h4
theorem nbK_lt {q : Nat → Bool} {n : Nat} (hq : q n = false) : ∀ {k : Nat}, n < k → (nbK q k).length < k
  | 0, h => absurd h (Nat.not_lt_zero _)
  | k + 1, h => by
    rw [nbK]
    by_cases e : n = k
    · subst e
      rw [if_neg (by rw [hq]; decide)]
      have := nbK_len q n
      omega
    · have h1 := nbK_lt hq (k := k) (by omega)
      split
      · rw [List.length_append, List.length_singleton]; omega
      · omega
theorem nb_back {rs : List Int} {n : Nat} {z : Int} {K : Nat} (hn : n < K) (h : z ∈ nbK (fun k => nearR rs n k) K) : ∃ m : Nat, m < K ∧ z = m ∧ (m : Int) ≠ n ∧ (nbK (fun k => nearR rs m k) K).contains (n : Int) = true := by
  obtain ⟨m, h1, h2, h3⟩ := nbK_mem.1 h
  refine ⟨m, h1, h2, fun e => ?_, ?_⟩
  · rw [e, near_self] at h3; cases h3
  · rw [List.contains_iff_mem]
    exact nbK_mem.2 ⟨n, hn, rfl, (near_symm _ _).trans h3⟩
end Go.Proofs.YtenkgipcblfocaaGreat
namespace Go.Proofs.YtenkgipcblfocaaGreat
open Go Go.RowKit Go.Proofs Go.Shelf Go.Ab
end Go.Proofs.YtenkgipcblfocaaGreat
namespace Go.Proofs.YtenkgipcblfocaaGreat
open Go Go.RowKit Go.Proofs Go.Shelf Go.Ab
end Go.Proofs.YtenkgipcblfocaaGreat
namespace Go.Proofs.YtenkgipcblfocaaGreat
open Go Go.RowKit Go.Proofs Go.Shelf Go.Ab
end Go.Proofs.YtenkgipcblfocaaGreat
namespace Go.Proofs.YtenkgipcblfocaaGreat
open Go Go.RowKit Go.Proofs Go.Shelf Go.Ab
end Go.Proofs.YtenkgipcblfocaaGreat
namespace Go.Proofs.YtenkgipcblfocaaGreat
open Go Go.RowKit Go.Proofs Go.Shelf Go.Ab
theorem len1 {z : Int} (h : -100000000 ≤ z ∧ z ≤ 100000000) : lenD z.natAbs ≤ 1 := len_lt9 (show z.natAbs < 1000000000 ^ 1 by omega)
set_option maxRecDepth 100000 in
set_option maxHeartbeats 6400000 in
theorem AlertEqualAreas_s (rs : List Int) (pt : Pt) : Summ Tryz.prog GG 13 [skF rs, ptF pt] (.v (.bool true)) := by
  have HA := awake_s
  by_cases h10 : rs.length ≤ 10
  case neg =>
    have HW := few_F rs (by omega)
    refine summW Tryz.func13 rfl rfl 239 rfl (by simp) (fun M0 => ?_)
    repeat (first
    | (apply s_a TY; exact rfl)
    | apply w_seq
    | apply w_region
    | apply s_nil
    | apply t_norm
    | apply t_ret
    | apply w_ret
    | apply w_skip
    | (apply w_condT; exact rfl; exact rfl)
    | (apply w_condF; exact rfl; exact rfl)
    | (apply s_k (HA); exact rfl)
    | (apply s_k (HW); exact rfl)
    | (apply s_s; exact rfl))
    exact lv_ret (ret1 rfl (res_tmp rfl))
  have HW := few_T rs h10
  have HCp := CopySky_s rs (by omega)
  have HS := SkyErr_s rs (by omega)
  by_cases he : (skyChk rs).2 = 0
  case neg =>
    refine summW Tryz.func13 rfl rfl 239 rfl (by simp) (fun M0 => ?_)
    repeat (first
    | (apply s_a TY; exact rfl)
    | (apply s_f; exact rfl; (first | assumption | omega))
    | apply w_seq
    | apply w_region
    | apply s_nil
    | apply t_norm
    | apply t_ret
    | apply w_ret
    | apply w_skip
    | (apply w_condT; exact rfl; exact rfl)
    | (apply w_condF; exact rfl; exact rfl)
    | (apply s_k (HA); exact rfl)
    | (apply s_k (HW); exact rfl)
    | (apply s_k (HS); exact rfl)
    | (apply s_s; exact rfl))
    exact lv_ret (ret1 rfl (res_tmp rfl))
  have o := skyOk_of he
  rw [he] at HS
  have HP := rPointErr_s pt
  by_cases op : PtOk pt
  case neg =>
    have e2 := ptE_2 (p := pt) (fun h => op ⟨h.1, h.2⟩)
    rw [e2] at HP
    refine summW Tryz.func13 rfl rfl 239 rfl (by simp) (fun M0 => ?_)
    repeat (first
    | (apply s_a TY; exact rfl)
    | (apply s_t; exact rfl; (first | assumption | omega))
    | (apply s_f; exact rfl; (first | assumption | omega))
    | apply w_seq
    | apply w_region
    | apply s_nil
    | apply t_norm
    | apply t_ret
    | apply w_ret
    | apply w_skip
    | (apply w_condT; exact rfl; exact rfl)
    | (apply w_condF; exact rfl; exact rfl)
    | (apply s_k (HA); exact rfl)
    | (apply s_k (HW); exact rfl)
    | (apply s_k (HS); exact rfl)
    | (apply s_k (HP); exact rfl))
    exact lv_ret (ret1 rfl (res_tmp rfl))
  rw [ptE_0 ⟨op.h, op.t⟩] at HP
  have H1 := CellOf_ok rs pt o ⟨op.h, op.t⟩
  obtain ⟨z1, z2, z3⟩ := cellZ_at o op.h.2 (t := pt.turn) (by have := op.t; omega)
  have hlc := skyC_len o
  have hbl := befK_bd o (Nat.le_refl rs.length)
  have hpos := o.pos
  have hlen := o.len
  refine summW Tryz.func13 rfl rfl 239 rfl (by simp) (fun M0 => ?_)
  repeat (first
    | (apply s_a TY; exact rfl)
    | (apply s_t; exact rfl; (first | assumption | omega))
    | apply w_seq
    | apply w_region
    | apply s_nil
    | apply t_norm
    | apply w_block
    | apply w_skip
    | (apply w_condF; exact rfl; exact rfl)
    | (apply s_k (HA); exact rfl)
    | (apply s_k (HW); exact rfl)
    | (apply s_k (HS); exact rfl)
    | (apply s_k (HP); exact rfl))
  apply w_loop (fun k : Nat => ⟨(Ab.upd (Ab.upd (Ab.upd (Ab.upd (fun _ => .bot) 2 (.f (.pt [.sl rs.length (intsF rs)] 0))) 3 (.f (.pt [iv pt.height, iv pt.turn] 0))) 5 (.f (iv (befK rs k)))) 6 (.f (iv ((k : Nat) : Int)))), (fun _ => none), 0⟩) (fun k => k ≤ rs.length) (fun k => rs.length - k) 0 (Nat.zero_le _) (gh_le ⟨le_upd rfl trivial (le_upd rfl trivial (le_upd rfl trivial (le_upd rfl trivial (le_nil _)))), le_h0 _ _⟩)
  intro k hk
  by_cases hc : k < rs.length
  · have hr := o.ring _ hc
    have hg := getD_at hc
    have hb := befK_bd o (show k ≤ rs.length from hk)
    have hbs : befK rs (k + 1) = befK rs k + rs[k] := by rw [← hg]; rfl
    have hat : (intsF rs)[k * 1]? = some (iv rs[k]) := intsF_at hc
    have hne : intsF rs ≠ [] := intsF_ne (k := k) hc
    rw [hg] at hr
    repeat (first
    | (apply s_a TY; exact rfl)
    | (apply s_t; exact rfl; (first | assumption | omega))
    | apply w_seq
    | apply w_region
    | apply s_nil
    | apply t_norm
    | apply k_norm
    | apply w_block
    | apply w_skip
    | (apply w_condT; exact rfl; exact rfl)
    | (apply s_c TY; exact rfl; (first | omega | exact ⟨by omega, by (first | with_reducible assumption | ((with_reducible apply intsF_ne); omega) | assumption)⟩))
    | (apply s_l TY; exact rfl; (first | exact rfl | with_reducible assumption | ((with_reducible apply intsF_at); omega) | assumption)))
    exact ⟨k + 1, by omega, by omega, gh_le ⟨le_upd rfl trivial (le_upd (congrArg (fun z => AV.f (iv z)) hbs) trivial (le_upd rfl trivial (le_upd rfl trivial (le_nil _)))), le_h0 _ _⟩⟩
  have hkl : k = rs.length := by omega
  subst hkl
  obtain ⟨n, hcell⟩ : ∃ n : Nat, (n : Int) = cellZ rs pt.height pt.turn := ⟨(cellZ rs pt.height pt.turn).toNat, by omega⟩
  rw [← hcell] at H1 z1 z2
  obtain ⟨N, hN⟩ : ∃ N : Int, N = befK rs rs.length := ⟨_, rfl⟩
  have HBW := bwithin_T (n : Int) 0 (N - 1) ⟨by omega, by omega⟩
  have HAr := RatioOf_s 2000000000000 N (by omega) (by decide) (by omega)
  rw [← hN]
  repeat (first
    | (apply s_a TY; exact rfl)
    | (apply s_t; exact rfl; (first | assumption | omega))
    | (apply s_f; exact rfl; (first | assumption | omega))
    | apply w_seq
    | apply w_region
    | (apply w_draw (id := 10) 8 rfl (by kernel_rfl))
    | apply s_nil
    | apply t_norm
    | apply t_exit
    | apply k_hit
    | apply w_block
    | apply w_exit
    | apply w_skip
    | (apply w_condF; exact rfl; exact rfl)
    | (apply s_k (HCp); exact rfl)
    | (apply s_k (H1); exact rfl)
    | (apply s_k (HBW); exact rfl)
    | (apply s_k (HAr); exact rfl)
    | (apply s_c TY; exact rfl; (first | omega | exact ⟨by omega, by (first | with_reducible assumption | ((with_reducible apply intsF_ne); omega) | assumption)⟩))
    | (apply s_alloc TY; exact rfl; exact rfl; exact rfl)
    | (apply s_store TY; exact rfl; exact rfl; exact rfl; exact rfl; exact rfl; exact rfl))
  apply w_loop (fun m : Nat => ⟨(Ab.upd (Ab.upd (Ab.upd (Ab.upd (Ab.upd (Ab.upd (fun _ => .bot) 2 (.f (.pt [.sl rs.length (intsF rs)] 0))) 3 (.f (.pt [iv pt.height, iv pt.turn] 0))) 5 (.f (iv N))) 7 (.f (iv ((n : Nat) : Int)))) 9 (.bx 0 0)) 10 (.f (iv ((m : Nat) : Int)))), (Ab.upd (fun _ => none) 0 (some (.box [.f (iv (sgI (mkQ 2000000000000 N).1)), .f (.sl (dgI (mkQ 2000000000000 N).1).length (intsF (dgI (mkQ 2000000000000 N).1))), .f (iv (sgI (mkQ 2000000000000 N).2)), .f (.sl (dgI (mkQ 2000000000000 N).2).length (intsF (dgI (mkQ 2000000000000 N).2)))]))), 1⟩) (fun m => m ≤ (skyC rs).length) (fun m => (skyC rs).length - m) 0 (Nat.zero_le _) (gh_le ⟨le_upd rfl trivial (le_upd rfl rfl (le_upd rfl trivial (le_upd rfl trivial (le_upd rfl trivial (le_upd rfl trivial (le_nil _)))))), le_hupd rfl (fun y hy => by simp at hy; rcases hy with rfl | rfl | rfl | rfl <;> trivial) (le_h0 _ _)⟩)
  intro m hm
  by_cases hmc : m < (skyC rs).length
  · have HK := CornersOf_ok rs o m (by omega)
    have hic := in_cmp o op.h (t := pt.turn) (by have := op.t; omega) hmc
    obtain ⟨r1, r2, r3, r4⟩ := ring_at o hmc
    have hr := o.ring _ r1
    have hba := befK_bd o (k := ringZ rs m) (by omega)
    have hle := befK_le o (j := ringZ rs m + 1) (k := rs.length) (by omega) (Nat.le_refl _)
    rw [show befK rs (ringZ rs m + 1) = befK rs (ringZ rs m) + rs.getD (ringZ rs m) default from rfl] at hle
    have hAr := area_ok (N := befK rs rs.length) (a := befK rs (ringZ rs m)) (c := rs.getD (ringZ rs m) default) (k := (m : Int) - befK rs (ringZ rs m)) (by omega) (by omega)
    rw [← hcell] at hic
    rw [← hN] at hAr
    have q1 := fracZ_abs (n := 1000000 * (befK rs rs.length - 2 * (befK rs (ringZ rs m) + rs.getD (ringZ rs m) default))) (d := befK rs rs.length) (by omega)
    have q2 := fracZ_abs (n := 1000000 * (befK rs rs.length - 2 * befK rs (ringZ rs m))) (d := befK rs rs.length) (by omega)
    have q3 := fracZ_abs (n := 1000000 * ((m : Int) - befK rs (ringZ rs m))) (d := rs.getD (ringZ rs m) default) (by omega)
    have q4 := fracZ_abs (n := 1000000 * ((m : Int) - befK rs (ringZ rs m) + 1)) (d := rs.getD (ringZ rs m) default) (by omega)
    have w1 := fracZ_low (n := 1000000 * (befK rs rs.length - 2 * (befK rs (ringZ rs m) + rs.getD (ringZ rs m) default))) (d := befK rs rs.length) (by omega)
    have w2 := fracZ_low (n := 1000000 * (befK rs rs.length - 2 * befK rs (ringZ rs m))) (d := befK rs rs.length) (by omega)
    have w3 := fracZ_low (n := 1000000 * ((m : Int) - befK rs (ringZ rs m))) (d := rs.getD (ringZ rs m) default) (by omega)
    have w4 := fracZ_low (n := 1000000 * ((m : Int) - befK rs (ringZ rs m) + 1)) (d := rs.getD (ringZ rs m) default) (by omega)
    rw [hN] at hAr
    change AreaOk (cHlo rs m) (cHhi rs m) (cTlo rs m) (cThi rs m) _ at hAr
    change (cHlo rs m).1.natAbs ≤ _ ∧ 1 ≤ (cHlo rs m).2 ∧ (cHlo rs m).2 ≤ _ at q1
    change (cHhi rs m).1.natAbs ≤ _ ∧ 1 ≤ (cHhi rs m).2 ∧ (cHhi rs m).2 ≤ _ at q2
    change (cTlo rs m).1.natAbs ≤ _ ∧ 1 ≤ (cTlo rs m).2 ∧ (cTlo rs m).2 ≤ _ at q3
    change (cThi rs m).1.natAbs ≤ _ ∧ 1 ≤ (cThi rs m).2 ∧ (cThi rs m).2 ≤ _ at q4
    change gcdZ (cHlo rs m).1 (cHlo rs m).2 = 1 at w1
    change gcdZ (cHhi rs m).1 (cHhi rs m).2 = 1 at w2
    change gcdZ (cTlo rs m).1 (cTlo rs m).2 = 1 at w3
    change gcdZ (cThi rs m).1 (cThi rs m).2 = 1 at w4
    rw [← hN] at hAr
    unfold cornL at HK
    generalize cHlo rs m = g1 at *
    generalize cHhi rs m = g2 at *
    generalize cTlo rs m = g3 at *
    generalize cThi rs m = g4 at *
    replace q1 : (-100000000 ≤ g1.1 ∧ g1.1 ≤ 100000000) ∧ 1 ≤ g1.2 ∧ g1.2 ≤ 96 := by omega
    replace q2 : (-100000000 ≤ g2.1 ∧ g2.1 ≤ 100000000) ∧ 1 ≤ g2.2 ∧ g2.2 ≤ 96 := by omega
    replace q3 : (-100000000 ≤ g3.1 ∧ g3.1 ≤ 100000000) ∧ 1 ≤ g3.2 ∧ g3.2 ≤ 96 := by omega
    replace q4 : (-100000000 ≤ g4.1 ∧ g4.1 ≤ 100000000) ∧ 1 ≤ g4.2 ∧ g4.2 ≤ 96 := by omega
    have HL1 := lowest_s g1 g2 (by omega) (by omega) w1 (by omega) (by omega) w2
    have HL2 := lowest_s g3 g4 (by omega) (by omega) w3 (by omega) (by omega) w4
    have F1 := RatioFrom_s g1 (by omega) (by omega) (by omega)
    have F2 := RatioFrom_s g2 (by omega) (by omega) (by omega)
    have F3 := RatioFrom_s g3 (by omega) (by omega) (by omega)
    have F4 := RatioFrom_s g4 (by omega) (by omega) (by omega)
    change Summ _ _ _ _ (rF (rfQ g1)) at F1
    change Summ _ _ _ _ (rF (rfQ g2)) at F2
    change Summ _ _ _ _ (rF (rfQ g3)) at F3
    change Summ _ _ _ _ (rF (rfQ g4)) at F4
    have l1 := lenQ (n := g1.1) (d := g1.2) (by omega) (len1 q1.1) (len1 ⟨by omega, by omega⟩)
    have l2 := lenQ (n := g2.1) (d := g2.2) (by omega) (len1 q2.1) (len1 ⟨by omega, by omega⟩)
    have l3 := lenQ (n := g3.1) (d := g3.2) (by omega) (len1 q3.1) (len1 ⟨by omega, by omega⟩)
    have l4 := lenQ (n := g4.1) (d := g4.2) (by omega) (len1 q4.1) (len1 ⟨by omega, by omega⟩)
    change lenD (rfQ g1).1.natAbs ≤ 1 ∧ lenD (rfQ g1).2.natAbs ≤ 1 at l1
    change lenD (rfQ g2).1.natAbs ≤ 1 ∧ lenD (rfQ g2).2.natAbs ≤ 1 at l2
    change lenD (rfQ g3).1.natAbs ≤ 1 ∧ lenD (rfQ g3).2.natAbs ≤ 1 at l3
    change lenD (rfQ g4).1.natAbs ≤ 1 ∧ lenD (rfQ g4).2.natAbs ≤ 1 at l4
    have d1 : 0 < (rfQ g1).2 := mkQ_den (by omega)
    have d2 : 0 < (rfQ g2).2 := mkQ_den (by omega)
    have d3 : 0 < (rfQ g3).2 := mkQ_den (by omega)
    have d4 : 0 < (rfQ g4).2 := mkQ_den (by omega)
    have HH := RatioSub_s (rfQ g2) (rfQ g1) d2 d1 (Nat.le_trans l2.1 (by decide)) (Nat.le_trans l2.2 (by decide)) (Nat.le_trans l1.1 (by decide)) (Nat.le_trans l1.2 (by decide))
    have HT := RatioSub_s (rfQ g4) (rfQ g3) d4 d3 (Nat.le_trans l4.1 (by decide)) (Nat.le_trans l4.2 (by decide)) (Nat.le_trans l3.1 (by decide)) (Nat.le_trans l3.2 (by decide))
    change Summ _ _ _ _ (rF (subQ (rfQ g2) (rfQ g1))) at HH
    change Summ _ _ _ _ (rF (subQ (rfQ g4) (rfQ g3))) at HT
    have lH := lenQ (Int.mul_pos d2 d1) (lenA (lenM l2.1 l1.2) (lenM (show lenD (-(rfQ g1).1).natAbs ≤ 1 by rw [Int.natAbs_neg]; exact l1.1) l2.2)) (lenM l2.2 l1.2)
    have lT := lenQ (Int.mul_pos d4 d3) (lenA (lenM l4.1 l3.2) (lenM (show lenD (-(rfQ g3).1).natAbs ≤ 1 by rw [Int.natAbs_neg]; exact l3.1) l4.2)) (lenM l4.2 l3.2)
    change lenD (subQ (rfQ g2) (rfQ g1)).1.natAbs ≤ 3 ∧ lenD (subQ (rfQ g2) (rfQ g1)).2.natAbs ≤ 2 at lH
    change lenD (subQ (rfQ g4) (rfQ g3)).1.natAbs ≤ 3 ∧ lenD (subQ (rfQ g4) (rfQ g3)).2.natAbs ≤ 2 at lT
    have dH : 0 < (subQ (rfQ g2) (rfQ g1)).2 := mkQ_den (Int.mul_pos d2 d1)
    have dT : 0 < (subQ (rfQ g4) (rfQ g3)).2 := mkQ_den (Int.mul_pos d4 d3)
    obtain ⟨_, hp1, hp2, hsm⟩ := hAr
    generalize subQ (rfQ g2) (rfQ g1) = D at *
    generalize subQ (rfQ g4) (rfQ g3) = E at *
    generalize rfQ g1 = u1 at *
    generalize rfQ g2 = u2 at *
    generalize rfQ g3 = u3 at *
    generalize rfQ g4 = u4 at *
    have HG1 := RatioSign_s D
    have HG2 := RatioSign_s E
    rw [sgI_pos hp1] at HG1
    rw [sgI_pos hp2] at HG2
    have HM := RatioMul_s D E dH dT (Nat.le_trans lH.1 (by decide)) (Nat.le_trans lH.2 (by decide)) (Nat.le_trans lT.1 (by decide)) (Nat.le_trans lT.2 (by decide))
    change Summ _ _ _ _ (rF (mulQ D E)) at HM
    have lM := lenQ (Int.mul_pos dH dT) (lenM lH.1 lT.1) (lenM lH.2 lT.2)
    change lenD (mulQ D E).1.natAbs ≤ 6 ∧ lenD (mulQ D E).2.natAbs ≤ 4 at lM
    have lR := lenQ (n := 2000000000000) (d := N) (by omega) (wof_len (by decide)) (wof_len ⟨by omega, by omega⟩)
    generalize mulQ D E = M at *
    have HQ := RatioCmp_s M (mkQ 2000000000000 N) (Nat.le_trans lM.1 (by decide)) (Nat.le_trans lM.2 (by decide)) (Nat.le_trans lR.1 (by decide)) (Nat.le_trans lR.2 (by decide))
    rw [hsm] at HQ
    change Summ _ _ _ _ (iv 0) at HQ
    have U1 := Whole_s pt.height
    have U2 := Whole_s pt.turn
    have hph := op.h
    have hpt := op.t
    have PB : ∀ {x y : Int}, -1000000 ≤ x ∧ x ≤ 1000000 → 1 ≤ y ∧ y ≤ 96 → -9000000000000000000 ≤ x * y ∧ x * y ≤ 9000000000000000000 := fun {x y} hx hy => by
      have := mul_bd (a := x) (b := y) (A := 1000000) (B := 96) (by omega) (by omega)
      omega
    have B1 := PB hph q1.2
    have B2 := PB hph q2.2
    have B3 := PB (x := pt.turn) ⟨by omega, by omega⟩ q3.2
    have B4 := PB (x := pt.turn) ⟨by omega, by omega⟩ q4.2
    have K1 := Cmp_s (pt.height, 1) g2 B2 (by show _ ≤ g2.1 * 1 ∧ g2.1 * 1 ≤ _; omega)
    have K2 := Cmp_s g1 (pt.height, 1) (by show _ ≤ g1.1 * 1 ∧ g1.1 * 1 ≤ _; omega) B1
    have K3 := Cmp_s g3 (pt.turn, 1) (by show _ ≤ g3.1 * 1 ∧ g3.1 * 1 ≤ _; omega) B3
    have K4 := Cmp_s (pt.turn, 1) g4 B4 (by show _ ≤ g4.1 * 1 ∧ g4.1 * 1 ≤ _; omega)
    repeat (first
    | (apply s_a TY; exact rfl)
    | (apply s_t; exact rfl; (first | assumption | omega))
    | (apply s_f; exact rfl; (first | assumption | omega))
    | apply w_seq
    | apply w_region
    | (apply w_draw (id := 20) 10 rfl (by kernel_rfl))
    | (apply w_draw (id := 21) 10 rfl (by kernel_rfl))
    | (apply w_draw (id := 22) 13 rfl (by kernel_rfl))
    | (apply w_draw (id := 24) 8 rfl (by kernel_rfl))
    | apply s_nil
    | apply t_norm
    | apply w_block
    | apply w_skip
    | (apply w_condT; exact rfl; exact rfl)
    | (apply w_condF; exact rfl; exact rfl)
    | (apply s_k (HCp); exact rfl)
    | (apply s_k (HK); exact rfl)
    | (apply s_k (HL1); exact rfl)
    | (apply s_k (HL2); exact rfl)
    | (apply s_k (F1); exact rfl)
    | (apply s_k (F2); exact rfl)
    | (apply s_k (F3); exact rfl)
    | (apply s_k (F4); exact rfl)
    | (apply s_k (HH); exact rfl)
    | (apply s_k (HT); exact rfl)
    | (apply s_k (HG1); exact rfl)
    | (apply s_k (HG2); exact rfl)
    | (apply s_k (HM); exact rfl)
    | (apply s_k (HQ); exact rfl)
    | (apply s_k (U1); exact rfl)
    | (apply s_k (U2); exact rfl)
    | (apply s_k (K1); exact rfl)
    | (apply s_alloc TY; exact rfl; exact rfl; exact rfl)
    | (apply s_store TY; exact rfl; exact rfl; exact rfl; exact rfl; exact rfl; exact rfl))
    by_cases c1 : cmpF (pt.height, 1) g2 ≤ 0
    · by_cases c2 : cmpF g1 (pt.height, 1) < 0
      · by_cases c4 : cmpF g3 (pt.turn, 1) ≤ 0
        · by_cases c5 : cmpF (pt.turn, 1) g4 < 0
          · have hin : ((m : Nat) : Int) = (n : Nat) := by
              exact hic.1 ⟨c1, .inl c2, c4, c5⟩
            repeat (first
    | (apply s_neb Tryz.underlying4; exact rfl; exact rfl; exact rfl; exact rfl)
    | (apply s_a TY; exact rfl)
    | (apply s_t; exact rfl; (first | assumption | omega))
    | apply w_seq
    | apply w_region
    | apply s_nil
    | apply t_norm
    | apply k_norm
    | apply w_skip
    | (apply w_condF; exact rfl; exact rfl)
    | (apply s_k (K2); exact rfl)
    | (apply s_k (K3); exact rfl)
    | (apply s_k (K4); exact rfl)
    | (apply s_s; exact rfl)
    | (apply s_c TY; exact rfl; (first | omega | exact ⟨by omega, by (first | with_reducible assumption | ((with_reducible apply intsF_ne); omega) | assumption)⟩)))
            exact ⟨m + 1, by omega, by omega, gh_le ⟨le_upd rfl trivial (le_upd rfl rfl (le_upd rfl trivial (le_upd rfl trivial (le_upd rfl trivial (le_upd rfl trivial (le_nil _)))))), le_hupd rfl (fun y hy => by simp at hy; rcases hy with rfl | rfl | rfl | rfl <;> trivial) (le_h0 _ _)⟩⟩
          · have hin : ¬ ((m : Nat) : Int) = (n : Nat) := by
              intro hc
              obtain ⟨k1, k2, k3, k4⟩ := hic.2 hc
              exact c5 k4
            repeat (first
    | (apply s_neb Tryz.underlying4; exact rfl; exact rfl; exact rfl; exact rfl)
    | (apply s_a TY; exact rfl)
    | (apply s_t; exact rfl; (first | assumption | omega))
    | (apply s_f; exact rfl; (first | assumption | omega))
    | apply w_seq
    | apply w_region
    | apply s_nil
    | apply t_norm
    | apply k_norm
    | apply w_skip
    | (apply w_condF; exact rfl; exact rfl)
    | (apply s_k (K2); exact rfl)
    | (apply s_k (K3); exact rfl)
    | (apply s_k (K4); exact rfl)
    | (apply s_s; exact rfl)
    | (apply s_c TY; exact rfl; (first | omega | exact ⟨by omega, by (first | with_reducible assumption | ((with_reducible apply intsF_ne); omega) | assumption)⟩)))
            exact ⟨m + 1, by omega, by omega, gh_le ⟨le_upd rfl trivial (le_upd rfl rfl (le_upd rfl trivial (le_upd rfl trivial (le_upd rfl trivial (le_upd rfl trivial (le_nil _)))))), le_hupd rfl (fun y hy => by simp at hy; rcases hy with rfl | rfl | rfl | rfl <;> trivial) (le_h0 _ _)⟩⟩
        · have hin : ¬ ((m : Nat) : Int) = (n : Nat) := by
            intro hc
            obtain ⟨k1, k2, k3, k4⟩ := hic.2 hc
            exact c4 k3
          repeat (first
    | (apply s_neb Tryz.underlying4; exact rfl; exact rfl; exact rfl; exact rfl)
    | (apply s_a TY; exact rfl)
    | (apply s_t; exact rfl; (first | assumption | omega))
    | (apply s_f; exact rfl; (first | assumption | omega))
    | apply w_seq
    | apply w_region
    | apply s_nil
    | apply t_norm
    | apply k_norm
    | apply w_skip
    | (apply w_condF; exact rfl; exact rfl)
    | (apply s_k (K2); exact rfl)
    | (apply s_k (K3); exact rfl)
    | (apply s_s; exact rfl)
    | (apply s_c TY; exact rfl; (first | omega | exact ⟨by omega, by (first | with_reducible assumption | ((with_reducible apply intsF_ne); omega) | assumption)⟩)))
          exact ⟨m + 1, by omega, by omega, gh_le ⟨le_upd rfl trivial (le_upd rfl rfl (le_upd rfl trivial (le_upd rfl trivial (le_upd rfl trivial (le_upd rfl trivial (le_nil _)))))), le_hupd rfl (fun y hy => by simp at hy; rcases hy with rfl | rfl | rfl | rfl <;> trivial) (le_h0 _ _)⟩⟩
      · by_cases c3 : pt.height = -1000000
        · by_cases c6 : cmpF g1 (pt.height, 1) = 0
          · by_cases c4 : cmpF g3 (pt.turn, 1) ≤ 0
            · by_cases c5 : cmpF (pt.turn, 1) g4 < 0
              · have hin : ((m : Nat) : Int) = (n : Nat) := by
                  exact hic.1 ⟨c1, .inr ⟨c3, c6⟩, c4, c5⟩
                repeat (first
    | (apply s_neb Tryz.underlying4; exact rfl; exact rfl; exact rfl; exact rfl)
    | (apply s_a TY; exact rfl)
    | (apply s_t; exact rfl; (first | assumption | omega))
    | (apply s_f; exact rfl; (first | assumption | omega))
    | apply w_seq
    | apply w_region
    | apply s_nil
    | apply t_norm
    | apply k_norm
    | apply w_skip
    | (apply w_condF; exact rfl; exact rfl)
    | (apply s_k (K2); exact rfl)
    | (apply s_k (K3); exact rfl)
    | (apply s_k (K4); exact rfl)
    | (apply s_c TY; exact rfl; (first | omega | exact ⟨by omega, by (first | with_reducible assumption | ((with_reducible apply intsF_ne); omega) | assumption)⟩)))
                exact ⟨m + 1, by omega, by omega, gh_le ⟨le_upd rfl trivial (le_upd rfl rfl (le_upd rfl trivial (le_upd rfl trivial (le_upd rfl trivial (le_upd rfl trivial (le_nil _)))))), le_hupd rfl (fun y hy => by simp at hy; rcases hy with rfl | rfl | rfl | rfl <;> trivial) (le_h0 _ _)⟩⟩
              · have hin : ¬ ((m : Nat) : Int) = (n : Nat) := by
                  intro hc
                  obtain ⟨k1, k2, k3, k4⟩ := hic.2 hc
                  exact c5 k4
                repeat (first
    | (apply s_neb Tryz.underlying4; exact rfl; exact rfl; exact rfl; exact rfl)
    | (apply s_a TY; exact rfl)
    | (apply s_t; exact rfl; (first | assumption | omega))
    | (apply s_f; exact rfl; (first | assumption | omega))
    | apply w_seq
    | apply w_region
    | apply s_nil
    | apply t_norm
    | apply k_norm
    | apply w_skip
    | (apply w_condF; exact rfl; exact rfl)
    | (apply s_k (K2); exact rfl)
    | (apply s_k (K3); exact rfl)
    | (apply s_k (K4); exact rfl)
    | (apply s_c TY; exact rfl; (first | omega | exact ⟨by omega, by (first | with_reducible assumption | ((with_reducible apply intsF_ne); omega) | assumption)⟩)))
                exact ⟨m + 1, by omega, by omega, gh_le ⟨le_upd rfl trivial (le_upd rfl rfl (le_upd rfl trivial (le_upd rfl trivial (le_upd rfl trivial (le_upd rfl trivial (le_nil _)))))), le_hupd rfl (fun y hy => by simp at hy; rcases hy with rfl | rfl | rfl | rfl <;> trivial) (le_h0 _ _)⟩⟩
            · have hin : ¬ ((m : Nat) : Int) = (n : Nat) := by
                intro hc
                obtain ⟨k1, k2, k3, k4⟩ := hic.2 hc
                exact c4 k3
              repeat (first
    | (apply s_neb Tryz.underlying4; exact rfl; exact rfl; exact rfl; exact rfl)
    | (apply s_a TY; exact rfl)
    | (apply s_t; exact rfl; (first | assumption | omega))
    | (apply s_f; exact rfl; (first | assumption | omega))
    | apply w_seq
    | apply w_region
    | apply s_nil
    | apply t_norm
    | apply k_norm
    | apply w_skip
    | (apply w_condF; exact rfl; exact rfl)
    | (apply s_k (K2); exact rfl)
    | (apply s_k (K3); exact rfl)
    | (apply s_s; exact rfl)
    | (apply s_c TY; exact rfl; (first | omega | exact ⟨by omega, by (first | with_reducible assumption | ((with_reducible apply intsF_ne); omega) | assumption)⟩)))
              exact ⟨m + 1, by omega, by omega, gh_le ⟨le_upd rfl trivial (le_upd rfl rfl (le_upd rfl trivial (le_upd rfl trivial (le_upd rfl trivial (le_upd rfl trivial (le_nil _)))))), le_hupd rfl (fun y hy => by simp at hy; rcases hy with rfl | rfl | rfl | rfl <;> trivial) (le_h0 _ _)⟩⟩
          · have hin : ¬ ((m : Nat) : Int) = (n : Nat) := by
              intro hc
              obtain ⟨k1, k2, k3, k4⟩ := hic.2 hc
              rcases k2 with k2 | ⟨k2, k5⟩
              · exact c2 k2
              · exact c6 k5
            repeat (first
    | (apply s_neb Tryz.underlying4; exact rfl; exact rfl; exact rfl; exact rfl)
    | (apply s_a TY; exact rfl)
    | (apply s_t; exact rfl; (first | assumption | omega))
    | (apply s_f; exact rfl; (first | assumption | omega))
    | apply w_seq
    | apply w_region
    | apply s_nil
    | apply t_norm
    | apply k_norm
    | apply w_skip
    | (apply w_condF; exact rfl; exact rfl)
    | (apply s_k (K2); exact rfl)
    | (apply s_s; exact rfl)
    | (apply s_c TY; exact rfl; (first | omega | exact ⟨by omega, by (first | with_reducible assumption | ((with_reducible apply intsF_ne); omega) | assumption)⟩)))
            exact ⟨m + 1, by omega, by omega, gh_le ⟨le_upd rfl trivial (le_upd rfl rfl (le_upd rfl trivial (le_upd rfl trivial (le_upd rfl trivial (le_upd rfl trivial (le_nil _)))))), le_hupd rfl (fun y hy => by simp at hy; rcases hy with rfl | rfl | rfl | rfl <;> trivial) (le_h0 _ _)⟩⟩
        · have hin : ¬ ((m : Nat) : Int) = (n : Nat) := by
            intro hc
            obtain ⟨k1, k2, k3, k4⟩ := hic.2 hc
            rcases k2 with k2 | ⟨k2, k5⟩
            · exact c2 k2
            · exact c3 k2
          repeat (first
    | (apply s_neb Tryz.underlying4; exact rfl; exact rfl; exact rfl; exact rfl)
    | (apply s_a TY; exact rfl)
    | (apply s_t; exact rfl; (first | assumption | omega))
    | (apply s_f; exact rfl; (first | assumption | omega))
    | apply w_seq
    | apply w_region
    | apply s_nil
    | apply t_norm
    | apply k_norm
    | apply w_skip
    | (apply w_condF; exact rfl; exact rfl)
    | (apply s_k (K2); exact rfl)
    | (apply s_s; exact rfl)
    | (apply s_c TY; exact rfl; (first | omega | exact ⟨by omega, by (first | with_reducible assumption | ((with_reducible apply intsF_ne); omega) | assumption)⟩)))
          exact ⟨m + 1, by omega, by omega, gh_le ⟨le_upd rfl trivial (le_upd rfl rfl (le_upd rfl trivial (le_upd rfl trivial (le_upd rfl trivial (le_upd rfl trivial (le_nil _)))))), le_hupd rfl (fun y hy => by simp at hy; rcases hy with rfl | rfl | rfl | rfl <;> trivial) (le_h0 _ _)⟩⟩
    · have hin : ¬ ((m : Nat) : Int) = (n : Nat) := by
        intro hc
        obtain ⟨k1, k2, k3, k4⟩ := hic.2 hc
        exact c1 k1
      repeat (first
    | (apply s_neb Tryz.underlying4; exact rfl; exact rfl; exact rfl; exact rfl)
    | (apply s_a TY; exact rfl)
    | (apply s_f; exact rfl; (first | assumption | omega))
    | apply w_seq
    | apply w_region
    | apply s_nil
    | apply t_norm
    | apply k_norm
    | apply w_skip
    | (apply w_condF; exact rfl; exact rfl)
    | (apply s_s; exact rfl)
    | (apply s_c TY; exact rfl; (first | omega | exact ⟨by omega, by (first | with_reducible assumption | ((with_reducible apply intsF_ne); omega) | assumption)⟩)))
      exact ⟨m + 1, by omega, by omega, gh_le ⟨le_upd rfl trivial (le_upd rfl rfl (le_upd rfl trivial (le_upd rfl trivial (le_upd rfl trivial (le_upd rfl trivial (le_nil _)))))), le_hupd rfl (fun y hy => by simp at hy; rcases hy with rfl | rfl | rfl | rfl <;> trivial) (le_h0 _ _)⟩⟩
  have hmN : m = (skyC rs).length := by omega
  have HNb := NeighboursOf_ok rs o n (by omega)
  have hnl : n < (skyC rs).length := by omega
  have hlt := nbK_lt (q := fun k => nearR rs n k) (near_self _) hnl
  have hnb := fun (z : Int) (hz : z ∈ nbK (fun k => nearR rs n k) (skyC rs).length) => nb_back hnl hz
  generalize nbK (fun k => nearR rs n k) (skyC rs).length = L at *
  repeat (first
    | (apply s_a TY; exact rfl)
    | (apply s_t; exact rfl; (first | assumption | omega))
    | (apply s_f; exact rfl; (first | assumption | omega))
    | apply w_seq
    | apply w_region
    | apply s_nil
    | apply t_norm
    | apply t_exit
    | apply k_hit
    | apply w_block
    | apply w_exit
    | apply w_skip
    | (apply w_condF; exact rfl; exact rfl)
    | (apply s_k (HCp); exact rfl)
    | (apply s_k (HNb); exact rfl))
  apply w_loop (fun j : Nat => ⟨(Ab.upd (Ab.upd (Ab.upd (Ab.upd (Ab.upd (fun _ => .bot) 2 (.f (.pt [.sl rs.length (intsF rs)] 0))) 5 (.f (iv N))) 7 (.f (iv ((n : Nat) : Int)))) 18 (.f (.sl L.length (intsF L)))) 20 (.f (iv ((j : Nat) : Int)))), (fun _ => none), 0⟩) (fun j => j ≤ L.length) (fun j => L.length - j) 0 (Nat.zero_le _) (gh_le ⟨le_upd rfl trivial (le_upd rfl trivial (le_upd rfl trivial (le_upd rfl trivial (le_upd rfl trivial (le_nil _))))), le_h0 _ _⟩)
  intro j hj
  by_cases hjc : j < L.length
  · obtain ⟨b, hb1, hb2, hb3, hb4⟩ := hnb L[j] (List.getElem_mem hjc)
    have hat : (intsF L)[j * 1]? = some (iv ((b : Nat) : Int)) := by rw [intsF_at hjc, hb2]
    have hne : intsF L ≠ [] := intsF_ne (k := j) hjc
    have HB1 := bwithin_T (b : Int) 0 (N - 1) ⟨by omega, by omega⟩
    have HNb2 := NeighboursOf_ok rs o b (by omega)
    have hbl := nbK_len (fun k => nearR rs b k) (skyC rs).length
    have HHs := Has_s (nbK (fun k => nearR rs b k) (skyC rs).length) (n : Int) (by omega)
    rw [hb4] at HHs
    generalize nbK (fun k => nearR rs b k) (skyC rs).length = L2 at *
    repeat (first
    | (apply s_a TY; exact rfl)
    | (apply s_t; exact rfl; (first | assumption | omega))
    | (apply s_f; exact rfl; (first | assumption | omega))
    | apply w_seq
    | apply w_region
    | (apply w_draw (id := 36) 11 rfl (by kernel_rfl))
    | apply s_nil
    | apply t_norm
    | apply k_norm
    | apply w_block
    | apply w_skip
    | (apply w_condT; exact rfl; exact rfl)
    | (apply w_condF; exact rfl; exact rfl)
    | (apply s_k (HCp); exact rfl)
    | (apply s_k (HB1); exact rfl)
    | (apply s_k (HNb2); exact rfl)
    | (apply s_k (HHs); exact rfl)
    | (apply s_c TY; exact rfl; (first | omega | exact ⟨by omega, by (first | with_reducible assumption | ((with_reducible apply intsF_ne); omega) | assumption)⟩))
    | (apply s_l TY; exact rfl; (first | exact rfl | with_reducible assumption | ((with_reducible apply intsF_at); omega) | assumption)))
    exact ⟨j + 1, by omega, by omega, gh_le ⟨le_upd rfl trivial (le_upd rfl trivial (le_upd rfl trivial (le_upd rfl trivial (le_upd rfl trivial (le_nil _))))), le_h0 _ _⟩⟩
  · repeat (first
    | (apply s_a TY; exact rfl)
    | (apply s_f; exact rfl; (first | assumption | omega))
    | apply w_seq
    | apply w_region
    | apply s_nil
    | apply t_norm
    | apply t_exit
    | apply k_hit
    | apply w_exit
    | apply w_ret
    | (apply w_condF; exact rfl; exact rfl))
    exact lv_ret (ret1 rfl (res_tmp rfl))
end Go.Proofs.YtenkgipcblfocaaGreat
namespace Go.Ab
open Go Go.RowKit
section
variable {P : Program} {w : World}
end
end Go.Ab
namespace Go.Proofs.YtenkgipcblfocaaGreat
open Go Go.Ab Go.ChangeShapes Go.WideShapes Go.ChangeAt Go.RowKit
theorem ownKnobT : ownKnob Tryz.prog.godebug = none := by kernel_rfl
theorem laidOutT : laidOutB Tryz.prog = true := by kernel_rfl
theorem trodAll_stays {H : Type} {enc : TypeId × Value → H} {W W' : World} {sp : Nat → Bool} (hb : Below W.heap.size W W') : ∀ {ts : List TypeId} {vs : List Value} {ds : List (DataW H)} {ps : List MemPlace}, (∀ t ∈ ts, Tryz.prog.readableRec t = true ∧ t < Tryz.prog.types.size) → DataW.TrodAll enc Tryz.prog W 0 (fun _ => true) true ts vs ds ps → (∀ p ∈ ps, p.block < W.heap.size) → (∀ p ∈ ps, sp p.block = true) → DataW.TrodAll enc Tryz.prog W' 0 sp true ts vs ds ps
  | [], [], [], _, _, h, _, _ => h
  | t :: ts, v :: vs, d :: ds, ps, ht, ⟨p, q, h1, h2, e⟩, hlt, hsp => by
    have hp : ∀ x ∈ p, x ∈ ps := fun x hx => by rw [e]; exact List.mem_append_left _ hx
    have hq : ∀ x ∈ q, x ∈ ps := fun x hx => by rw [e]; exact List.mem_append_right _ hx
    exact ⟨p, q, WideElems.Trod_stays laidOutT (ht t (by simp)).1 (ht t (by simp)).2 h1 (fun x hx => hb.same (hlt x (hp x hx))) (fun x hx => hsp x (hp x hx)),
      trodAll_stays hb (fun u hu => ht u (by simp [hu])) h2 (fun x hx => hlt x (hq x hx)) (fun x hx => hsp x (hq x hx)), e⟩
theorem post_law {H : Type} {enc : TypeId × Value → H} {f : Func} {s : ChangeSpec} {W W' : World} {args : Array Value} {ds gs : List (DataW H)} {before : List MemPlace}
    (hW : DataW.Whole enc Tryz.prog f.params.toList s.vars false W args.toList ds gs before) (hv : s.vars = []) (hr : f.resultTypes = #[4])
    (ht : ∀ t ∈ f.params.toList, Tryz.prog.readableRec t = true ∧ t < Tryz.prog.types.size)
    (hres : (s.fn H (ds ++ gs)).results = [.lit (.bool true)]) (hargs : (s.fn H (ds ++ gs)).args = ds) (hvs : (s.fn H (ds ++ gs)).vars = [])
    (hb : Below W.heap.size W W') : s.post enc Tryz.prog f false true false false W args (.bool true) W' := by
  have hlt := hW.lt
  have hW0 := hW
  obtain ⟨p, q, h1, h2, e, hz, hn⟩ := hW
  have h2' := h2
  rw [hv] at h2'
  have hq : gs = [] ∧ q = [] := by
    cases gs with
    | nil => exact ⟨rfl, h2'⟩
    | cons g r => exact absurd h2' (by intro h; cases h)
  obtain ⟨rfl, rfl⟩ := hq
  rw [List.append_nil] at e
  subst e
  refine ⟨ds, [], before, [], before, [], hW0, ?_, ?_, ?_, Below.frame hb _, fun h => by cases h⟩
  · rw [hr, hres]; exact trodAll_mk1 (shut_bool Tryz.underlying4 true)
  · rw [hargs]
    exact trodAll_stays hb ht h1 hlt (fun x hx => by simpa using hlt x hx)
  · rw [hv, hvs]; rfl
theorem sq_map {α : Type} (f : α → FV) : ∀ l : List α, l.flatMap (fun x => [f x]) = l.map f
  | [] => rfl
  | x :: l => by rw [List.flatMap_cons, sq_map f l]; rfl
section
variable {W : World}
theorem opens_i : Opens Tryz.prog W 3 (fun z : Int => [iv z]) := opens_int Tryz.underlying3
theorem opens_pt : Opens Tryz.prog W 23 (fun p : Pt => [iv p.height, iv p.turn]) := (opens_st Tryz.underlying23 (by kernel_rfl) (ofs_cons (s := 1) (by kernel_rfl) rfl opens_i (ofs_cons (s := 1) (by kernel_rfl) rfl opens_i (ofs_nil)))).map (fun p => ⟨p.1, p.2.1⟩) fun _ => rfl
theorem opens_ints : Opens Tryz.prog W 34 (fun l : List Int => [.sl l.length (intsF l)]) := (opens_sl (s := 1) Tryz.underlying34 (by kernel_rfl) (by decide) opens_i).map id fun l => by rw [sq_map]; rfl
theorem opens_sky : Opens Tryz.prog W 36 (fun l : List Int => [.sl l.length (intsF l)]) := (opens_st Tryz.underlying36 (by kernel_rfl) (ofs_cons (s := 1) (by kernel_rfl) rfl opens_ints (ofs_nil))).map (fun p => p.1) fun _ => rfl
end
set_option maxRecDepth 100000 in
theorem arg_st {H : Type} {enc : TypeId × Value → H} {W : World} {base : Nat} {T : TypeId} {fs : Array Field} {α : Type} {f : α → List FV} {v : Value} {d : DataW H} {ps : List MemPlace} (h : Opens Tryz.prog W T f) (ht : Tryz.prog.underlying T = some (.struct fs)) (hv : Value.okWide Tryz.prog W .any base T v) (hd : DataW.Trod enc Tryz.prog W 0 (fun _ => true) true T v d ps) : ∃ a, RepF W (fun _ => False) v (.agg (f a)) := by
  obtain ⟨cs, e, _⟩ := okWide_struct ht hv
  exact arg_agg h e hd
theorem law_calls {f : Nat} {xs : List FV} (S : Summ Tryz.prog GG f xs (.v (.bool true))) {W : World} {args : Array Value} (R : RepL W (fun _ => False) args.toList xs) : Calls Tryz.prog f args W fun e W' => e = .returned (.bool true) ∧ Below W.heap.size W W' := by
  have := S.call W (fun _ => False) args.toList (fun _ h => h.elim) (fun g cs h => by cases h) R
  simp only [Array.toArray_toList] at this
  refine this.mono fun e w' ⟨v, h1, h2, h3⟩ => ⟨?_, h3⟩
  rw [h1, repV h2]
end Go.Proofs.YtenkgipcblfocaaGreat
