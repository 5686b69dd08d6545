/- Laws on which the proofs of this seat stand. No condition. -/
import Derived.Test.YtbkdjlahhcofmaaGreatDoorK3
import Derived.Shelf.SlSortCmp.WholeK
import Derived.Shelf.SlSortCmp.NoneTotal
namespace Go.Proofs.YtbkdjlahhcofmaaGreatDoor
open Go Go.RowKit Go.Proofs Go.Shelf Go.Ab
theorem twithin_T (n lo hi : Int) (h : lo <= n /\ n <= hi) : Summ Tryz.prog GG 216 [iv n, iv lo, iv hi] (.v (.bool true)) := by
 obtain ⟨h1, h2⟩ := h
 refine summW Tryz.func216 rfl rfl 15 rfl (by simp) (fun M0 => ?_)
 repeat (first
 | (apply s_a TY; exact rfl)
 | (apply s_t; exact rfl; assumption)
 | apply w_seq
 | apply w_region
 | apply s_nil
 | apply t_norm
 | apply w_ret)
 exact lv_ret (ret1 rfl (res_tmp rfl))
theorem twithin_F (n lo hi : Int) (h : ¬ (lo <= n /\ n <= hi)) : Summ Tryz.prog GG 216 [iv n, iv lo, iv hi] (.v (.bool false)) := by
 by_cases h1 : lo <= n
 · have h2 : ¬ n <= hi := fun h2 => h ⟨h1, h2⟩
   refine summW Tryz.func216 rfl rfl 15 rfl (by simp) (fun M0 => ?_)
   repeat (first
 | (apply s_a TY; exact rfl)
 | (apply s_t; exact rfl; assumption)
 | (apply s_f; exact rfl; assumption)
 | apply w_seq
 | apply w_region
 | apply s_nil
 | apply t_norm
 | apply w_ret)
   exact lv_ret (ret1 rfl (res_tmp rfl))
 · refine summW Tryz.func216 rfl rfl 15 rfl (by simp) (fun M0 => ?_)
   repeat (first
 | (apply s_a TY; exact rfl)
 | (apply s_f; exact rfl; assumption)
 | apply w_seq
 | apply w_region
 | apply s_nil
 | apply t_norm
 | apply w_ret
 | (apply s_s; exact rfl))
   exact lv_ret (ret1 rfl (res_tmp rfl))
theorem twithin_s (n lo hi : Int) : Summ Tryz.prog GG 216 [iv n, iv lo, iv hi] (bv (withinB n lo hi)) := by
 by_cases h : lo <= n /\ n <= hi
 · rw [show withinB n lo hi = true by simp [withinB, h]]; exact twithin_T n lo hi h
 · rw [show withinB n lo hi = false by simp [withinB]; omega]; exact twithin_F n lo hi h
theorem tunless_T (k : Int) : Summ Tryz.prog GG 106 [.v (.bool true), iv k] (iv 0) := by
 refine summW Tryz.func106 rfl rfl 7 rfl (by simp) (fun M0 => ?_)
 repeat (first
 | (apply s_a TY; exact rfl)
 | apply w_seq
 | apply w_region
 | apply s_nil
 | apply t_norm
 | apply t_ret
 | apply w_ret
 | (apply w_condT; exact rfl; exact rfl))
 exact lv_ret (ret1 rfl (res_tmp rfl))
theorem tunless_F (k : Int) : Summ Tryz.prog GG 106 [.v (.bool false), iv k] (iv k) := by
 refine summW Tryz.func106 rfl rfl 7 rfl (by simp) (fun M0 => ?_)
 repeat (first
 | (apply s_a TY; exact rfl)
 | apply w_seq
 | apply w_region
 | apply s_nil
 | apply t_norm
 | apply w_ret
 | apply w_skip
 | (apply w_condF; exact rfl; exact rfl))
 exact lv_ret (ret1 rfl (res_tmp rfl))
theorem tunless_s (b : Bool) (k : Int) : Summ Tryz.prog GG 106 [bv b, iv k] (iv (unlessE b k)) := by
 cases b
 · exact tunless_F k
 · exact tunless_T k
set_option maxRecDepth 100000 in
theorem tfirst_s (l : List Int) (hl : l.length <= 1000000) : Summ Tryz.prog GG 105 [.sl l.length (intsF l)] (iv (firstE l)) := by
 refine summW Tryz.func105 rfl rfl 15 rfl (by simp) (fun M0 => ?_)
 repeat (first
 | (apply s_a TY; exact rfl)
 | apply w_seq
 | apply w_region
 | apply s_nil
 | apply t_norm
 | apply w_block)
 apply w_loop (fun k : Nat => ⟨(Ab.upd (Ab.upd (Ab.upd (fun _ => .bot) 5 (.f (.sl l.length (intsF l)))) 6 (.f (iv l.length))) 7 (.f (iv (k : Nat)))), (fun _ => none), 0⟩) (fun k => k <= l.length /\ ∀ j (hj : j < l.length), j < k -> l[j] = 0) (fun k => l.length - k) 0 (⟨Nat.zero_le _, fun j _ h => absurd h (Nat.not_lt_zero j)⟩) (gh_le ⟨le_upd rfl trivial (le_upd rfl trivial (le_upd rfl trivial (le_nil _))), le_h0 _ _⟩)
 intro k ⟨hk, hz⟩
 by_cases hc : k < l.length
 · by_cases he : l[k] = 0
   · repeat (first
 | (apply s_a TY; exact rfl)
 | (apply s_t; exact rfl; (first | assumption | omega))
 | apply w_seq
 | apply w_region
 | apply s_nil
 | apply t_norm
 | apply k_norm
 | apply w_block
 | apply w_skip
 | (apply w_condT; exact rfl; exact rfl)
 | (apply w_condF; exact rfl; exact rfl)
 | (apply s_c TY; exact rfl; (first | omega | exact ⟨by omega, by (((with_reducible apply intsF_ne); omega))⟩))
 | (apply s_l TY; exact rfl; (((with_reducible apply intsF_at); omega))))
     exact ⟨k + 1, ⟨by omega, fun j hj hlt => by
      by_cases e : j = k
      · subst e; exact he
      · exact hz j hj (by omega)⟩, by omega, gh_le ⟨le_upd rfl trivial (le_upd rfl trivial (le_upd rfl trivial (le_nil _))), le_h0 _ _⟩⟩
   · rw [firstE_at hc (fun j hj hlt => hz j hj hlt) he]
     repeat (first
 | (apply s_a TY; exact rfl)
 | (apply s_t; exact rfl; omega)
 | (apply s_f; exact rfl; assumption)
 | apply w_seq
 | apply w_region
 | apply s_nil
 | apply t_norm
 | apply t_ret
 | apply k_ret
 | apply w_block
 | apply w_ret
 | apply w_skip
 | (apply w_condT; exact rfl; exact rfl)
 | (apply s_c TY; exact rfl; (exact ⟨by omega, by (((with_reducible apply intsF_ne); omega))⟩))
 | (apply s_l TY; exact rfl; (((with_reducible apply intsF_at); omega))))
     exact lv_ret (ret1 rfl (res_tmp rfl))
 · rw [firstE_zeros (fun j hj => hz j hj (by omega))]
   repeat (first
 | (apply s_a TY; exact rfl)
 | (apply s_f; exact rfl; omega)
 | apply w_seq
 | apply w_region
 | apply s_nil
 | apply t_norm
 | apply t_exit
 | apply k_hit
 | apply w_exit
 | apply w_ret
 | (apply w_condF; exact rfl; exact rfl))
   exact lv_ret (ret1 rfl (res_tmp rfl))
theorem tfirst2_s (a0 a1 : Int) : Summ Tryz.prog GG 105 [.sl 2 [iv a0, iv a1]] (iv (firstE [a0, a1])) := tfirst_s [a0, a1] (by simp)
theorem tfirst2_0 (a0 a1 : Int) (h : a0 ≠ 0) : Summ Tryz.prog GG 105 [.sl 2 [iv a0, iv a1]] (iv a0) := by
 have := tfirst_s [a0, a1] (by simp)
 rwa [show firstE [a0, a1] = a0 by simp [firstE, h]] at this
theorem tfirst2_1 (a0 a1 : Int) (h : a0 = 0) : Summ Tryz.prog GG 105 [.sl 2 [iv a0, iv a1]] (iv a1) := by
 have := tfirst_s [a0, a1] (by simp)
 rwa [show firstE [a0, a1] = a1 by simp [firstE, h] <;> exact fun e => e.symm] at this
theorem tfirst3_s (a0 a1 a2 : Int) : Summ Tryz.prog GG 105 [.sl 3 [iv a0, iv a1, iv a2]] (iv (firstE [a0, a1, a2])) := tfirst_s [a0, a1, a2] (by simp)
theorem tfirst4_0 (a0 a1 a2 a3 : Int) (h : a0 ≠ 0) : Summ Tryz.prog GG 105 [.sl 4 [iv a0, iv a1, iv a2, iv a3]] (iv a0) := by
 have := tfirst_s [a0, a1, a2, a3] (by simp)
 rwa [show firstE [a0, a1, a2, a3] = a0 by simp [firstE, h]] at this
theorem tfirst4_1 (a0 a1 a2 a3 : Int) (h : a0 = 0 /\ a1 ≠ 0) : Summ Tryz.prog GG 105 [.sl 4 [iv a0, iv a1, iv a2, iv a3]] (iv a1) := by
 have := tfirst_s [a0, a1, a2, a3] (by simp)
 rwa [show firstE [a0, a1, a2, a3] = a1 by simp [firstE, h]] at this
theorem tfirst4_2 (a0 a1 a2 a3 : Int) (h : a0 = 0 /\ a1 = 0 /\ a2 ≠ 0) : Summ Tryz.prog GG 105 [.sl 4 [iv a0, iv a1, iv a2, iv a3]] (iv a2) := by
 have := tfirst_s [a0, a1, a2, a3] (by simp)
 rwa [show firstE [a0, a1, a2, a3] = a2 by simp [firstE, h]] at this
theorem tfirst4_3 (a0 a1 a2 a3 : Int) (h : a0 = 0 /\ a1 = 0 /\ a2 = 0) : Summ Tryz.prog GG 105 [.sl 4 [iv a0, iv a1, iv a2, iv a3]] (iv a3) := by
 have := tfirst_s [a0, a1, a2, a3] (by simp)
 rwa [show firstE [a0, a1, a2, a3] = a3 by simp [firstE, h] <;> exact fun e => e.symm] at this
theorem isNumber_T (n : Int) (h : 1 <= n /\ n <= 100) : Summ Tryz.prog GG 110 [iv n] (.v (.bool true)) := by
 refine summW Tryz.func110 rfl rfl 5 rfl (by simp) (fun M0 => ?_)
 repeat (first
 | (apply s_a TY; exact rfl)
 | apply w_seq
 | apply w_region
 | apply s_nil
 | apply t_norm
 | apply w_ret
 | (apply s_k1 (twithin_T _ _ _); exact rfl; assumption))
 exact lv_ret (ret1 rfl (res_tmp rfl))
theorem isNumber_F (n : Int) (h : ¬ (1 <= n /\ n <= 100)) : Summ Tryz.prog GG 110 [iv n] (.v (.bool false)) := by
 refine summW Tryz.func110 rfl rfl 5 rfl (by simp) (fun M0 => ?_)
 repeat (first
 | (apply s_a TY; exact rfl)
 | apply w_seq
 | apply w_region
 | apply s_nil
 | apply t_norm
 | apply w_ret
 | (apply s_k1 (twithin_F _ _ _); exact rfl; assumption))
 exact lv_ret (ret1 rfl (res_tmp rfl))
theorem isWindow_T (n : Int) (h : 0 <= n /\ n <= 1000000) : Summ Tryz.prog GG 217 [iv n] (.v (.bool true)) := by
 refine summW Tryz.func217 rfl rfl 5 rfl (by simp) (fun M0 => ?_)
 repeat (first
 | (apply s_a TY; exact rfl)
 | apply w_seq
 | apply w_region
 | apply s_nil
 | apply t_norm
 | apply w_ret
 | (apply s_k1 (twithin_T _ _ _); exact rfl; assumption))
 exact lv_ret (ret1 rfl (res_tmp rfl))
theorem isWindow_F (n : Int) (h : ¬ (0 <= n /\ n <= 1000000)) : Summ Tryz.prog GG 217 [iv n] (.v (.bool false)) := by
 refine summW Tryz.func217 rfl rfl 5 rfl (by simp) (fun M0 => ?_)
 repeat (first
 | (apply s_a TY; exact rfl)
 | apply w_seq
 | apply w_region
 | apply s_nil
 | apply t_norm
 | apply w_ret
 | (apply s_k1 (twithin_F _ _ _); exact rfl; assumption))
 exact lv_ret (ret1 rfl (res_tmp rfl))
theorem isWindow_s (n : Int) : Summ Tryz.prog GG 217 [iv n] (bv (withinB n 0 1000000)) := by
 by_cases h : 0 <= n /\ n <= 1000000
 · rw [show withinB n 0 1000000 = true by simp [withinB, h]]; exact isWindow_T n h
 · rw [show withinB n 0 1000000 = false by simp [withinB]; omega]; exact isWindow_F n h
theorem isTick_T (n : Int) (h : 0 <= n /\ n <= 1000000000000) : Summ Tryz.prog GG 109 [iv n] (.v (.bool true)) := by
 refine summW Tryz.func109 rfl rfl 5 rfl (by simp) (fun M0 => ?_)
 repeat (first
 | (apply s_a TY; exact rfl)
 | apply w_seq
 | apply w_region
 | apply s_nil
 | apply t_norm
 | apply w_ret
 | (apply s_k1 (twithin_T _ _ _); exact rfl; assumption))
 exact lv_ret (ret1 rfl (res_tmp rfl))
theorem isTick_F (n : Int) (h : ¬ (0 <= n /\ n <= 1000000000000)) : Summ Tryz.prog GG 109 [iv n] (.v (.bool false)) := by
 refine summW Tryz.func109 rfl rfl 5 rfl (by simp) (fun M0 => ?_)
 repeat (first
 | (apply s_a TY; exact rfl)
 | apply w_seq
 | apply w_region
 | apply s_nil
 | apply t_norm
 | apply w_ret
 | (apply s_k1 (twithin_F _ _ _); exact rfl; assumption))
 exact lv_ret (ret1 rfl (res_tmp rfl))
theorem isTick_s (n : Int) : Summ Tryz.prog GG 109 [iv n] (bv (withinB n 0 1000000000000)) := by
 by_cases h : 0 <= n /\ n <= 1000000000000
 · rw [show withinB n 0 1000000000000 = true by simp [withinB, h]]; exact isTick_T n h
 · rw [show withinB n 0 1000000000000 = false by simp [withinB]; omega]; exact isTick_F n h
theorem isPlace_T (n : Int) (h : -100000 <= n /\ n <= 100000) : Summ Tryz.prog GG 286 [iv n] (.v (.bool true)) := by
 refine summW Tryz.func286 rfl rfl 5 rfl (by simp) (fun M0 => ?_)
 repeat (first
 | (apply s_a TY; exact rfl)
 | apply w_seq
 | apply w_region
 | apply s_nil
 | apply t_norm
 | apply w_ret
 | (apply s_k1 (twithin_T _ _ _); exact rfl; assumption))
 exact lv_ret (ret1 rfl (res_tmp rfl))
theorem isPlace_F (n : Int) (h : ¬ (-100000 <= n /\ n <= 100000)) : Summ Tryz.prog GG 286 [iv n] (.v (.bool false)) := by
 refine summW Tryz.func286 rfl rfl 5 rfl (by simp) (fun M0 => ?_)
 repeat (first
 | (apply s_a TY; exact rfl)
 | apply w_seq
 | apply w_region
 | apply s_nil
 | apply t_norm
 | apply w_ret
 | (apply s_k1 (twithin_F _ _ _); exact rfl; assumption))
 exact lv_ret (ret1 rfl (res_tmp rfl))
theorem rIsNumber_T (n : Int) (h : 1 <= n /\ n <= 100) : Summ Tryz.prog GG 86 [iv n] (.v (.bool true)) := by
 refine summW Tryz.func86 rfl rfl 5 rfl (by simp) (fun M0 => ?_)
 repeat (first
 | (apply s_a TY; exact rfl)
 | apply w_seq
 | apply w_region
 | apply s_nil
 | apply t_norm
 | apply w_ret
 | (apply s_k1 (bwithin_T _ _ _); exact rfl; assumption))
 exact lv_ret (ret1 rfl (res_tmp rfl))
theorem rIsNumber_F (n : Int) (h : ¬ (1 <= n /\ n <= 100)) : Summ Tryz.prog GG 86 [iv n] (.v (.bool false)) := by
 refine summW Tryz.func86 rfl rfl 5 rfl (by simp) (fun M0 => ?_)
 repeat (first
 | (apply s_a TY; exact rfl)
 | apply w_seq
 | apply w_region
 | apply s_nil
 | apply t_norm
 | apply w_ret
 | (apply s_k1 (bwithin_F _ _ _); exact rfl; assumption))
 exact lv_ret (ret1 rfl (res_tmp rfl))
theorem rIsPlace_T (n : Int) (h : -100000 <= n /\ n <= 100000) : Summ Tryz.prog GG 280 [iv n] (.v (.bool true)) := by
 refine summW Tryz.func280 rfl rfl 5 rfl (by simp) (fun M0 => ?_)
 repeat (first
 | (apply s_a TY; exact rfl)
 | apply w_seq
 | apply w_region
 | apply s_nil
 | apply t_norm
 | apply w_ret
 | (apply s_k1 (bwithin_T _ _ _); exact rfl; assumption))
 exact lv_ret (ret1 rfl (res_tmp rfl))
theorem rIsPlace_F (n : Int) (h : ¬ (-100000 <= n /\ n <= 100000)) : Summ Tryz.prog GG 280 [iv n] (.v (.bool false)) := by
 refine summW Tryz.func280 rfl rfl 5 rfl (by simp) (fun M0 => ?_)
 repeat (first
 | (apply s_a TY; exact rfl)
 | apply w_seq
 | apply w_region
 | apply s_nil
 | apply t_norm
 | apply w_ret
 | (apply s_k1 (bwithin_F _ _ _); exact rfl; assumption))
 exact lv_ret (ret1 rfl (res_tmp rfl))
theorem rIsWindow_T (n : Int) (h : 0 <= n /\ n <= 1000000) : Summ Tryz.prog GG 205 [iv n] (.v (.bool true)) := by
 refine summW Tryz.func205 rfl rfl 5 rfl (by simp) (fun M0 => ?_)
 repeat (first
 | (apply s_a TY; exact rfl)
 | apply w_seq
 | apply w_region
 | apply s_nil
 | apply t_norm
 | apply w_ret
 | (apply s_k1 (bwithin_T _ _ _); exact rfl; assumption))
 exact lv_ret (ret1 rfl (res_tmp rfl))
theorem rIsWindow_F (n : Int) (h : ¬ (0 <= n /\ n <= 1000000)) : Summ Tryz.prog GG 205 [iv n] (.v (.bool false)) := by
 refine summW Tryz.func205 rfl rfl 5 rfl (by simp) (fun M0 => ?_)
 repeat (first
 | (apply s_a TY; exact rfl)
 | apply w_seq
 | apply w_region
 | apply s_nil
 | apply t_norm
 | apply w_ret
 | (apply s_k1 (bwithin_F _ _ _); exact rfl; assumption))
 exact lv_ret (ret1 rfl (res_tmp rfl))
theorem bIsTick_T (n : Int) (h : 0 <= n /\ n <= 1000000000000) : Summ Tryz.prog GG 14 [iv n] (.v (.bool true)) := by
 refine summW Tryz.func14 rfl rfl 5 rfl (by simp) (fun M0 => ?_)
 repeat (first
 | (apply s_a TY; exact rfl)
 | apply w_seq
 | apply w_region
 | apply s_nil
 | apply t_norm
 | apply w_ret
 | (apply s_k1 (bwithin_T _ _ _); exact rfl; assumption))
 exact lv_ret (ret1 rfl (res_tmp rfl))
theorem bIsTick_F (n : Int) (h : ¬ (0 <= n /\ n <= 1000000000000)) : Summ Tryz.prog GG 14 [iv n] (.v (.bool false)) := by
 refine summW Tryz.func14 rfl rfl 5 rfl (by simp) (fun M0 => ?_)
 repeat (first
 | (apply s_a TY; exact rfl)
 | apply w_seq
 | apply w_region
 | apply s_nil
 | apply t_norm
 | apply w_ret
 | (apply s_k1 (bwithin_F _ _ _); exact rfl; assumption))
 exact lv_ret (ret1 rfl (res_tmp rfl))
theorem isSized_T (n m : Int) (h : -m <= n /\ n <= m) (hm : 0 <= m /\ m <= 4000000000000) : Summ Tryz.prog GG 131 [iv n, iv m] (.v (.bool true)) := by
 refine summW Tryz.func131 rfl rfl 10 rfl (by simp) (fun M0 => ?_)
 repeat (first
 | (apply s_a TY; exact rfl)
 | apply w_seq
 | apply w_region
 | apply s_nil
 | apply t_norm
 | apply w_ret
 | (apply s_k1 (twithin_T _ _ _); exact rfl; assumption)
 | (apply s_c TY; exact rfl; omega))
 exact lv_ret (ret1 rfl (res_tmp rfl))
theorem isSized_F (n m : Int) (h : ¬ (-m <= n /\ n <= m)) (hm : 0 <= m /\ m <= 4000000000000) : Summ Tryz.prog GG 131 [iv n, iv m] (.v (.bool false)) := by
 refine summW Tryz.func131 rfl rfl 10 rfl (by simp) (fun M0 => ?_)
 repeat (first
 | (apply s_a TY; exact rfl)
 | apply w_seq
 | apply w_region
 | apply s_nil
 | apply t_norm
 | apply w_ret
 | (apply s_k1 (twithin_F _ _ _); exact rfl; assumption)
 | (apply s_c TY; exact rfl; omega))
 exact lv_ret (ret1 rfl (res_tmp rfl))
theorem isSized_s (n m : Int) (hm : 0 <= m /\ m <= 4000000000000) : Summ Tryz.prog GG 131 [iv n, iv m] (bv (withinB n (-m) m)) := by
 by_cases h : -m <= n /\ n <= m
 · rw [show withinB n (-m) m = true by simp [withinB, h]]; exact isSized_T n m h hm
 · rw [show withinB n (-m) m = false by simp [withinB]; omega]; exact isSized_F n m h hm
set_option maxRecDepth 100000 in
theorem eachRule_s (l : List Rule) (g : Nat) (caps : List FV) (er : Nat -> Int) (hl : l.length <= 1000000) (hg : ∀ i (hi : i < l.length), Summ Tryz.prog GG g ([iv i, .agg (ruleF l[i])] ++ caps) (iv (er i))) : Summ Tryz.prog GG 231 [.sl l.length (rulesF l), .fn g caps] (.tup [iv (eachE l.length er).1, iv (eachE l.length er).2]) := by
 rcases eachE_cases l.length er with ⟨he, hz⟩ | ⟨q, hq, hz, hne, he⟩
 all_goals rw [he]
 · refine summW Tryz.func231 rfl rfl 25 rfl (by simp) (fun M0 => ?_)
   repeat (first
 | (apply s_a TY; exact rfl)
 | apply w_seq
 | apply w_region
 | apply s_nil
 | apply t_norm
 | apply w_block)
   apply w_loop (fun k : Nat => ⟨(Ab.upd (Ab.upd (Ab.upd (Ab.upd (fun _ => .bot) 1 (.f (.fn g caps))) 9 (.f (.sl l.length (rulesF l)))) 10 (.f (iv l.length))) 11 (.f (iv (k : Nat)))), (fun _ => none), 0⟩) (fun k => k <= l.length) (fun k => l.length - k) 0 (Nat.zero_le _) (gh_le ⟨le_upd rfl trivial (le_upd rfl trivial (le_upd rfl trivial (le_upd rfl trivial (le_nil _)))), le_h0 _ _⟩)
   intro k hk
   by_cases hc : k < l.length
   · have Hc := hg k hc
     rw [hz k hc] at Hc
     repeat (first
 | (apply s_a TY; exact rfl)
 | (apply s_t; exact rfl; omega)
 | apply w_seq
 | apply w_region
 | apply s_nil
 | apply t_norm
 | apply k_norm
 | apply w_block
 | apply w_skip
 | (apply w_condT; exact rfl; exact rfl)
 | (apply w_condF; exact rfl; exact rfl)
 | (apply s_k (Hc); exact rfl)
 | (apply s_c TY; exact rfl; (first | omega | exact ⟨by omega, by (((with_reducible apply rulesF_ne); omega))⟩))
 | (apply s_m TY; exact rfl; (((with_reducible apply rulesF_sub); omega)); exact rfl)
 | (apply s_alloc TY; exact rfl; exact rfl; exact rfl)
 | (apply s_store TY; (iterate 6 exact rfl)))
     exact ⟨k + 1, by omega, by omega, gh_le ⟨le_upd rfl trivial (le_upd rfl trivial (le_upd rfl trivial (le_upd rfl trivial (le_nil _)))), le_h0 _ _⟩⟩
   · repeat (first
 | (apply s_a TY; exact rfl)
 | (apply s_f; exact rfl; omega)
 | apply w_seq
 | apply w_region
 | apply s_nil
 | apply t_norm
 | apply t_exit
 | apply k_hit
 | apply w_exit
 | apply w_ret
 | (apply w_condF; exact rfl; exact rfl))
     exact lv_ret (ret2 rfl (res_tmp rfl) (res_tmp rfl))
 · refine summW Tryz.func231 rfl rfl 25 rfl (by simp) (fun M0 => ?_)
   repeat (first
 | (apply s_a TY; exact rfl)
 | apply w_seq
 | apply w_region
 | apply s_nil
 | apply t_norm
 | apply w_block)
   apply w_loop (fun k : Nat => ⟨(Ab.upd (Ab.upd (Ab.upd (Ab.upd (fun _ => .bot) 1 (.f (.fn g caps))) 9 (.f (.sl l.length (rulesF l)))) 10 (.f (iv l.length))) 11 (.f (iv (k : Nat)))), (fun _ => none), 0⟩) (fun k => k <= q) (fun k => q - k) 0 (Nat.zero_le _) (gh_le ⟨le_upd rfl trivial (le_upd rfl trivial (le_upd rfl trivial (le_upd rfl trivial (le_nil _)))), le_h0 _ _⟩)
   intro k hk
   have hc : k < l.length := by omega
   have Hc := hg k hc
   by_cases hkq : k = q
   · subst hkq
     repeat (first
 | (apply s_a TY; exact rfl)
 | (apply s_t; exact rfl; omega)
 | (apply s_f; exact rfl; assumption)
 | apply w_seq
 | apply w_region
 | apply s_nil
 | apply t_norm
 | apply t_ret
 | apply k_ret
 | apply w_block
 | apply w_ret
 | apply w_skip
 | (apply w_condT; exact rfl; exact rfl)
 | (apply s_k (Hc); exact rfl)
 | (apply s_c TY; exact rfl; (exact ⟨by omega, by (((with_reducible apply rulesF_ne); omega))⟩))
 | (apply s_m TY; exact rfl; (((with_reducible apply rulesF_sub); omega)); exact rfl)
 | (apply s_alloc TY; exact rfl; exact rfl; exact rfl)
 | (apply s_store TY; (iterate 6 exact rfl)))
     exact lv_ret (ret2 rfl (res_tmp rfl) (res_tmp rfl))
   · rw [hz k (by omega)] at Hc
     repeat (first
 | (apply s_a TY; exact rfl)
 | (apply s_t; exact rfl; omega)
 | apply w_seq
 | apply w_region
 | apply s_nil
 | apply t_norm
 | apply k_norm
 | apply w_block
 | apply w_skip
 | (apply w_condT; exact rfl; exact rfl)
 | (apply w_condF; exact rfl; exact rfl)
 | (apply s_k (Hc); exact rfl)
 | (apply s_c TY; exact rfl; (first | omega | exact ⟨by omega, by (((with_reducible apply rulesF_ne); omega))⟩))
 | (apply s_m TY; exact rfl; (((with_reducible apply rulesF_sub); omega)); exact rfl)
 | (apply s_alloc TY; exact rfl; exact rfl; exact rfl)
 | (apply s_store TY; (iterate 6 exact rfl)))
     exact ⟨k + 1, by omega, by omega, gh_le ⟨le_upd rfl trivial (le_upd rfl trivial (le_upd rfl trivial (le_upd rfl trivial (le_nil _)))), le_h0 _ _⟩⟩
set_option maxRecDepth 100000 in
theorem eachHit_s (l : List Hit) (g : Nat) (caps : List FV) (er : Nat -> Int) (hl : l.length <= 1000000) (hg : ∀ i (hi : i < l.length), Summ Tryz.prog GG g ([iv i, .agg (hitF l[i])] ++ caps) (iv (er i))) : Summ Tryz.prog GG 292 [.sl l.length (hitsF l), .fn g caps] (.tup [iv (eachE l.length er).1, iv (eachE l.length er).2]) := by
 rcases eachE_cases l.length er with ⟨he, hz⟩ | ⟨q, hq, hz, hne, he⟩
 all_goals rw [he]
 · refine summW Tryz.func292 rfl rfl 25 rfl (by simp) (fun M0 => ?_)
   repeat (first
 | (apply s_a TY; exact rfl)
 | apply w_seq
 | apply w_region
 | apply s_nil
 | apply t_norm
 | apply w_block)
   apply w_loop (fun k : Nat => ⟨(Ab.upd (Ab.upd (Ab.upd (Ab.upd (fun _ => .bot) 1 (.f (.fn g caps))) 9 (.f (.sl l.length (hitsF l)))) 10 (.f (iv l.length))) 11 (.f (iv (k : Nat)))), (fun _ => none), 0⟩) (fun k => k <= l.length) (fun k => l.length - k) 0 (Nat.zero_le _) (gh_le ⟨le_upd rfl trivial (le_upd rfl trivial (le_upd rfl trivial (le_upd rfl trivial (le_nil _)))), le_h0 _ _⟩)
   intro k hk
   by_cases hc : k < l.length
   · have Hc := hg k hc
     rw [hz k hc] at Hc
     repeat (first
 | (apply s_a TY; exact rfl)
 | (apply s_t; exact rfl; omega)
 | apply w_seq
 | apply w_region
 | apply s_nil
 | apply t_norm
 | apply k_norm
 | apply w_block
 | apply w_skip
 | (apply w_condT; exact rfl; exact rfl)
 | (apply w_condF; exact rfl; exact rfl)
 | (apply s_k (Hc); exact rfl)
 | (apply s_c TY; exact rfl; (first | omega | exact ⟨by omega, by (((with_reducible apply hitsF_ne); omega))⟩))
 | (apply s_m TY; exact rfl; (((with_reducible apply hitsF_sub); omega)); exact rfl)
 | (apply s_alloc TY; exact rfl; exact rfl; exact rfl)
 | (apply s_store TY; (iterate 6 exact rfl)))
     exact ⟨k + 1, by omega, by omega, gh_le ⟨le_upd rfl trivial (le_upd rfl trivial (le_upd rfl trivial (le_upd rfl trivial (le_nil _)))), le_h0 _ _⟩⟩
   · repeat (first
 | (apply s_a TY; exact rfl)
 | (apply s_f; exact rfl; omega)
 | apply w_seq
 | apply w_region
 | apply s_nil
 | apply t_norm
 | apply t_exit
 | apply k_hit
 | apply w_exit
 | apply w_ret
 | (apply w_condF; exact rfl; exact rfl))
     exact lv_ret (ret2 rfl (res_tmp rfl) (res_tmp rfl))
 · refine summW Tryz.func292 rfl rfl 25 rfl (by simp) (fun M0 => ?_)
   repeat (first
 | (apply s_a TY; exact rfl)
 | apply w_seq
 | apply w_region
 | apply s_nil
 | apply t_norm
 | apply w_block)
   apply w_loop (fun k : Nat => ⟨(Ab.upd (Ab.upd (Ab.upd (Ab.upd (fun _ => .bot) 1 (.f (.fn g caps))) 9 (.f (.sl l.length (hitsF l)))) 10 (.f (iv l.length))) 11 (.f (iv (k : Nat)))), (fun _ => none), 0⟩) (fun k => k <= q) (fun k => q - k) 0 (Nat.zero_le _) (gh_le ⟨le_upd rfl trivial (le_upd rfl trivial (le_upd rfl trivial (le_upd rfl trivial (le_nil _)))), le_h0 _ _⟩)
   intro k hk
   have hc : k < l.length := by omega
   have Hc := hg k hc
   by_cases hkq : k = q
   · subst hkq
     repeat (first
 | (apply s_a TY; exact rfl)
 | (apply s_t; exact rfl; omega)
 | (apply s_f; exact rfl; assumption)
 | apply w_seq
 | apply w_region
 | apply s_nil
 | apply t_norm
 | apply t_ret
 | apply k_ret
 | apply w_block
 | apply w_ret
 | apply w_skip
 | (apply w_condT; exact rfl; exact rfl)
 | (apply s_k (Hc); exact rfl)
 | (apply s_c TY; exact rfl; (exact ⟨by omega, by (((with_reducible apply hitsF_ne); omega))⟩))
 | (apply s_m TY; exact rfl; (((with_reducible apply hitsF_sub); omega)); exact rfl)
 | (apply s_alloc TY; exact rfl; exact rfl; exact rfl)
 | (apply s_store TY; (iterate 6 exact rfl)))
     exact lv_ret (ret2 rfl (res_tmp rfl) (res_tmp rfl))
   · rw [hz k (by omega)] at Hc
     repeat (first
 | (apply s_a TY; exact rfl)
 | (apply s_t; exact rfl; omega)
 | apply w_seq
 | apply w_region
 | apply s_nil
 | apply t_norm
 | apply k_norm
 | apply w_block
 | apply w_skip
 | (apply w_condT; exact rfl; exact rfl)
 | (apply w_condF; exact rfl; exact rfl)
 | (apply s_k (Hc); exact rfl)
 | (apply s_c TY; exact rfl; (first | omega | exact ⟨by omega, by (((with_reducible apply hitsF_ne); omega))⟩))
 | (apply s_m TY; exact rfl; (((with_reducible apply hitsF_sub); omega)); exact rfl)
 | (apply s_alloc TY; exact rfl; exact rfl; exact rfl)
 | (apply s_store TY; (iterate 6 exact rfl)))
     exact ⟨k + 1, by omega, by omega, gh_le ⟨le_upd rfl trivial (le_upd rfl trivial (le_upd rfl trivial (le_upd rfl trivial (le_nil _)))), le_h0 _ _⟩⟩
set_option maxRecDepth 100000 in
theorem eachEv_s (l : List Ev) (g : Nat) (caps : List FV) (er : Nat -> Int) (hl : l.length <= 1000000) (hg : ∀ i (hi : i < l.length), Summ Tryz.prog GG g ([iv i, .agg (evF l[i])] ++ caps) (iv (er i))) : Summ Tryz.prog GG 117 [.sl l.length (evsF l), .fn g caps] (.tup [iv (eachE l.length er).1, iv (eachE l.length er).2]) := by
 rcases eachE_cases l.length er with ⟨he, hz⟩ | ⟨q, hq, hz, hne, he⟩
 all_goals rw [he]
 · refine summW Tryz.func117 rfl rfl 25 rfl (by simp) (fun M0 => ?_)
   repeat (first
 | (apply s_a TY; exact rfl)
 | apply w_seq
 | apply w_region
 | apply s_nil
 | apply t_norm
 | apply w_block)
   apply w_loop (fun k : Nat => ⟨(Ab.upd (Ab.upd (Ab.upd (Ab.upd (fun _ => .bot) 1 (.f (.fn g caps))) 9 (.f (.sl l.length (evsF l)))) 10 (.f (iv l.length))) 11 (.f (iv (k : Nat)))), (fun _ => none), 0⟩) (fun k => k <= l.length) (fun k => l.length - k) 0 (Nat.zero_le _) (gh_le ⟨le_upd rfl trivial (le_upd rfl trivial (le_upd rfl trivial (le_upd rfl trivial (le_nil _)))), le_h0 _ _⟩)
   intro k hk
   by_cases hc : k < l.length
   · have Hc := hg k hc
     rw [hz k hc] at Hc
     repeat (first
 | (apply s_a TY; exact rfl)
 | (apply s_t; exact rfl; omega)
 | apply w_seq
 | apply w_region
 | apply s_nil
 | apply t_norm
 | apply k_norm
 | apply w_block
 | apply w_skip
 | (apply w_condT; exact rfl; exact rfl)
 | (apply w_condF; exact rfl; exact rfl)
 | (apply s_k (Hc); exact rfl)
 | (apply s_c TY; exact rfl; (first | omega | exact ⟨by omega, by (((with_reducible apply evsF_ne); omega))⟩))
 | (apply s_m TY; exact rfl; (((with_reducible apply evsF_sub); omega)); exact rfl)
 | (apply s_alloc TY; exact rfl; exact rfl; exact rfl)
 | (apply s_store TY; (iterate 6 exact rfl)))
     exact ⟨k + 1, by omega, by omega, gh_le ⟨le_upd rfl trivial (le_upd rfl trivial (le_upd rfl trivial (le_upd rfl trivial (le_nil _)))), le_h0 _ _⟩⟩
   · repeat (first
 | (apply s_a TY; exact rfl)
 | (apply s_f; exact rfl; omega)
 | apply w_seq
 | apply w_region
 | apply s_nil
 | apply t_norm
 | apply t_exit
 | apply k_hit
 | apply w_exit
 | apply w_ret
 | (apply w_condF; exact rfl; exact rfl))
     exact lv_ret (ret2 rfl (res_tmp rfl) (res_tmp rfl))
 · refine summW Tryz.func117 rfl rfl 25 rfl (by simp) (fun M0 => ?_)
   repeat (first
 | (apply s_a TY; exact rfl)
 | apply w_seq
 | apply w_region
 | apply s_nil
 | apply t_norm
 | apply w_block)
   apply w_loop (fun k : Nat => ⟨(Ab.upd (Ab.upd (Ab.upd (Ab.upd (fun _ => .bot) 1 (.f (.fn g caps))) 9 (.f (.sl l.length (evsF l)))) 10 (.f (iv l.length))) 11 (.f (iv (k : Nat)))), (fun _ => none), 0⟩) (fun k => k <= q) (fun k => q - k) 0 (Nat.zero_le _) (gh_le ⟨le_upd rfl trivial (le_upd rfl trivial (le_upd rfl trivial (le_upd rfl trivial (le_nil _)))), le_h0 _ _⟩)
   intro k hk
   have hc : k < l.length := by omega
   have Hc := hg k hc
   by_cases hkq : k = q
   · subst hkq
     repeat (first
 | (apply s_a TY; exact rfl)
 | (apply s_t; exact rfl; omega)
 | (apply s_f; exact rfl; assumption)
 | apply w_seq
 | apply w_region
 | apply s_nil
 | apply t_norm
 | apply t_ret
 | apply k_ret
 | apply w_block
 | apply w_ret
 | apply w_skip
 | (apply w_condT; exact rfl; exact rfl)
 | (apply s_k (Hc); exact rfl)
 | (apply s_c TY; exact rfl; (exact ⟨by omega, by (((with_reducible apply evsF_ne); omega))⟩))
 | (apply s_m TY; exact rfl; (((with_reducible apply evsF_sub); omega)); exact rfl)
 | (apply s_alloc TY; exact rfl; exact rfl; exact rfl)
 | (apply s_store TY; (iterate 6 exact rfl)))
     exact lv_ret (ret2 rfl (res_tmp rfl) (res_tmp rfl))
   · rw [hz k (by omega)] at Hc
     repeat (first
 | (apply s_a TY; exact rfl)
 | (apply s_t; exact rfl; omega)
 | apply w_seq
 | apply w_region
 | apply s_nil
 | apply t_norm
 | apply k_norm
 | apply w_block
 | apply w_skip
 | (apply w_condT; exact rfl; exact rfl)
 | (apply w_condF; exact rfl; exact rfl)
 | (apply s_k (Hc); exact rfl)
 | (apply s_c TY; exact rfl; (first | omega | exact ⟨by omega, by (((with_reducible apply evsF_ne); omega))⟩))
 | (apply s_m TY; exact rfl; (((with_reducible apply evsF_sub); omega)); exact rfl)
 | (apply s_alloc TY; exact rfl; exact rfl; exact rfl)
 | (apply s_store TY; (iterate 6 exact rfl)))
     exact ⟨k + 1, by omega, by omega, gh_le ⟨le_upd rfl trivial (le_upd rfl trivial (le_upd rfl trivial (le_upd rfl trivial (le_nil _)))), le_h0 _ _⟩⟩
set_option maxRecDepth 100000 in
theorem eachStm_s (l : List Stm) (g : Nat) (caps : List FV) (er : Nat -> Int) (hl : l.length <= 1000000) (hg : ∀ i (hi : i < l.length), Summ Tryz.prog GG g ([iv i, .agg (stmF l[i])] ++ caps) (iv (er i))) : Summ Tryz.prog GG 289 [.sl l.length (stmsF l), .fn g caps] (.tup [iv (eachE l.length er).1, iv (eachE l.length er).2]) := by
 rcases eachE_cases l.length er with ⟨he, hz⟩ | ⟨q, hq, hz, hne, he⟩
 all_goals rw [he]
 · refine summW Tryz.func289 rfl rfl 25 rfl (by simp) (fun M0 => ?_)
   repeat (first
 | (apply s_a TY; exact rfl)
 | apply w_seq
 | apply w_region
 | apply s_nil
 | apply t_norm
 | apply w_block)
   apply w_loop (fun k : Nat => ⟨(Ab.upd (Ab.upd (Ab.upd (Ab.upd (fun _ => .bot) 1 (.f (.fn g caps))) 9 (.f (.sl l.length (stmsF l)))) 10 (.f (iv l.length))) 11 (.f (iv (k : Nat)))), (fun _ => none), 0⟩) (fun k => k <= l.length) (fun k => l.length - k) 0 (Nat.zero_le _) (gh_le ⟨le_upd rfl trivial (le_upd rfl trivial (le_upd rfl trivial (le_upd rfl trivial (le_nil _)))), le_h0 _ _⟩)
   intro k hk
   by_cases hc : k < l.length
   · have Hc := hg k hc
     rw [hz k hc] at Hc
     repeat (first
 | (apply s_a TY; exact rfl)
 | (apply s_t; exact rfl; omega)
 | apply w_seq
 | apply w_region
 | apply s_nil
 | apply t_norm
 | apply k_norm
 | apply w_block
 | apply w_skip
 | (apply w_condT; exact rfl; exact rfl)
 | (apply w_condF; exact rfl; exact rfl)
 | (apply s_k (Hc); exact rfl)
 | (apply s_c TY; exact rfl; (first | omega | exact ⟨by omega, by (((with_reducible apply stmsF_ne); omega))⟩))
 | (apply s_m TY; exact rfl; (((with_reducible apply stmsF_sub); omega)); exact rfl)
 | (apply s_alloc TY; exact rfl; exact rfl; exact rfl)
 | (apply s_store TY; (iterate 6 exact rfl)))
     exact ⟨k + 1, by omega, by omega, gh_le ⟨le_upd rfl trivial (le_upd rfl trivial (le_upd rfl trivial (le_upd rfl trivial (le_nil _)))), le_h0 _ _⟩⟩
   · repeat (first
 | (apply s_a TY; exact rfl)
 | (apply s_f; exact rfl; omega)
 | apply w_seq
 | apply w_region
 | apply s_nil
 | apply t_norm
 | apply t_exit
 | apply k_hit
 | apply w_exit
 | apply w_ret
 | (apply w_condF; exact rfl; exact rfl))
     exact lv_ret (ret2 rfl (res_tmp rfl) (res_tmp rfl))
 · refine summW Tryz.func289 rfl rfl 25 rfl (by simp) (fun M0 => ?_)
   repeat (first
 | (apply s_a TY; exact rfl)
 | apply w_seq
 | apply w_region
 | apply s_nil
 | apply t_norm
 | apply w_block)
   apply w_loop (fun k : Nat => ⟨(Ab.upd (Ab.upd (Ab.upd (Ab.upd (fun _ => .bot) 1 (.f (.fn g caps))) 9 (.f (.sl l.length (stmsF l)))) 10 (.f (iv l.length))) 11 (.f (iv (k : Nat)))), (fun _ => none), 0⟩) (fun k => k <= q) (fun k => q - k) 0 (Nat.zero_le _) (gh_le ⟨le_upd rfl trivial (le_upd rfl trivial (le_upd rfl trivial (le_upd rfl trivial (le_nil _)))), le_h0 _ _⟩)
   intro k hk
   have hc : k < l.length := by omega
   have Hc := hg k hc
   by_cases hkq : k = q
   · subst hkq
     repeat (first
 | (apply s_a TY; exact rfl)
 | (apply s_t; exact rfl; omega)
 | (apply s_f; exact rfl; assumption)
 | apply w_seq
 | apply w_region
 | apply s_nil
 | apply t_norm
 | apply t_ret
 | apply k_ret
 | apply w_block
 | apply w_ret
 | apply w_skip
 | (apply w_condT; exact rfl; exact rfl)
 | (apply s_k (Hc); exact rfl)
 | (apply s_c TY; exact rfl; (exact ⟨by omega, by (((with_reducible apply stmsF_ne); omega))⟩))
 | (apply s_m TY; exact rfl; (((with_reducible apply stmsF_sub); omega)); exact rfl)
 | (apply s_alloc TY; exact rfl; exact rfl; exact rfl)
 | (apply s_store TY; (iterate 6 exact rfl)))
     exact lv_ret (ret2 rfl (res_tmp rfl) (res_tmp rfl))
   · rw [hz k (by omega)] at Hc
     repeat (first
 | (apply s_a TY; exact rfl)
 | (apply s_t; exact rfl; omega)
 | apply w_seq
 | apply w_region
 | apply s_nil
 | apply t_norm
 | apply k_norm
 | apply w_block
 | apply w_skip
 | (apply w_condT; exact rfl; exact rfl)
 | (apply w_condF; exact rfl; exact rfl)
 | (apply s_k (Hc); exact rfl)
 | (apply s_c TY; exact rfl; (first | omega | exact ⟨by omega, by (((with_reducible apply stmsF_ne); omega))⟩))
 | (apply s_m TY; exact rfl; (((with_reducible apply stmsF_sub); omega)); exact rfl)
 | (apply s_alloc TY; exact rfl; exact rfl; exact rfl)
 | (apply s_store TY; (iterate 6 exact rfl)))
     exact ⟨k + 1, by omega, by omega, gh_le ⟨le_upd rfl trivial (le_upd rfl trivial (le_upd rfl trivial (le_upd rfl trivial (le_nil _)))), le_h0 _ _⟩⟩
def ruleErr (r : Rule) : Int :=
 if ¬ (0 <= r.kind /\ r.kind <= 3) then 15
 else if ¬ (1 <= r.count /\ r.count <= 40) \/ ¬ (0 <= r.window /\ r.window <= 1000000) \/ ¬ (0 <= r.reach /\ r.reach <= 1000000) \/ ¬ (0 <= r.height /\ r.height <= 1000000) then 2
 else if r.kind = 3 /\ r.window < r.reach then 9 else 0
def setupChk (s : Setup) : Nat × Int :=
 if s.rules.length = 0 then (0, 10) else if 4 < s.rules.length then (0, 8)
 else if (eachE s.rules.length fun i => ruleErr (s.rules.getD i default)).2 ≠ 0 then eachE s.rules.length fun i => ruleErr (s.rules.getD i default)
 else if ¬ (0 <= s.before /\ s.before <= 1000000) \/ ¬ (0 <= s.after /\ s.after <= 1000000) \/ ¬ (0 <= s.dead /\ s.dead <= 1000000) then (0, 2) else (0, 0)
set_option maxRecDepth 100000 in
theorem CheckRule_s (r : Rule) : Summ Tryz.prog GG 107 [.agg (ruleF r)] (iv (ruleErr r)) := by
 by_cases hk : 0 <= r.kind /\ r.kind <= 3
 · by_cases hc : 1 <= r.count /\ r.count <= 40
   · by_cases hw : 0 <= r.window /\ r.window <= 1000000
     · by_cases hr : 0 <= r.reach /\ r.reach <= 1000000
       · by_cases hh : 0 <= r.height /\ r.height <= 1000000
         · by_cases hk3 : r.kind = 3
           · by_cases hrw : r.reach <= r.window
             · rw [show ruleErr r = 0 by unfold ruleErr; repeat (omega)]
               refine summW Tryz.func107 rfl rfl 38 rfl (by simp) (fun M0 => ?_)
               repeat (first
 | (apply s_a TY; exact rfl)
 | (apply s_t; exact rfl; assumption)
 | apply w_seq
 | apply w_region
 | (apply w_draw (id := 1) 30 rfl (by kernel_rfl))
 | apply s_nil
 | apply t_norm
 | apply w_ret
 | (apply s_k1 (tfirst4_3 _ _ _ _); exact rfl; omega)
 | (apply s_k (tunless_T _); exact rfl)
 | (apply s_k1 (twithin_T _ _ _); exact rfl; assumption)
 | (apply s_k1 (isWindow_T _); exact rfl; assumption))
               exact lv_ret (ret1 rfl (res_tmp rfl))
             · rw [show ruleErr r = 9 by unfold ruleErr; repeat (omega)]
               refine summW Tryz.func107 rfl rfl 38 rfl (by simp) (fun M0 => ?_)
               repeat (first
 | (apply s_a TY; exact rfl)
 | (apply s_t; exact rfl; assumption)
 | (apply s_f; exact rfl; assumption)
 | apply w_seq
 | apply w_region
 | (apply w_draw (id := 1) 30 rfl (by kernel_rfl))
 | apply s_nil
 | apply t_norm
 | apply w_ret
 | (apply s_k1 (tfirst4_3 _ _ _ _); exact rfl; omega)
 | (apply s_k (tunless_T _); exact rfl)
 | (apply s_k (tunless_F _); exact rfl)
 | (apply s_k1 (twithin_T _ _ _); exact rfl; assumption)
 | (apply s_k1 (isWindow_T _); exact rfl; assumption))
               exact lv_ret (ret1 rfl (res_tmp rfl))
           · rw [show ruleErr r = 0 by unfold ruleErr; repeat (omega)]
             refine summW Tryz.func107 rfl rfl 38 rfl (by simp) (fun M0 => ?_)
             repeat (first
 | (apply s_a TY; exact rfl)
 | (apply s_f; exact rfl; assumption)
 | apply w_seq
 | apply w_region
 | (apply w_draw (id := 1) 30 rfl (by kernel_rfl))
 | apply s_nil
 | apply t_norm
 | apply w_ret
 | (apply s_k1 (tfirst4_3 _ _ _ _); exact rfl; omega)
 | (apply s_k (tunless_T _); exact rfl)
 | (apply s_k1 (twithin_T _ _ _); exact rfl; assumption)
 | (apply s_k1 (isWindow_T _); exact rfl; assumption)
 | (apply s_s; exact rfl))
             exact lv_ret (ret1 rfl (res_tmp rfl))
         · by_cases hk3 : r.kind = 3
           · by_cases hrw : r.reach <= r.window
             · rw [show ruleErr r = 2 by unfold ruleErr; repeat (omega)]
               refine summW Tryz.func107 rfl rfl 38 rfl (by simp) (fun M0 => ?_)
               repeat (first
 | (apply s_a TY; exact rfl)
 | (apply s_t; exact rfl; assumption)
 | apply w_seq
 | apply w_region
 | (apply w_draw (id := 1) 30 rfl (by kernel_rfl))
 | apply s_nil
 | apply t_norm
 | apply w_ret
 | (apply s_k1 (tfirst4_2 _ _ _ _); exact rfl; omega)
 | (apply s_k (tunless_T _); exact rfl)
 | (apply s_k (tunless_F _); exact rfl)
 | (apply s_k1 (twithin_T _ _ _); exact rfl; assumption)
 | (apply s_k1 (isWindow_T _); exact rfl; assumption)
 | (apply s_k1 (isWindow_F _); exact rfl; assumption))
               exact lv_ret (ret1 rfl (res_tmp rfl))
             · rw [show ruleErr r = 2 by unfold ruleErr; repeat (omega)]
               refine summW Tryz.func107 rfl rfl 38 rfl (by simp) (fun M0 => ?_)
               repeat (first
 | (apply s_a TY; exact rfl)
 | (apply s_t; exact rfl; assumption)
 | (apply s_f; exact rfl; assumption)
 | apply w_seq
 | apply w_region
 | (apply w_draw (id := 1) 30 rfl (by kernel_rfl))
 | apply s_nil
 | apply t_norm
 | apply w_ret
 | (apply s_k1 (tfirst4_2 _ _ _ _); exact rfl; omega)
 | (apply s_k (tunless_T _); exact rfl)
 | (apply s_k (tunless_F _); exact rfl)
 | (apply s_k1 (twithin_T _ _ _); exact rfl; assumption)
 | (apply s_k1 (isWindow_T _); exact rfl; assumption)
 | (apply s_k1 (isWindow_F _); exact rfl; assumption))
               exact lv_ret (ret1 rfl (res_tmp rfl))
           · rw [show ruleErr r = 2 by unfold ruleErr; repeat (omega)]
             refine summW Tryz.func107 rfl rfl 38 rfl (by simp) (fun M0 => ?_)
             repeat (first
 | (apply s_a TY; exact rfl)
 | (apply s_f; exact rfl; assumption)
 | apply w_seq
 | apply w_region
 | (apply w_draw (id := 1) 30 rfl (by kernel_rfl))
 | apply s_nil
 | apply t_norm
 | apply w_ret
 | (apply s_k1 (tfirst4_2 _ _ _ _); exact rfl; omega)
 | (apply s_k (tunless_T _); exact rfl)
 | (apply s_k (tunless_F _); exact rfl)
 | (apply s_k1 (twithin_T _ _ _); exact rfl; assumption)
 | (apply s_k1 (isWindow_T _); exact rfl; assumption)
 | (apply s_k1 (isWindow_F _); exact rfl; assumption)
 | (apply s_s; exact rfl))
             exact lv_ret (ret1 rfl (res_tmp rfl))
       · by_cases hk3 : r.kind = 3
         · by_cases hrw : r.reach <= r.window
           · rw [show ruleErr r = 2 by unfold ruleErr; repeat (omega)]
             refine summW Tryz.func107 rfl rfl 38 rfl (by simp) (fun M0 => ?_)
             repeat (first
 | (apply s_a TY; exact rfl)
 | (apply s_t; exact rfl; assumption)
 | apply w_seq
 | apply w_region
 | (apply w_draw (id := 1) 30 rfl (by kernel_rfl))
 | apply s_nil
 | apply t_norm
 | apply w_ret
 | (apply s_k1 (tfirst4_2 _ _ _ _); exact rfl; omega)
 | (apply s_k (tunless_T _); exact rfl)
 | (apply s_k (tunless_F _); exact rfl)
 | (apply s_k1 (twithin_T _ _ _); exact rfl; assumption)
 | (apply s_k1 (isWindow_T _); exact rfl; assumption)
 | (apply s_k1 (isWindow_F _); exact rfl; assumption)
 | (apply s_s; exact rfl))
             exact lv_ret (ret1 rfl (res_tmp rfl))
           · rw [show ruleErr r = 2 by unfold ruleErr; repeat (omega)]
             refine summW Tryz.func107 rfl rfl 38 rfl (by simp) (fun M0 => ?_)
             repeat (first
 | (apply s_a TY; exact rfl)
 | (apply s_t; exact rfl; assumption)
 | (apply s_f; exact rfl; assumption)
 | apply w_seq
 | apply w_region
 | (apply w_draw (id := 1) 30 rfl (by kernel_rfl))
 | apply s_nil
 | apply t_norm
 | apply w_ret
 | (apply s_k1 (tfirst4_2 _ _ _ _); exact rfl; omega)
 | (apply s_k (tunless_T _); exact rfl)
 | (apply s_k (tunless_F _); exact rfl)
 | (apply s_k1 (twithin_T _ _ _); exact rfl; assumption)
 | (apply s_k1 (isWindow_T _); exact rfl; assumption)
 | (apply s_k1 (isWindow_F _); exact rfl; assumption)
 | (apply s_s; exact rfl))
             exact lv_ret (ret1 rfl (res_tmp rfl))
         · rw [show ruleErr r = 2 by unfold ruleErr; repeat (omega)]
           refine summW Tryz.func107 rfl rfl 38 rfl (by simp) (fun M0 => ?_)
           repeat (first
 | (apply s_a TY; exact rfl)
 | (apply s_f; exact rfl; assumption)
 | apply w_seq
 | apply w_region
 | (apply w_draw (id := 1) 30 rfl (by kernel_rfl))
 | apply s_nil
 | apply t_norm
 | apply w_ret
 | (apply s_k1 (tfirst4_2 _ _ _ _); exact rfl; omega)
 | (apply s_k (tunless_T _); exact rfl)
 | (apply s_k (tunless_F _); exact rfl)
 | (apply s_k1 (twithin_T _ _ _); exact rfl; assumption)
 | (apply s_k1 (isWindow_T _); exact rfl; assumption)
 | (apply s_k1 (isWindow_F _); exact rfl; assumption)
 | (apply s_s; exact rfl))
           exact lv_ret (ret1 rfl (res_tmp rfl))
     · by_cases hr : 0 <= r.reach /\ r.reach <= 1000000
       · by_cases hk3 : r.kind = 3
         · by_cases hrw : r.reach <= r.window
           · rw [show ruleErr r = 2 by unfold ruleErr; repeat (omega)]
             refine summW Tryz.func107 rfl rfl 38 rfl (by simp) (fun M0 => ?_)
             repeat (first
 | (apply s_a TY; exact rfl)
 | (apply s_t; exact rfl; assumption)
 | apply w_seq
 | apply w_region
 | (apply w_draw (id := 1) 30 rfl (by kernel_rfl))
 | apply s_nil
 | apply t_norm
 | apply w_ret
 | (apply s_k1 (tfirst4_1 _ _ _ _); exact rfl; omega)
 | (apply s_k (tunless_T _); exact rfl)
 | (apply s_k (tunless_F _); exact rfl)
 | (apply s_k (tunless_s _ _); exact rfl)
 | (apply s_k1 (twithin_T _ _ _); exact rfl; assumption)
 | (apply s_k1 (isWindow_T _); exact rfl; assumption)
 | (apply s_k1 (isWindow_F _); exact rfl; assumption)
 | (apply s_k (isWindow_s _); exact rfl))
             exact lv_ret (ret1 rfl (res_tmp rfl))
           · rw [show ruleErr r = 2 by unfold ruleErr; repeat (omega)]
             refine summW Tryz.func107 rfl rfl 38 rfl (by simp) (fun M0 => ?_)
             repeat (first
 | (apply s_a TY; exact rfl)
 | (apply s_t; exact rfl; assumption)
 | (apply s_f; exact rfl; assumption)
 | apply w_seq
 | apply w_region
 | (apply w_draw (id := 1) 30 rfl (by kernel_rfl))
 | apply s_nil
 | apply t_norm
 | apply w_ret
 | (apply s_k1 (tfirst4_1 _ _ _ _); exact rfl; omega)
 | (apply s_k (tunless_T _); exact rfl)
 | (apply s_k (tunless_F _); exact rfl)
 | (apply s_k (tunless_s _ _); exact rfl)
 | (apply s_k1 (twithin_T _ _ _); exact rfl; assumption)
 | (apply s_k1 (isWindow_T _); exact rfl; assumption)
 | (apply s_k1 (isWindow_F _); exact rfl; assumption)
 | (apply s_k (isWindow_s _); exact rfl))
             exact lv_ret (ret1 rfl (res_tmp rfl))
         · rw [show ruleErr r = 2 by unfold ruleErr; repeat (omega)]
           refine summW Tryz.func107 rfl rfl 38 rfl (by simp) (fun M0 => ?_)
           repeat (first
 | (apply s_a TY; exact rfl)
 | (apply s_f; exact rfl; assumption)
 | apply w_seq
 | apply w_region
 | (apply w_draw (id := 1) 30 rfl (by kernel_rfl))
 | apply s_nil
 | apply t_norm
 | apply w_ret
 | (apply s_k1 (tfirst4_1 _ _ _ _); exact rfl; omega)
 | (apply s_k (tunless_T _); exact rfl)
 | (apply s_k (tunless_F _); exact rfl)
 | (apply s_k (tunless_s _ _); exact rfl)
 | (apply s_k1 (twithin_T _ _ _); exact rfl; assumption)
 | (apply s_k1 (isWindow_T _); exact rfl; assumption)
 | (apply s_k1 (isWindow_F _); exact rfl; assumption)
 | (apply s_k (isWindow_s _); exact rfl)
 | (apply s_s; exact rfl))
           exact lv_ret (ret1 rfl (res_tmp rfl))
       · by_cases hk3 : r.kind = 3
         · by_cases hrw : r.reach <= r.window
           · rw [show ruleErr r = 2 by unfold ruleErr; repeat (omega)]
             refine summW Tryz.func107 rfl rfl 38 rfl (by simp) (fun M0 => ?_)
             repeat (first
 | (apply s_a TY; exact rfl)
 | (apply s_t; exact rfl; assumption)
 | apply w_seq
 | apply w_region
 | (apply w_draw (id := 1) 30 rfl (by kernel_rfl))
 | apply s_nil
 | apply t_norm
 | apply w_ret
 | (apply s_k1 (tfirst4_1 _ _ _ _); exact rfl; omega)
 | (apply s_k (tunless_T _); exact rfl)
 | (apply s_k (tunless_F _); exact rfl)
 | (apply s_k1 (twithin_T _ _ _); exact rfl; assumption)
 | (apply s_k1 (isWindow_F _); exact rfl; assumption)
 | (apply s_s; exact rfl))
             exact lv_ret (ret1 rfl (res_tmp rfl))
           · rw [show ruleErr r = 2 by unfold ruleErr; repeat (omega)]
             refine summW Tryz.func107 rfl rfl 38 rfl (by simp) (fun M0 => ?_)
             repeat (first
 | (apply s_a TY; exact rfl)
 | (apply s_t; exact rfl; assumption)
 | (apply s_f; exact rfl; assumption)
 | apply w_seq
 | apply w_region
 | (apply w_draw (id := 1) 30 rfl (by kernel_rfl))
 | apply s_nil
 | apply t_norm
 | apply w_ret
 | (apply s_k1 (tfirst4_1 _ _ _ _); exact rfl; omega)
 | (apply s_k (tunless_T _); exact rfl)
 | (apply s_k (tunless_F _); exact rfl)
 | (apply s_k1 (twithin_T _ _ _); exact rfl; assumption)
 | (apply s_k1 (isWindow_F _); exact rfl; assumption)
 | (apply s_s; exact rfl))
             exact lv_ret (ret1 rfl (res_tmp rfl))
         · rw [show ruleErr r = 2 by unfold ruleErr; repeat (omega)]
           refine summW Tryz.func107 rfl rfl 38 rfl (by simp) (fun M0 => ?_)
           repeat (first
 | (apply s_a TY; exact rfl)
 | (apply s_f; exact rfl; assumption)
 | apply w_seq
 | apply w_region
 | (apply w_draw (id := 1) 30 rfl (by kernel_rfl))
 | apply s_nil
 | apply t_norm
 | apply w_ret
 | (apply s_k1 (tfirst4_1 _ _ _ _); exact rfl; omega)
 | (apply s_k (tunless_T _); exact rfl)
 | (apply s_k (tunless_F _); exact rfl)
 | (apply s_k1 (twithin_T _ _ _); exact rfl; assumption)
 | (apply s_k1 (isWindow_F _); exact rfl; assumption)
 | (apply s_s; exact rfl))
           exact lv_ret (ret1 rfl (res_tmp rfl))
   · by_cases hr : 0 <= r.reach /\ r.reach <= 1000000
     · by_cases hk3 : r.kind = 3
       · by_cases hrw : r.reach <= r.window
         · rw [show ruleErr r = 2 by unfold ruleErr; repeat (omega)]
           refine summW Tryz.func107 rfl rfl 38 rfl (by simp) (fun M0 => ?_)
           repeat (first
 | (apply s_a TY; exact rfl)
 | (apply s_t; exact rfl; assumption)
 | apply w_seq
 | apply w_region
 | (apply w_draw (id := 1) 30 rfl (by kernel_rfl))
 | apply s_nil
 | apply t_norm
 | apply w_ret
 | (apply s_k1 (tfirst4_1 _ _ _ _); exact rfl; omega)
 | (apply s_k (tunless_T _); exact rfl)
 | (apply s_k (tunless_F _); exact rfl)
 | (apply s_k (tunless_s _ _); exact rfl)
 | (apply s_k1 (twithin_T _ _ _); exact rfl; assumption)
 | (apply s_k1 (twithin_F _ _ _); exact rfl; assumption)
 | (apply s_k1 (isWindow_T _); exact rfl; assumption)
 | (apply s_k (isWindow_s _); exact rfl)
 | (apply s_s; exact rfl))
           exact lv_ret (ret1 rfl (res_tmp rfl))
         · rw [show ruleErr r = 2 by unfold ruleErr; repeat (omega)]
           refine summW Tryz.func107 rfl rfl 38 rfl (by simp) (fun M0 => ?_)
           repeat (first
 | (apply s_a TY; exact rfl)
 | (apply s_t; exact rfl; assumption)
 | (apply s_f; exact rfl; assumption)
 | apply w_seq
 | apply w_region
 | (apply w_draw (id := 1) 30 rfl (by kernel_rfl))
 | apply s_nil
 | apply t_norm
 | apply w_ret
 | (apply s_k1 (tfirst4_1 _ _ _ _); exact rfl; omega)
 | (apply s_k (tunless_T _); exact rfl)
 | (apply s_k (tunless_F _); exact rfl)
 | (apply s_k (tunless_s _ _); exact rfl)
 | (apply s_k1 (twithin_T _ _ _); exact rfl; assumption)
 | (apply s_k1 (twithin_F _ _ _); exact rfl; assumption)
 | (apply s_k1 (isWindow_T _); exact rfl; assumption)
 | (apply s_k (isWindow_s _); exact rfl)
 | (apply s_s; exact rfl))
           exact lv_ret (ret1 rfl (res_tmp rfl))
       · rw [show ruleErr r = 2 by unfold ruleErr; repeat (omega)]
         refine summW Tryz.func107 rfl rfl 38 rfl (by simp) (fun M0 => ?_)
         repeat (first
 | (apply s_a TY; exact rfl)
 | (apply s_f; exact rfl; assumption)
 | apply w_seq
 | apply w_region
 | (apply w_draw (id := 1) 30 rfl (by kernel_rfl))
 | apply s_nil
 | apply t_norm
 | apply w_ret
 | (apply s_k1 (tfirst4_1 _ _ _ _); exact rfl; omega)
 | (apply s_k (tunless_T _); exact rfl)
 | (apply s_k (tunless_F _); exact rfl)
 | (apply s_k (tunless_s _ _); exact rfl)
 | (apply s_k1 (twithin_T _ _ _); exact rfl; assumption)
 | (apply s_k1 (twithin_F _ _ _); exact rfl; assumption)
 | (apply s_k1 (isWindow_T _); exact rfl; assumption)
 | (apply s_k (isWindow_s _); exact rfl)
 | (apply s_s; exact rfl))
         exact lv_ret (ret1 rfl (res_tmp rfl))
     · by_cases hk3 : r.kind = 3
       · by_cases hrw : r.reach <= r.window
         · rw [show ruleErr r = 2 by unfold ruleErr; repeat (omega)]
           refine summW Tryz.func107 rfl rfl 38 rfl (by simp) (fun M0 => ?_)
           repeat (first
 | (apply s_a TY; exact rfl)
 | (apply s_t; exact rfl; assumption)
 | apply w_seq
 | apply w_region
 | (apply w_draw (id := 1) 30 rfl (by kernel_rfl))
 | apply s_nil
 | apply t_norm
 | apply w_ret
 | (apply s_k1 (tfirst4_1 _ _ _ _); exact rfl; omega)
 | (apply s_k (tunless_T _); exact rfl)
 | (apply s_k (tunless_F _); exact rfl)
 | (apply s_k1 (twithin_T _ _ _); exact rfl; assumption)
 | (apply s_k1 (twithin_F _ _ _); exact rfl; assumption)
 | (apply s_k1 (isWindow_F _); exact rfl; assumption)
 | (apply s_s; exact rfl))
           exact lv_ret (ret1 rfl (res_tmp rfl))
         · rw [show ruleErr r = 2 by unfold ruleErr; repeat (omega)]
           refine summW Tryz.func107 rfl rfl 38 rfl (by simp) (fun M0 => ?_)
           repeat (first
 | (apply s_a TY; exact rfl)
 | (apply s_t; exact rfl; assumption)
 | (apply s_f; exact rfl; assumption)
 | apply w_seq
 | apply w_region
 | (apply w_draw (id := 1) 30 rfl (by kernel_rfl))
 | apply s_nil
 | apply t_norm
 | apply w_ret
 | (apply s_k1 (tfirst4_1 _ _ _ _); exact rfl; omega)
 | (apply s_k (tunless_T _); exact rfl)
 | (apply s_k (tunless_F _); exact rfl)
 | (apply s_k1 (twithin_T _ _ _); exact rfl; assumption)
 | (apply s_k1 (twithin_F _ _ _); exact rfl; assumption)
 | (apply s_k1 (isWindow_F _); exact rfl; assumption)
 | (apply s_s; exact rfl))
           exact lv_ret (ret1 rfl (res_tmp rfl))
       · rw [show ruleErr r = 2 by unfold ruleErr; repeat (omega)]
         refine summW Tryz.func107 rfl rfl 38 rfl (by simp) (fun M0 => ?_)
         repeat (first
 | (apply s_a TY; exact rfl)
 | (apply s_f; exact rfl; assumption)
 | apply w_seq
 | apply w_region
 | (apply w_draw (id := 1) 30 rfl (by kernel_rfl))
 | apply s_nil
 | apply t_norm
 | apply w_ret
 | (apply s_k1 (tfirst4_1 _ _ _ _); exact rfl; omega)
 | (apply s_k (tunless_T _); exact rfl)
 | (apply s_k (tunless_F _); exact rfl)
 | (apply s_k1 (twithin_T _ _ _); exact rfl; assumption)
 | (apply s_k1 (twithin_F _ _ _); exact rfl; assumption)
 | (apply s_k1 (isWindow_F _); exact rfl; assumption)
 | (apply s_s; exact rfl))
         exact lv_ret (ret1 rfl (res_tmp rfl))
 · by_cases hc : 1 <= r.count /\ r.count <= 40
   · by_cases hr : 0 <= r.reach /\ r.reach <= 1000000
     · rw [show ruleErr r = 15 by unfold ruleErr; repeat (omega)]
       refine summW Tryz.func107 rfl rfl 38 rfl (by simp) (fun M0 => ?_)
       repeat (first
 | (apply s_a TY; exact rfl)
 | (apply s_f; exact rfl; omega)
 | apply w_seq
 | apply w_region
 | (apply w_draw (id := 1) 30 rfl (by kernel_rfl))
 | apply s_nil
 | apply t_norm
 | apply w_ret
 | (apply s_k1 (tfirst4_0 _ _ _ _); exact rfl; omega)
 | (apply s_k (tunless_T _); exact rfl)
 | (apply s_k (tunless_F _); exact rfl)
 | (apply s_k (tunless_s _ _); exact rfl)
 | (apply s_k1 (twithin_T _ _ _); exact rfl; assumption)
 | (apply s_k1 (twithin_F _ _ _); exact rfl; assumption)
 | (apply s_k1 (isWindow_T _); exact rfl; assumption)
 | (apply s_k (isWindow_s _); exact rfl)
 | (apply s_s; exact rfl))
       exact lv_ret (ret1 rfl (res_tmp rfl))
     · rw [show ruleErr r = 15 by unfold ruleErr; repeat (omega)]
       refine summW Tryz.func107 rfl rfl 38 rfl (by simp) (fun M0 => ?_)
       repeat (first
 | (apply s_a TY; exact rfl)
 | (apply s_f; exact rfl; omega)
 | apply w_seq
 | apply w_region
 | (apply w_draw (id := 1) 30 rfl (by kernel_rfl))
 | apply s_nil
 | apply t_norm
 | apply w_ret
 | (apply s_k1 (tfirst4_0 _ _ _ _); exact rfl; omega)
 | (apply s_k (tunless_T _); exact rfl)
 | (apply s_k (tunless_F _); exact rfl)
 | (apply s_k (tunless_s _ _); exact rfl)
 | (apply s_k1 (twithin_T _ _ _); exact rfl; assumption)
 | (apply s_k1 (twithin_F _ _ _); exact rfl; assumption)
 | (apply s_k1 (isWindow_F _); exact rfl; assumption)
 | (apply s_k (isWindow_s _); exact rfl)
 | (apply s_s; exact rfl))
       exact lv_ret (ret1 rfl (res_tmp rfl))
   · by_cases hr : 0 <= r.reach /\ r.reach <= 1000000
     · rw [show ruleErr r = 15 by unfold ruleErr; repeat (omega)]
       refine summW Tryz.func107 rfl rfl 38 rfl (by simp) (fun M0 => ?_)
       repeat (first
 | (apply s_a TY; exact rfl)
 | (apply s_f; exact rfl; omega)
 | apply w_seq
 | apply w_region
 | (apply w_draw (id := 1) 30 rfl (by kernel_rfl))
 | apply s_nil
 | apply t_norm
 | apply w_ret
 | (apply s_k1 (tfirst4_0 _ _ _ _); exact rfl; omega)
 | (apply s_k (tunless_T _); exact rfl)
 | (apply s_k (tunless_F _); exact rfl)
 | (apply s_k (tunless_s _ _); exact rfl)
 | (apply s_k1 (twithin_F _ _ _); exact rfl; assumption)
 | (apply s_k1 (isWindow_T _); exact rfl; assumption)
 | (apply s_k (isWindow_s _); exact rfl)
 | (apply s_s; exact rfl))
       exact lv_ret (ret1 rfl (res_tmp rfl))
     · rw [show ruleErr r = 15 by unfold ruleErr; repeat (omega)]
       refine summW Tryz.func107 rfl rfl 38 rfl (by simp) (fun M0 => ?_)
       repeat (first
 | (apply s_a TY; exact rfl)
 | (apply s_f; exact rfl; omega)
 | apply w_seq
 | apply w_region
 | (apply w_draw (id := 1) 30 rfl (by kernel_rfl))
 | apply s_nil
 | apply t_norm
 | apply w_ret
 | (apply s_k1 (tfirst4_0 _ _ _ _); exact rfl; omega)
 | (apply s_k (tunless_T _); exact rfl)
 | (apply s_k (tunless_F _); exact rfl)
 | (apply s_k1 (twithin_F _ _ _); exact rfl; assumption)
 | (apply s_k1 (isWindow_F _); exact rfl; assumption)
 | (apply s_s; exact rfl))
       exact lv_ret (ret1 rfl (res_tmp rfl))
set_option maxRecDepth 100000 in
theorem RuleErr_s (r : Rule) : Summ Tryz.prog GG 85 [.agg (ruleF r)] (iv (ruleErr r)) := by
 by_cases hk : 0 <= r.kind /\ r.kind <= 3
 · by_cases hc : 1 <= r.count /\ r.count <= 40
   · by_cases hw : 0 <= r.window /\ r.window <= 1000000
     · by_cases hr : 0 <= r.reach /\ r.reach <= 1000000
       · by_cases hh : 0 <= r.height /\ r.height <= 1000000
         · by_cases hk3 : r.kind = 3
           · by_cases hrw : r.reach <= r.window
             · rw [show ruleErr r = 0 by unfold ruleErr; repeat (omega)]
               refine summW Tryz.func85 rfl rfl 39 rfl (by simp) (fun M0 => ?_)
               repeat (first
 | (apply s_a TY; exact rfl)
 | (apply s_t; exact rfl; assumption)
 | (apply s_f; exact rfl; omega)
 | apply w_seq
 | apply w_region
 | apply s_nil
 | apply t_norm
 | apply w_ret
 | apply w_skip
 | (apply w_condF; exact rfl; exact rfl)
 | (apply s_k1 (bwithin_T _ _ _); exact rfl; assumption)
 | (apply s_k1 (rIsWindow_T _); exact rfl; assumption))
               exact lv_ret (ret1 rfl (res_tmp rfl))
             · rw [show ruleErr r = 9 by unfold ruleErr; repeat (omega)]
               refine summW Tryz.func85 rfl rfl 39 rfl (by simp) (fun M0 => ?_)
               repeat (first
 | (apply s_a TY; exact rfl)
 | (apply s_t; exact rfl; (first | assumption | omega))
 | apply w_seq
 | apply w_region
 | apply s_nil
 | apply t_norm
 | apply t_ret
 | apply w_ret
 | apply w_skip
 | (apply w_condT; exact rfl; exact rfl)
 | (apply w_condF; exact rfl; exact rfl)
 | (apply s_k1 (bwithin_T _ _ _); exact rfl; assumption)
 | (apply s_k1 (rIsWindow_T _); exact rfl; assumption))
               exact lv_ret (ret1 rfl (res_tmp rfl))
           · rw [show ruleErr r = 0 by unfold ruleErr; repeat (omega)]
             refine summW Tryz.func85 rfl rfl 39 rfl (by simp) (fun M0 => ?_)
             repeat (first
 | (apply s_a TY; exact rfl)
 | (apply s_f; exact rfl; assumption)
 | apply w_seq
 | apply w_region
 | apply s_nil
 | apply t_norm
 | apply w_ret
 | apply w_skip
 | (apply w_condF; exact rfl; exact rfl)
 | (apply s_k1 (bwithin_T _ _ _); exact rfl; assumption)
 | (apply s_k1 (rIsWindow_T _); exact rfl; assumption)
 | (apply s_s; exact rfl))
             exact lv_ret (ret1 rfl (res_tmp rfl))
         · rw [show ruleErr r = 2 by unfold ruleErr; repeat (omega)]
           refine summW Tryz.func85 rfl rfl 39 rfl (by simp) (fun M0 => ?_)
           repeat (first
 | (apply s_a TY; exact rfl)
 | apply w_seq
 | apply w_region
 | apply s_nil
 | apply t_norm
 | apply t_ret
 | apply w_ret
 | apply w_skip
 | (apply w_condT; exact rfl; exact rfl)
 | (apply w_condF; exact rfl; exact rfl)
 | (apply s_k1 (bwithin_T _ _ _); exact rfl; assumption)
 | (apply s_k1 (rIsWindow_T _); exact rfl; assumption)
 | (apply s_k1 (rIsWindow_F _); exact rfl; assumption))
           exact lv_ret (ret1 rfl (res_tmp rfl))
       · rw [show ruleErr r = 2 by unfold ruleErr; repeat (omega)]
         refine summW Tryz.func85 rfl rfl 39 rfl (by simp) (fun M0 => ?_)
         repeat (first
 | (apply s_a TY; exact rfl)
 | apply w_seq
 | apply w_region
 | apply s_nil
 | apply t_norm
 | apply t_ret
 | apply w_ret
 | apply w_skip
 | (apply w_condT; exact rfl; exact rfl)
 | (apply w_condF; exact rfl; exact rfl)
 | (apply s_k1 (bwithin_T _ _ _); exact rfl; assumption)
 | (apply s_k1 (rIsWindow_T _); exact rfl; assumption)
 | (apply s_k1 (rIsWindow_F _); exact rfl; assumption)
 | (apply s_s; exact rfl))
         exact lv_ret (ret1 rfl (res_tmp rfl))
     · rw [show ruleErr r = 2 by unfold ruleErr; repeat (omega)]
       refine summW Tryz.func85 rfl rfl 39 rfl (by simp) (fun M0 => ?_)
       repeat (first
 | (apply s_a TY; exact rfl)
 | apply w_seq
 | apply w_region
 | apply s_nil
 | apply t_norm
 | apply t_ret
 | apply w_ret
 | apply w_skip
 | (apply w_condT; exact rfl; exact rfl)
 | (apply w_condF; exact rfl; exact rfl)
 | (apply s_k1 (bwithin_T _ _ _); exact rfl; assumption)
 | (apply s_k1 (rIsWindow_F _); exact rfl; assumption)
 | (apply s_s; exact rfl))
       exact lv_ret (ret1 rfl (res_tmp rfl))
   · rw [show ruleErr r = 2 by unfold ruleErr; repeat (omega)]
     refine summW Tryz.func85 rfl rfl 39 rfl (by simp) (fun M0 => ?_)
     repeat (first
 | (apply s_a TY; exact rfl)
 | apply w_seq
 | apply w_region
 | apply s_nil
 | apply t_norm
 | apply t_ret
 | apply w_ret
 | apply w_skip
 | (apply w_condT; exact rfl; exact rfl)
 | (apply w_condF; exact rfl; exact rfl)
 | (apply s_k1 (bwithin_T _ _ _); exact rfl; assumption)
 | (apply s_k1 (bwithin_F _ _ _); exact rfl; assumption)
 | (apply s_s; exact rfl))
     exact lv_ret (ret1 rfl (res_tmp rfl))
 · rw [show ruleErr r = 15 by unfold ruleErr; repeat (omega)]
   refine summW Tryz.func85 rfl rfl 39 rfl (by simp) (fun M0 => ?_)
   repeat (first
 | (apply s_a TY; exact rfl)
 | apply w_seq
 | apply w_region
 | apply s_nil
 | apply t_norm
 | apply t_ret
 | apply w_ret
 | (apply w_condT; exact rfl; exact rfl)
 | (apply s_k1 (bwithin_F _ _ _); exact rfl; assumption))
   exact lv_ret (ret1 rfl (res_tmp rfl))
theorem CheckSetup1_s (i : Int) (r : Rule) : Summ Tryz.prog GG 232 [iv i, .agg (ruleF r)] (iv (ruleErr r)) := by
 refine summW Tryz.func232 rfl rfl 7 rfl (by simp) (fun M0 => ?_)
 repeat (first
 | (apply s_a TY; exact rfl)
 | apply w_seq
 | apply w_region
 | apply s_nil
 | apply t_norm
 | apply w_ret
 | (apply s_k (CheckRule_s _); exact rfl))
 exact lv_ret (ret1 rfl (res_tmp rfl))
set_option maxRecDepth 100000 in
theorem CheckSetup_s (s : Setup) (hlen : s.rules.length <= 1000000) : Summ Tryz.prog GG 130 [setF s] (.tup [iv (setupChk s).1, iv (setupChk s).2]) := by
 by_cases hn : s.rules.length = 0
 · rw [show setupChk s = (0, 10) by unfold setupChk; repeat (first | rfl | split)]
   refine summW Tryz.func130 rfl rfl 46 rfl (by simp) (fun M0 => ?_)
   repeat (first
 | (apply s_a TY; exact rfl)
 | (apply s_t; exact rfl; omega)
 | (apply s_f; exact rfl; omega)
 | apply w_seq
 | apply w_region
 | (apply w_draw (id := 1) 9 rfl (by kernel_rfl))
 | apply s_nil
 | apply t_norm
 | apply t_ret
 | apply w_ret
 | (apply w_condT; exact rfl; exact rfl)
 | (apply s_k1 (tfirst2_0 _ _); exact rfl; omega)
 | (apply s_k (tunless_T _); exact rfl)
 | (apply s_k (tunless_F _); exact rfl))
   exact lv_ret (ret2 rfl (res_tmp rfl) (res_tmp rfl))
 · by_cases hl : 4 < s.rules.length
   · rw [show setupChk s = (0, 8) by unfold setupChk; repeat (first | rfl | omega | split)]
     refine summW Tryz.func130 rfl rfl 46 rfl (by simp) (fun M0 => ?_)
     repeat (first
 | (apply s_a TY; exact rfl)
 | (apply s_t; exact rfl; omega)
 | (apply s_f; exact rfl; omega)
 | apply w_seq
 | apply w_region
 | (apply w_draw (id := 1) 9 rfl (by kernel_rfl))
 | apply s_nil
 | apply t_norm
 | apply t_ret
 | apply w_ret
 | (apply w_condT; exact rfl; exact rfl)
 | (apply s_k1 (tfirst2_1 _ _); exact rfl; omega)
 | (apply s_k (tunless_T _); exact rfl)
 | (apply s_k (tunless_F _); exact rfl))
     exact lv_ret (ret2 rfl (res_tmp rfl) (res_tmp rfl))
   · by_cases he : (eachE s.rules.length fun i => ruleErr (s.rules.getD i default)).2 = 0
     · by_cases hb : 0 <= s.before /\ s.before <= 1000000
       · by_cases ha : 0 <= s.after /\ s.after <= 1000000
         · by_cases hd : 0 <= s.dead /\ s.dead <= 1000000
           · rw [show setupChk s = (0, 0) by unfold setupChk; repeat (first | rfl | omega | split)]
             have HE := eachRule_s s.rules 232 [] (fun i => ruleErr (s.rules.getD i default)) (by omega) (fun i hi => by rw [getD_at hi]; exact CheckSetup1_s _ _)
             rw [he] at HE
             refine summW Tryz.func130 rfl rfl 46 rfl (by simp) (fun M0 => ?_)
             repeat (first
 | (apply s_a TY; exact rfl)
 | (apply s_t; exact rfl; omega)
 | apply w_seq
 | apply w_region
 | (apply w_draw (id := 1) 9 rfl (by kernel_rfl))
 | apply s_nil
 | apply t_norm
 | apply w_ret
 | apply w_skip
 | (apply w_condF; exact rfl; exact rfl)
 | (apply s_k (HE); exact rfl)
 | (apply s_k1 (tfirst2_1 _ _); exact rfl; omega)
 | (apply s_k (tunless_T _); exact rfl)
 | (apply s_k1 (isWindow_T _); exact rfl; assumption))
             exact lv_ret (ret2 rfl (res_tmp rfl) (res_tmp rfl))
           · rw [show setupChk s = (0, 2) by unfold setupChk; repeat (first | rfl | omega | split)]
             have HE := eachRule_s s.rules 232 [] (fun i => ruleErr (s.rules.getD i default)) (by omega) (fun i hi => by rw [getD_at hi]; exact CheckSetup1_s _ _)
             rw [he] at HE
             refine summW Tryz.func130 rfl rfl 46 rfl (by simp) (fun M0 => ?_)
             repeat (first
 | (apply s_a TY; exact rfl)
 | (apply s_t; exact rfl; omega)
 | apply w_seq
 | apply w_region
 | (apply w_draw (id := 1) 9 rfl (by kernel_rfl))
 | apply s_nil
 | apply t_norm
 | apply w_ret
 | apply w_skip
 | (apply w_condF; exact rfl; exact rfl)
 | (apply s_k (HE); exact rfl)
 | (apply s_k1 (tfirst2_1 _ _); exact rfl; omega)
 | (apply s_k (tunless_T _); exact rfl)
 | (apply s_k (tunless_F _); exact rfl)
 | (apply s_k1 (isWindow_T _); exact rfl; assumption)
 | (apply s_k1 (isWindow_F _); exact rfl; assumption))
             exact lv_ret (ret2 rfl (res_tmp rfl) (res_tmp rfl))
         · rw [show setupChk s = (0, 2) by unfold setupChk; repeat (first | rfl | omega | split)]
           have HE := eachRule_s s.rules 232 [] (fun i => ruleErr (s.rules.getD i default)) (by omega) (fun i hi => by rw [getD_at hi]; exact CheckSetup1_s _ _)
           rw [he] at HE
           refine summW Tryz.func130 rfl rfl 46 rfl (by simp) (fun M0 => ?_)
           repeat (first
 | (apply s_a TY; exact rfl)
 | (apply s_t; exact rfl; omega)
 | apply w_seq
 | apply w_region
 | (apply w_draw (id := 1) 9 rfl (by kernel_rfl))
 | apply s_nil
 | apply t_norm
 | apply w_ret
 | apply w_skip
 | (apply w_condF; exact rfl; exact rfl)
 | (apply s_k (HE); exact rfl)
 | (apply s_k1 (tfirst2_1 _ _); exact rfl; omega)
 | (apply s_k (tunless_T _); exact rfl)
 | (apply s_k (tunless_F _); exact rfl)
 | (apply s_k1 (isWindow_T _); exact rfl; assumption)
 | (apply s_k1 (isWindow_F _); exact rfl; assumption)
 | (apply s_s; exact rfl))
           exact lv_ret (ret2 rfl (res_tmp rfl) (res_tmp rfl))
       · rw [show setupChk s = (0, 2) by unfold setupChk; repeat (first | rfl | omega | split)]
         have HE := eachRule_s s.rules 232 [] (fun i => ruleErr (s.rules.getD i default)) (by omega) (fun i hi => by rw [getD_at hi]; exact CheckSetup1_s _ _)
         rw [he] at HE
         refine summW Tryz.func130 rfl rfl 46 rfl (by simp) (fun M0 => ?_)
         repeat (first
 | (apply s_a TY; exact rfl)
 | (apply s_t; exact rfl; omega)
 | apply w_seq
 | apply w_region
 | (apply w_draw (id := 1) 9 rfl (by kernel_rfl))
 | apply s_nil
 | apply t_norm
 | apply w_ret
 | apply w_skip
 | (apply w_condF; exact rfl; exact rfl)
 | (apply s_k (HE); exact rfl)
 | (apply s_k1 (tfirst2_1 _ _); exact rfl; omega)
 | (apply s_k (tunless_T _); exact rfl)
 | (apply s_k (tunless_F _); exact rfl)
 | (apply s_k1 (isWindow_F _); exact rfl; assumption)
 | (apply s_s; exact rfl))
         exact lv_ret (ret2 rfl (res_tmp rfl) (res_tmp rfl))
     · rw [show setupChk s = (eachE s.rules.length fun i => ruleErr (s.rules.getD i default)) by unfold setupChk; repeat (first | rfl | omega | split)]
       have HE := eachRule_s s.rules 232 [] (fun i => ruleErr (s.rules.getD i default)) (by omega) (fun i hi => by rw [getD_at hi]; exact CheckSetup1_s _ _)
       refine summW Tryz.func130 rfl rfl 46 rfl (by simp) (fun M0 => ?_)
       repeat (first
 | (apply s_a TY; exact rfl)
 | (apply s_t; exact rfl; omega)
 | (apply s_f; exact rfl; assumption)
 | apply w_seq
 | apply w_region
 | (apply w_draw (id := 1) 9 rfl (by kernel_rfl))
 | apply s_nil
 | apply t_norm
 | apply t_ret
 | apply w_ret
 | apply w_skip
 | (apply w_condT; exact rfl; exact rfl)
 | (apply w_condF; exact rfl; exact rfl)
 | (apply s_k (HE); exact rfl)
 | (apply s_k1 (tfirst2_1 _ _); exact rfl; omega)
 | (apply s_k (tunless_T _); exact rfl))
       exact lv_ret (ret2 rfl (res_tmp rfl) (res_tmp rfl))
set_option maxRecDepth 100000 in
theorem rCheckSetup_s (s : Setup) (hlen : s.rules.length <= 1000000) : Summ Tryz.prog GG 212 [setF s] (.tup [iv (setupChk s).1, iv (setupChk s).2]) := by
 by_cases hn : s.rules.length = 0
 · rw [show setupChk s = (0, 10) by unfold setupChk; repeat (first | rfl | split)]
   refine summW Tryz.func212 rfl rfl 47 rfl (by simp) (fun M0 => ?_)
   repeat (first
 | (apply s_a TY; exact rfl)
 | (apply s_t; exact rfl; omega)
 | apply w_seq
 | apply w_region
 | apply s_nil
 | apply t_norm
 | apply t_ret
 | apply w_ret
 | (apply w_condT; exact rfl; exact rfl))
   exact lv_ret (ret2 rfl (res_tmp rfl) (res_tmp rfl))
 by_cases hl : 4 < s.rules.length
 · rw [show setupChk s = (0, 8) by unfold setupChk; repeat (first | rfl | omega | split)]
   refine summW Tryz.func212 rfl rfl 47 rfl (by simp) (fun M0 => ?_)
   repeat (first
 | (apply s_a TY; exact rfl)
 | (apply s_t; exact rfl; omega)
 | (apply s_f; exact rfl; omega)
 | apply w_seq
 | apply w_region
 | apply s_nil
 | apply t_norm
 | apply t_ret
 | apply w_ret
 | apply w_skip
 | (apply w_condT; exact rfl; exact rfl)
 | (apply w_condF; exact rfl; exact rfl))
   exact lv_ret (ret2 rfl (res_tmp rfl) (res_tmp rfl))
 refine summW Tryz.func212 rfl rfl 47 rfl (by simp) (fun M0 => ?_)
 repeat (first
 | (apply s_a TY; exact rfl)
 | (apply s_f; exact rfl; omega)
 | apply w_seq
 | apply w_region
 | apply s_nil
 | apply t_norm
 | apply w_block
 | apply w_skip
 | (apply w_condF; exact rfl; exact rfl))
 apply w_loop (fun k : Nat => ⟨(Ab.upd (Ab.upd (fun _ => .bot) 1 (.f (.pt (setL s) 0))) 4 (.f (iv (k : Nat)))), (fun _ => none), 0⟩) (fun k => k <= s.rules.length /\ ∀ j, j < k -> ruleErr (s.rules.getD j default) = 0) (fun k => s.rules.length - k) 0 (⟨Nat.zero_le _, fun j h => absurd h (Nat.not_lt_zero j)⟩) (gh_le ⟨le_upd rfl trivial (le_upd rfl trivial (le_nil _)), le_h0 _ _⟩)
 intro k ⟨hk, hz⟩
 by_cases hc : k < s.rules.length
 · have hg := getD_at hc
   by_cases he : ruleErr s.rules[k] = 0
   · have HR := RuleErr_s s.rules[k]
     rw [he] at HR
     repeat (first
 | (apply s_a TY; exact rfl)
 | (apply s_t; exact rfl; omega)
 | apply w_seq
 | apply w_region
 | apply s_nil
 | apply t_norm
 | apply k_norm
 | apply w_block
 | apply w_skip
 | (apply w_condT; exact rfl; exact rfl)
 | (apply w_condF; exact rfl; exact rfl)
 | (apply s_k (HR); exact rfl)
 | (apply s_c TY; exact rfl; (first | omega | exact ⟨by omega, by (((with_reducible apply rulesF_ne); omega))⟩))
 | (apply s_m TY; exact rfl; (((with_reducible apply rulesF_sub); omega)); exact rfl))
     exact ⟨k + 1, ⟨by omega, fun j hj => by
      by_cases e : j = k
      · subst e; rw [hg]; exact he
      · exact hz j (by omega)⟩, by omega, gh_le ⟨le_upd rfl trivial (le_upd rfl trivial (le_nil _)), le_h0 _ _⟩⟩
   · have HE : setupChk s = (k, ruleErr s.rules[k]) := by
      unfold setupChk
      rw [if_neg hn, if_neg hl, eachE_at hc hz (by rw [hg]; exact he), hg, if_pos he]
     rw [HE]
     repeat (first
 | (apply s_a TY; exact rfl)
 | (apply s_t; exact rfl; omega)
 | (apply s_f; exact rfl; assumption)
 | apply w_seq
 | apply w_region
 | apply s_nil
 | apply t_norm
 | apply t_ret
 | apply k_ret
 | apply w_block
 | apply w_ret
 | apply w_skip
 | (apply w_condT; exact rfl; exact rfl)
 | (apply s_k (RuleErr_s _); exact rfl)
 | (apply s_c TY; exact rfl; (exact ⟨by omega, by (((with_reducible apply rulesF_ne); omega))⟩))
 | (apply s_m TY; exact rfl; (((with_reducible apply rulesF_sub); omega)); exact rfl))
     exact lv_ret (ret2 rfl (res_tmp rfl) (res_tmp rfl))
 · have he : (eachE s.rules.length fun i => ruleErr (s.rules.getD i default)).2 = 0 := by rw [eachE_ok (fun i hi => hz i (by omega))]
   by_cases hb : 0 <= s.before /\ s.before <= 1000000
   · by_cases ha : 0 <= s.after /\ s.after <= 1000000
     · by_cases hd : 0 <= s.dead /\ s.dead <= 1000000
       · rw [show setupChk s = (0, 0) by unfold setupChk; repeat (first | rfl | omega | split)]
         repeat (first
 | (apply s_a TY; exact rfl)
 | (apply s_f; exact rfl; omega)
 | apply w_seq
 | apply w_region
 | apply s_nil
 | apply t_norm
 | apply t_exit
 | apply k_hit
 | apply w_exit
 | apply w_ret
 | apply w_skip
 | (apply w_condF; exact rfl; exact rfl)
 | (apply s_k1 (rIsWindow_T _); exact rfl; assumption))
         exact lv_ret (ret2 rfl (res_tmp rfl) (res_tmp rfl))
       · rw [show setupChk s = (0, 2) by unfold setupChk; repeat (first | rfl | omega | split)]
         repeat (first
 | (apply s_a TY; exact rfl)
 | (apply s_f; exact rfl; omega)
 | apply w_seq
 | apply w_region
 | apply s_nil
 | apply t_norm
 | apply t_exit
 | apply t_ret
 | apply k_hit
 | apply w_exit
 | apply w_ret
 | (apply w_condT; exact rfl; exact rfl)
 | (apply w_condF; exact rfl; exact rfl)
 | (apply s_k1 (rIsWindow_T _); exact rfl; assumption)
 | (apply s_k1 (rIsWindow_F _); exact rfl; assumption))
         exact lv_ret (ret2 rfl (res_tmp rfl) (res_tmp rfl))
     · rw [show setupChk s = (0, 2) by unfold setupChk; repeat (first | rfl | omega | split)]
       repeat (first
 | (apply s_a TY; exact rfl)
 | (apply s_f; exact rfl; omega)
 | apply w_seq
 | apply w_region
 | apply s_nil
 | apply t_norm
 | apply t_exit
 | apply t_ret
 | apply k_hit
 | apply w_exit
 | apply w_ret
 | (apply w_condT; exact rfl; exact rfl)
 | (apply w_condF; exact rfl; exact rfl)
 | (apply s_k1 (rIsWindow_T _); exact rfl; assumption)
 | (apply s_k1 (rIsWindow_F _); exact rfl; assumption)
 | (apply s_s; exact rfl))
       exact lv_ret (ret2 rfl (res_tmp rfl) (res_tmp rfl))
   · rw [show setupChk s = (0, 2) by unfold setupChk; repeat (first | rfl | omega | split)]
     repeat (first
 | (apply s_a TY; exact rfl)
 | (apply s_f; exact rfl; omega)
 | apply w_seq
 | apply w_region
 | apply s_nil
 | apply t_norm
 | apply t_exit
 | apply t_ret
 | apply k_hit
 | apply w_exit
 | apply w_ret
 | (apply w_condT; exact rfl; exact rfl)
 | (apply w_condF; exact rfl; exact rfl)
 | (apply s_k1 (rIsWindow_F _); exact rfl; assumption)
 | (apply s_s; exact rfl))
     exact lv_ret (ret2 rfl (res_tmp rfl) (res_tmp rfl))
theorem SetupErr_s (s : Setup) (hlen : s.rules.length <= 1000000) : Summ Tryz.prog GG 102 [setF s] (iv (setupChk s).2) := by
 refine summW Tryz.func102 rfl rfl 11 rfl (by simp) (fun M0 => ?_)
 repeat (first
 | (apply s_a TY; exact rfl)
 | apply w_seq
 | apply w_region
 | apply s_nil
 | apply t_norm
 | apply w_ret
 | (apply s_k1 (rCheckSetup_s _); exact rfl; assumption))
 exact lv_ret (ret1 rfl (res_tmp rfl))
def encA (a : Int × Int) : Value := .agg #[.int .i64 a.1, .int .i64 a.2]
def encI (z : Int) : Value := .int .i64 z
theorem stoodA : Tryz.prog.stoodInHeld 411 = false := by kernel_rfl
theorem fieldsA : Tryz.prog.fieldsOf 411 = #[{ name := "line", type := 3, offset := 0, embedded := false, tag := "", pkgPath := "cherenkov/trigger", byteOffset := 0 }, { name := "sensor", type := 3, offset := 1, embedded := false, tag := "", pkgPath := "cherenkov/trigger", byteOffset := 8 }] := by kernel_rfl
theorem equalIn_A (d : Nat) (a b : Int × Int) (W : World) : (Op.equalIn (d + 2) 411 (encA a) (encA b)).run Tryz.prog W = .ok (decide (a = b)) W := by
 unfold encA
 rw [run_equalIn_agg W (d + 1) 411 _ _ (by rw [fieldsA]; exact Tryz.underlying411) stoodA, fieldsA]
 have e : decide (a = b) = (a.1 == b.1 && a.2 == b.2) := by
  cases a; cases b; simp [Prod.mk.injEq]
  rename_i p q r s
  by_cases h : p = r <;> by_cases h2 : q = s <;> simp [h, h2]
 rw [e]
 cases h1 : a.1 == b.1 <;> cases h2 : a.2 == b.2 <;> simp [Op.eqFields, part, run_equalIn_int W d 3 _ _ _ _ Tryz.underlying3, h1, h2]
theorem check_A (d : Nat) (c : Int × Int) (em : Bool) (W : World) : (Instr.checkKey em (d + 2) 411 (encA c)).run Tryz.prog W = .ok () W := by
 unfold encA
 simp [Instr.checkKey, run_underlying Tryz.underlying411, run_underlying Tryz.underlying3, part]
theorem same_A (d : Nat) (c : Int × Int) : Instr.sameBits (d + 2) (encA c) (encA c) = true := by unfold encA; simp [Instr.sameBits]
theorem keyA : KeyOk Tryz.prog 411 encA := KeyOk.struct Tryz.underlying411 (fun _ => ⟨_, rfl⟩) (fun a b W => equalIn_A 9998 a b W) (fun em c W => check_A 9998 c em W) (fun c => same_A 9998 c)
def siteRight (s : Site) : Prop := (1 <= s.line /\ s.line <= 100) /\ (1 <= s.sensor /\ s.sensor <= 100) /\ (-100000 <= s.x /\ s.x <= 100000) /\ (-100000 <= s.y /\ s.y <= 100000) /\ (-100000 <= s.z /\ s.z <= 100000)
instance (s : Site) : Decidable (siteRight s) := by unfold siteRight; infer_instance
def addr (s : Site) : Int × Int := (s.line, s.sensor)
def idxM (l : List Site) : Nat -> Int × Int -> Option Int
 | 0, _ => none
 | i + 1, a => if a = addr (l.getD i default) then some (i : Int) else idxM l i a
theorem idxM_none {l : List Site} {a : Int × Int} : ∀ {n : Nat}, idxM l n a = none ↔ ∀ k, k < n -> addr (l.getD k default) ≠ a
 | 0 => by simp [idxM]
 | n + 1 => by
   unfold idxM
   by_cases h : a = addr (l.getD n default)
   · simp only [if_pos h]
     exact ⟨(fun h2 => by cases h2), fun h2 => absurd h.symm (h2 n (by omega))⟩
   · rw [if_neg h, idxM_none]
     refine ⟨fun h2 k hk => ?_, fun h2 k hk => h2 k (by omega)⟩
     by_cases e : k = n
     · subst e; exact fun e => h e.symm
     · exact h2 k (by omega)
theorem idxM_some {l : List Site} {a : Int × Int} {z : Int} : ∀ {n : Nat}, idxM l n a = some z -> ∃ k : Nat, k < n /\ z = k /\ addr (l.getD k default) = a
 | 0, h => by simp [idxM] at h
 | n + 1, h => by
   unfold idxM at h
   by_cases e : a = addr (l.getD n default)
   · rw [if_pos e] at h; cases h; exact ⟨n, by omega, rfl, e.symm⟩
   · rw [if_neg e] at h; obtain ⟨k, h1, h2, h3⟩ := idxM_some h; exact ⟨k, by omega, h2, h3⟩
def siteE (l : List Site) (i : Nat) : Int := if ¬ siteRight (l.getD i default) then 2 else if (idxM l i (addr (l.getD i default))).isSome = true then 23 else 0
def arrChk (l : List Site) : Nat × Int := if l.length = 0 then (0, 10) else if 30 < l.length then (0, 8) else eachE l.length (siteE l)
def mapS (l : List Site) (n : Nat) : Obj -> Prop := mapFn encA encI (idxM l n)
theorem lookS {l : List Site} {n : Nat} {a : Int × Int} {z : Int} (h : idxM l n a = some z) (ob : Obj) (r : Nat) (w : World) (hg : mapS l n ob) (hr : w.heap[r]? = some ob) : (Instr.lookup 205 (.map (some r)) (encA a) true).run Tryz.prog w = .ok (.tuple #[.int .i64 z, .bool true]) w := by
 rw [mapFn_lookup keyA Tryz.underlying205 zeroI hg hr a true, h]; rfl
theorem lookN {l : List Site} {n : Nat} {a : Int × Int} (h : idxM l n a = none) (ob : Obj) (r : Nat) (w : World) (hg : mapS l n ob) (hr : w.heap[r]? = some ob) : (Instr.lookup 205 (.map (some r)) (encA a) true).run Tryz.prog w = .ok (.tuple #[.int .i64 0, .bool false]) w := by
 rw [mapFn_lookup keyA Tryz.underlying205 zeroI hg hr a true, h]; rfl
theorem lookA {l : List Site} {n : Nat} {a : Int × Int} (ob : Obj) (r : Nat) (w : World) (hg : mapS l n ob) (hr : w.heap[r]? = some ob) : (Instr.lookup 205 (.map (some r)) (encA a) true).run Tryz.prog w = .ok (.tuple #[.int .i64 ((idxM l n a).getD 0), .bool (idxM l n a).isSome]) w := by
 rw [mapFn_lookup keyA Tryz.underlying205 zeroI hg hr a true]
 cases idxM l n a <;> rfl
theorem updS {l : List Site} {n : Nat} (ob : Obj) (r : Nat) (w : World) (hg : mapS l n ob) (hr : w.heap[r]? = some ob) : ∃ ob', (Instr.mapUpdate 205 (.map (some r)) (encA (addr (l.getD n default))) (.int .i64 n)).run Tryz.prog w = .ok () (w.putObj r ob') /\ mapS l (n + 1) ob' /\ ob'.isMap = true := by
 obtain ⟨o', h1, h2⟩ := mapFn_update keyA Tryz.underlying205 hg hr (addr (l.getD n default)) ((n : Nat) : Int)
 refine ⟨o', h1, ?_, h2.isM⟩
 have e : (fun k => if k = addr (l.getD n default) then some ((n : Nat) : Int) else idxM l n k) = idxM l (n + 1) := by funext k; rfl
 rw [e] at h2; exact h2
theorem rep_tupIB (z : Int) (b : Bool) (w : World) (M : Nat -> Prop) : RepF w M (.tuple #[.int .i64 z, .bool b]) (.tup [iv z, bv b]) := by
 have R := RepL.cons (RepF.v (w := w) (M := M) (.int .i64 z)) (RepL.cons (RepF.v (w := w) (M := M) (.bool b)) (RepL.nil _ _))
 exact RepF.tup _ _ R.1 R.2
set_option maxRecDepth 100000 in
set_option maxHeartbeats 1600000 in
theorem openArray2_g (l : List Site) (i : Nat) (hi : i < l.length) (_hl : l.length <= 30) : SummG Tryz.prog GG 288 [.box [.f (.sl l.length (sitesF l)), .ow 1], .map (mapS l i)] [.f (iv i), .f (.agg (siteF l[i])), .f (.pt [.fn 286 []] 0), .bx 0 0] (.f (iv (siteE l i))) [.box [.f (.sl l.length (sitesF l)), .ow 1], .map (mapS l (i + 1))] := by
 have hgd := getD_at hi
 have updS' := updS (l := l) (n := i)
 rw [hgd] at updS'
 have hcase : idxM l i (addr l[i]) = none \/ ∃ z, idxM l i (addr l[i]) = some z := by cases idxM l i (addr l[i]) <;> simp
 by_cases hp1 : 1 <= l[i].line /\ l[i].line <= 100
 · by_cases hp2 : 1 <= l[i].sensor /\ l[i].sensor <= 100
   · by_cases hp3 : -100000 <= l[i].x /\ l[i].x <= 100000
     · by_cases hp4 : -100000 <= l[i].y /\ l[i].y <= 100000
       · by_cases hp5 : -100000 <= l[i].z /\ l[i].z <= 100000
         · have hR : siteRight l[i] := by unfold siteRight; exact ⟨hp1, hp2, hp3, hp4, hp5⟩
           rcases hcase with hkn | ⟨z, hks⟩
           · rw [show siteE l i = 0 by unfold siteE; rw [hgd]; rw [if_neg (by simpa using hR), if_neg (by rw [hkn]; simp)]]
             refine summG_of Tryz.func288 rfl rfl 60 rfl (by simp) (by simp) (fun i B B' h1 h2 => by
              match i, h1, h2 with
              | 0, h1, h2 => cases h1; cases h2; rfl
              | 1, h1, h2 => cases h1; cases h2; rfl
              | _ + 2, h1, _ => simp at h1) (fun M X J => ?_)
             repeat (first
 | (apply s_lookupO (lookN hkn); (iterate 6 exact rfl); exact rep_tupIB _ _)
 | (apply s_mapUpdate updS'; (iterate 6 exact rfl))
 | (apply s_a TY; exact rfl)
 | apply w_seq
 | apply w_region
 | apply s_nil
 | apply t_norm
 | apply w_ret
 | (apply s_k1 (isPlace_T _); exact rfl; assumption)
 | (apply s_k1 (tfirst2_1 _ _); exact rfl; omega)
 | (apply s_k (tunless_T _); exact rfl)
 | (apply s_k1 (isNumber_T _); exact rfl; assumption)
 | (apply s_alloc TY; exact rfl; exact rfl; exact rfl)
 | (apply s_store TY; (iterate 6 exact rfl)))
             exact lvG_ret (L' := [.box [.f (.sl l.length (sitesF l)), .ow 1], .map (mapS l (i + 1))]) (s := (Ab.upd (fun _ => .bot) 6 (.f (iv 0)))) (nx := 2) (gh_le ⟨le_upd rfl trivial (le_nil _), le_hupd rfl (fun y hy => by simp at hy; rcases hy with rfl | rfl <;> first | trivial | rfl) (le_hupd rfl trivial (le_h0 _ _))⟩) (rg1 rfl (rv_tmp rfl))
           · rw [show siteE l i = 23 by unfold siteE; rw [hgd]; rw [if_neg (by simpa using hR), if_pos (by rw [hks]; simp)]]
             refine summG_of Tryz.func288 rfl rfl 60 rfl (by simp) (by simp) (fun i B B' h1 h2 => by
              match i, h1, h2 with
              | 0, h1, h2 => cases h1; cases h2; rfl
              | 1, h1, h2 => cases h1; cases h2; rfl
              | _ + 2, h1, _ => simp at h1) (fun M X J => ?_)
             repeat (first
 | (apply s_lookupO (lookS hks); (iterate 6 exact rfl); exact rep_tupIB _ _)
 | (apply s_mapUpdate updS'; (iterate 6 exact rfl))
 | (apply s_a TY; exact rfl)
 | apply w_seq
 | apply w_region
 | apply s_nil
 | apply t_norm
 | apply w_ret
 | (apply s_k1 (isPlace_T _); exact rfl; assumption)
 | (apply s_k1 (tfirst2_1 _ _); exact rfl; omega)
 | (apply s_k (tunless_T _); exact rfl)
 | (apply s_k (tunless_F _); exact rfl)
 | (apply s_k1 (isNumber_T _); exact rfl; assumption)
 | (apply s_alloc TY; exact rfl; exact rfl; exact rfl)
 | (apply s_store TY; (iterate 6 exact rfl)))
             exact lvG_ret (L' := [.box [.f (.sl l.length (sitesF l)), .ow 1], .map (mapS l (i + 1))]) (s := (Ab.upd (fun _ => .bot) 6 (.f (iv 23)))) (nx := 2) (gh_le ⟨le_upd rfl trivial (le_nil _), le_hupd rfl (fun y hy => by simp at hy; rcases hy with rfl | rfl <;> first | trivial | rfl) (le_hupd rfl trivial (le_h0 _ _))⟩) (rg1 rfl (rv_tmp rfl))
         · have hR : ¬ siteRight l[i] := by unfold siteRight; exact fun h => absurd h.2.2.2.2 hp5
           rw [show siteE l i = 2 by unfold siteE; rw [hgd]; rw [if_pos hR]]
           refine summG_of Tryz.func288 rfl rfl 60 rfl (by simp) (by simp) (fun i B B' h1 h2 => by
            match i, h1, h2 with
            | 0, h1, h2 => cases h1; cases h2; rfl
            | 1, h1, h2 => cases h1; cases h2; rfl
            | _ + 2, h1, _ => simp at h1) (fun M X J => ?_)
           repeat (first
 | (apply s_lookupO (lookA (l := l) (n := i) (a := addr l[i])); (iterate 6 exact rfl); exact rep_tupIB _ _)
 | (apply s_mapUpdate updS'; (iterate 6 exact rfl))
 | (apply s_a TY; exact rfl)
 | apply w_seq
 | apply w_region
 | apply s_nil
 | apply t_norm
 | apply w_ret
 | (apply s_k1 (isPlace_T _); exact rfl; assumption)
 | (apply s_k1 (isPlace_F _); exact rfl; assumption)
 | (apply s_k1 (tfirst2_0 _ _); exact rfl; omega)
 | (apply s_k (tunless_F _); exact rfl)
 | (apply s_k (tunless_s _ _); exact rfl)
 | (apply s_k1 (isNumber_T _); exact rfl; assumption)
 | (apply s_alloc TY; exact rfl; exact rfl; exact rfl)
 | (apply s_store TY; (iterate 6 exact rfl)))
           exact lvG_ret (L' := [.box [.f (.sl l.length (sitesF l)), .ow 1], .map (mapS l (i + 1))]) (s := (Ab.upd (fun _ => .bot) 6 (.f (iv 2)))) (nx := 2) (gh_le ⟨le_upd rfl trivial (le_nil _), le_hupd rfl (fun y hy => by simp at hy; rcases hy with rfl | rfl <;> first | trivial | rfl) (le_hupd rfl trivial (le_h0 _ _))⟩) (rg1 rfl (rv_tmp rfl))
       · have hR : ¬ siteRight l[i] := by unfold siteRight; exact fun h => absurd h.2.2.2.1 hp4
         rw [show siteE l i = 2 by unfold siteE; rw [hgd]; rw [if_pos hR]]
         refine summG_of Tryz.func288 rfl rfl 60 rfl (by simp) (by simp) (fun i B B' h1 h2 => by
          match i, h1, h2 with
          | 0, h1, h2 => cases h1; cases h2; rfl
          | 1, h1, h2 => cases h1; cases h2; rfl
          | _ + 2, h1, _ => simp at h1) (fun M X J => ?_)
         repeat (first
 | (apply s_lookupO (lookA (l := l) (n := i) (a := addr l[i])); (iterate 6 exact rfl); exact rep_tupIB _ _)
 | (apply s_mapUpdate updS'; (iterate 6 exact rfl))
 | (apply s_a TY; exact rfl)
 | apply w_seq
 | apply w_region
 | apply s_nil
 | apply t_norm
 | apply w_ret
 | (apply s_k1 (isPlace_T _); exact rfl; assumption)
 | (apply s_k1 (isPlace_F _); exact rfl; assumption)
 | (apply s_k1 (tfirst2_0 _ _); exact rfl; omega)
 | (apply s_k (tunless_F _); exact rfl)
 | (apply s_k (tunless_s _ _); exact rfl)
 | (apply s_k1 (isNumber_T _); exact rfl; assumption)
 | (apply s_s; exact rfl)
 | (apply s_alloc TY; exact rfl; exact rfl; exact rfl)
 | (apply s_store TY; (iterate 6 exact rfl)))
         exact lvG_ret (L' := [.box [.f (.sl l.length (sitesF l)), .ow 1], .map (mapS l (i + 1))]) (s := (Ab.upd (fun _ => .bot) 6 (.f (iv 2)))) (nx := 2) (gh_le ⟨le_upd rfl trivial (le_nil _), le_hupd rfl (fun y hy => by simp at hy; rcases hy with rfl | rfl <;> first | trivial | rfl) (le_hupd rfl trivial (le_h0 _ _))⟩) (rg1 rfl (rv_tmp rfl))
     · have hR : ¬ siteRight l[i] := by unfold siteRight; exact fun h => absurd h.2.2.1 hp3
       rw [show siteE l i = 2 by unfold siteE; rw [hgd]; rw [if_pos hR]]
       refine summG_of Tryz.func288 rfl rfl 60 rfl (by simp) (by simp) (fun i B B' h1 h2 => by
        match i, h1, h2 with
        | 0, h1, h2 => cases h1; cases h2; rfl
        | 1, h1, h2 => cases h1; cases h2; rfl
        | _ + 2, h1, _ => simp at h1) (fun M X J => ?_)
       repeat (first
 | (apply s_lookupO (lookA (l := l) (n := i) (a := addr l[i])); (iterate 6 exact rfl); exact rep_tupIB _ _)
 | (apply s_mapUpdate updS'; (iterate 6 exact rfl))
 | (apply s_a TY; exact rfl)
 | apply w_seq
 | apply w_region
 | apply s_nil
 | apply t_norm
 | apply w_ret
 | (apply s_k1 (isPlace_F _); exact rfl; assumption)
 | (apply s_k1 (tfirst2_0 _ _); exact rfl; omega)
 | (apply s_k (tunless_F _); exact rfl)
 | (apply s_k (tunless_s _ _); exact rfl)
 | (apply s_k1 (isNumber_T _); exact rfl; assumption)
 | (apply s_s; exact rfl)
 | (apply s_alloc TY; exact rfl; exact rfl; exact rfl)
 | (apply s_store TY; (iterate 6 exact rfl)))
       exact lvG_ret (L' := [.box [.f (.sl l.length (sitesF l)), .ow 1], .map (mapS l (i + 1))]) (s := (Ab.upd (fun _ => .bot) 6 (.f (iv 2)))) (nx := 2) (gh_le ⟨le_upd rfl trivial (le_nil _), le_hupd rfl (fun y hy => by simp at hy; rcases hy with rfl | rfl <;> first | trivial | rfl) (le_hupd rfl trivial (le_h0 _ _))⟩) (rg1 rfl (rv_tmp rfl))
   · have hR : ¬ siteRight l[i] := by unfold siteRight; exact fun h => absurd h.2.1 hp2
     rw [show siteE l i = 2 by unfold siteE; rw [hgd]; rw [if_pos hR]]
     refine summG_of Tryz.func288 rfl rfl 60 rfl (by simp) (by simp) (fun i B B' h1 h2 => by
      match i, h1, h2 with
      | 0, h1, h2 => cases h1; cases h2; rfl
      | 1, h1, h2 => cases h1; cases h2; rfl
      | _ + 2, h1, _ => simp at h1) (fun M X J => ?_)
     repeat (first
 | (apply s_lookupO (lookA (l := l) (n := i) (a := addr l[i])); (iterate 6 exact rfl); exact rep_tupIB _ _)
 | (apply s_mapUpdate updS'; (iterate 6 exact rfl))
 | (apply s_a TY; exact rfl)
 | apply w_seq
 | apply w_region
 | apply s_nil
 | apply t_norm
 | apply w_ret
 | (apply s_k1 (tfirst2_0 _ _); exact rfl; omega)
 | (apply s_k (tunless_F _); exact rfl)
 | (apply s_k (tunless_s _ _); exact rfl)
 | (apply s_k1 (isNumber_T _); exact rfl; assumption)
 | (apply s_k1 (isNumber_F _); exact rfl; assumption)
 | (apply s_s; exact rfl)
 | (apply s_alloc TY; exact rfl; exact rfl; exact rfl)
 | (apply s_store TY; (iterate 6 exact rfl)))
     exact lvG_ret (L' := [.box [.f (.sl l.length (sitesF l)), .ow 1], .map (mapS l (i + 1))]) (s := (Ab.upd (fun _ => .bot) 6 (.f (iv 2)))) (nx := 2) (gh_le ⟨le_upd rfl trivial (le_nil _), le_hupd rfl (fun y hy => by simp at hy; rcases hy with rfl | rfl <;> first | trivial | rfl) (le_hupd rfl trivial (le_h0 _ _))⟩) (rg1 rfl (rv_tmp rfl))
 · have hR : ¬ siteRight l[i] := by unfold siteRight; exact fun h => absurd h.1 hp1
   rw [show siteE l i = 2 by unfold siteE; rw [hgd]; rw [if_pos hR]]
   refine summG_of Tryz.func288 rfl rfl 60 rfl (by simp) (by simp) (fun i B B' h1 h2 => by
    match i, h1, h2 with
    | 0, h1, h2 => cases h1; cases h2; rfl
    | 1, h1, h2 => cases h1; cases h2; rfl
    | _ + 2, h1, _ => simp at h1) (fun M X J => ?_)
   repeat (first
 | (apply s_lookupO (lookA (l := l) (n := i) (a := addr l[i])); (iterate 6 exact rfl); exact rep_tupIB _ _)
 | (apply s_mapUpdate updS'; (iterate 6 exact rfl))
 | (apply s_a TY; exact rfl)
 | apply w_seq
 | apply w_region
 | apply s_nil
 | apply t_norm
 | apply w_ret
 | (apply s_k1 (tfirst2_0 _ _); exact rfl; omega)
 | (apply s_k (tunless_F _); exact rfl)
 | (apply s_k (tunless_s _ _); exact rfl)
 | (apply s_k1 (isNumber_F _); exact rfl; assumption)
 | (apply s_s; exact rfl)
 | (apply s_alloc TY; exact rfl; exact rfl; exact rfl)
 | (apply s_store TY; (iterate 6 exact rfl)))
   exact lvG_ret (L' := [.box [.f (.sl l.length (sitesF l)), .ow 1], .map (mapS l (i + 1))]) (s := (Ab.upd (fun _ => .bot) 6 (.f (iv 2)))) (nx := 2) (gh_le ⟨le_upd rfl trivial (le_nil _), le_hupd rfl (fun y hy => by simp at hy; rcases hy with rfl | rfl <;> first | trivial | rfl) (le_hupd rfl trivial (le_h0 _ _))⟩) (rg1 rfl (rv_tmp rfl))
set_option maxRecDepth 100000 in
set_option maxHeartbeats 1600000 in
theorem eachSite_g (l : List Site) (hl : l.length <= 30) : SummG Tryz.prog GG 287 [.box [.f (.sl l.length (sitesF l)), .ow 1], .map (mapS l 0)] [.f (.sl l.length (sitesF l)), .fb 288 [.f (.pt [.fn 286 []] 0), .bx 0 0]] (.f (.tup [iv (eachE l.length (siteE l)).1, iv (eachE l.length (siteE l)).2])) [.box [.f (.sl l.length (sitesF l)), .ow 1], .map (mapS l (if (eachE l.length (siteE l)).2 = 0 then l.length else (eachE l.length (siteE l)).1 + 1))] := by
 rcases eachE_cases l.length (siteE l) with ⟨he, hz⟩ | ⟨q, hq, hz, hne, he⟩
 · rw [he]
   simp only [if_true]
   refine summG_of Tryz.func287 rfl rfl 25 rfl (by simp) (by simp) (fun i B B' h1 h2 => by
    match i, h1, h2 with
    | 0, h1, h2 => cases h1; cases h2; rfl
    | 1, h1, h2 => cases h1; cases h2; rfl
    | _ + 2, h1, _ => simp at h1) (fun M X J => ?_)
   repeat (first
 | (apply s_a TY; exact rfl)
 | apply w_seq
 | apply w_region
 | apply s_nil
 | apply t_norm
 | apply w_block)
   apply w_loop (fun k : Nat => ⟨(Ab.upd (Ab.upd (Ab.upd (Ab.upd (fun _ => .bot) 1 (.fb 288 [.f (.pt [.fn 286 []] 0), .bx 0 0])) 9 (.f (.sl l.length (sitesF l)))) 10 (.f (iv l.length))) 11 (.f (iv (k : Nat)))), (Ab.upd (Ab.upd (fun _ => none) 1 (some (.map (mapS l k)))) 0 (some (.box [.f (.sl l.length (sitesF l)), .ow 1]))), 2⟩) (fun k => k <= l.length) (fun k => l.length - k) 0 (Nat.zero_le _) (gh_le ⟨le_upd rfl trivial (le_upd rfl trivial (le_upd rfl trivial (le_upd rfl rfl (le_nil _)))), le_hupd rfl (fun y hy => by simp at hy; rcases hy with rfl | rfl <;> first | trivial | rfl) (le_hupd rfl trivial (le_h0 _ _))⟩)
   intro k hk
   by_cases hc : k < l.length
   · have Hc := openArray2_g l k hc hl
     rw [hz k hc] at Hc
     repeat (first
 | (apply s_a TY; exact rfl)
 | (apply s_t; exact rfl; omega)
 | apply w_seq
 | apply w_region
 | apply s_nil
 | apply t_norm
 | apply k_norm
 | apply w_block
 | apply w_skip
 | (apply w_condT; exact rfl; exact rfl)
 | (apply w_condF; exact rfl; exact rfl)
 | (apply s_callG [0,1] (Hc); exact rfl; exact rfl; exact rfl; exact ⟨rfl, ⟨rfl, trivial⟩⟩; exact rfl; (exact ⟨rfl, rfl⟩))
 | (apply s_c TY; exact rfl; (first | omega | exact ⟨by omega, by (((with_reducible apply sitesF_ne); omega))⟩))
 | (apply s_m TY; exact rfl; (((with_reducible apply sitesF_sub); omega)); exact rfl)
 | (apply s_alloc TY; exact rfl; exact rfl; exact rfl)
 | (apply s_store TY; (iterate 6 exact rfl)))
     exact ⟨k + 1, by omega, by omega, gh_le ⟨le_upd rfl trivial (le_upd rfl trivial (le_upd rfl trivial (le_upd rfl rfl (le_nil _)))), le_hupd rfl (fun y hy => by simp at hy; rcases hy with rfl | rfl <;> first | trivial | rfl) (le_hupd rfl trivial (le_h0 _ _))⟩⟩
   · have e : k = l.length := by omega
     subst e
     repeat (first
 | (apply s_a TY; exact rfl)
 | (apply s_f; exact rfl; omega)
 | apply w_seq
 | apply w_region
 | apply s_nil
 | apply t_norm
 | apply t_exit
 | apply k_hit
 | apply w_exit
 | apply w_ret
 | (apply w_condF; exact rfl; exact rfl))
     exact lvG_ret (L' := [.box [.f (.sl l.length (sitesF l)), .ow 1], .map (mapS l l.length)]) (s := (Ab.upd (Ab.upd (fun _ => .bot) 4 (.f (iv ((0 : Nat) : Int)))) 5 (.f (iv 0)))) (nx := 2) (gh_le ⟨le_upd rfl trivial (le_upd rfl trivial (le_nil _)), le_hupd rfl (fun y hy => by simp at hy; rcases hy with rfl | rfl <;> first | trivial | rfl) (le_hupd rfl trivial (le_h0 _ _))⟩) (rg2 (.f (iv ((0 : Nat) : Int))) (.f (iv 0)) rfl (rv_tmp rfl) (rv_tmp rfl) rfl)
 · rw [he]
   simp only [if_neg hne]
   refine summG_of Tryz.func287 rfl rfl 25 rfl (by simp) (by simp) (fun i B B' h1 h2 => by
    match i, h1, h2 with
    | 0, h1, h2 => cases h1; cases h2; rfl
    | 1, h1, h2 => cases h1; cases h2; rfl
    | _ + 2, h1, _ => simp at h1) (fun M X J => ?_)
   repeat (first
 | (apply s_a TY; exact rfl)
 | apply w_seq
 | apply w_region
 | apply s_nil
 | apply t_norm
 | apply w_block)
   apply w_loop (fun k : Nat => ⟨(Ab.upd (Ab.upd (Ab.upd (Ab.upd (fun _ => .bot) 1 (.fb 288 [.f (.pt [.fn 286 []] 0), .bx 0 0])) 9 (.f (.sl l.length (sitesF l)))) 10 (.f (iv l.length))) 11 (.f (iv (k : Nat)))), (Ab.upd (Ab.upd (fun _ => none) 1 (some (.map (mapS l k)))) 0 (some (.box [.f (.sl l.length (sitesF l)), .ow 1]))), 2⟩) (fun k => k <= q) (fun k => q - k) 0 (Nat.zero_le _) (gh_le ⟨le_upd rfl trivial (le_upd rfl trivial (le_upd rfl trivial (le_upd rfl rfl (le_nil _)))), le_hupd rfl (fun y hy => by simp at hy; rcases hy with rfl | rfl <;> first | trivial | rfl) (le_hupd rfl trivial (le_h0 _ _))⟩)
   intro k hk
   have hc : k < l.length := by omega
   have Hc := openArray2_g l k hc hl
   by_cases hkq : k = q
   · subst hkq
     repeat (first
 | (apply s_a TY; exact rfl)
 | (apply s_t; exact rfl; omega)
 | (apply s_f; exact rfl; assumption)
 | apply w_seq
 | apply w_region
 | apply s_nil
 | apply t_norm
 | apply t_ret
 | apply k_ret
 | apply w_block
 | apply w_ret
 | apply w_skip
 | (apply w_condT; exact rfl; exact rfl)
 | (apply s_callG [0,1] (Hc); exact rfl; exact rfl; exact rfl; exact ⟨rfl, ⟨rfl, trivial⟩⟩; exact rfl; (exact ⟨rfl, rfl⟩))
 | (apply s_c TY; exact rfl; (exact ⟨by omega, by (((with_reducible apply sitesF_ne); omega))⟩))
 | (apply s_m TY; exact rfl; (((with_reducible apply sitesF_sub); omega)); exact rfl)
 | (apply s_alloc TY; exact rfl; exact rfl; exact rfl)
 | (apply s_store TY; (iterate 6 exact rfl)))
     exact lvG_ret (L' := [.box [.f (.sl l.length (sitesF l)), .ow 1], .map (mapS l (k + 1))]) (s := (Ab.upd (Ab.upd (fun _ => .bot) 4 (.f (iv (k : Nat)))) 5 (.f (iv (siteE l k))))) (nx := 2) (gh_le ⟨le_upd rfl trivial (le_upd rfl trivial (le_nil _)), le_hupd rfl (fun y hy => by simp at hy; rcases hy with rfl | rfl <;> first | trivial | rfl) (le_hupd rfl trivial (le_h0 _ _))⟩) (rg2 (.f (iv (k : Nat))) (.f (iv (siteE l k))) rfl (rv_tmp rfl) (rv_tmp rfl) rfl)
   · rw [hz k (by omega)] at Hc
     repeat (first
 | (apply s_a TY; exact rfl)
 | (apply s_t; exact rfl; omega)
 | apply w_seq
 | apply w_region
 | apply s_nil
 | apply t_norm
 | apply k_norm
 | apply w_block
 | apply w_skip
 | (apply w_condT; exact rfl; exact rfl)
 | (apply w_condF; exact rfl; exact rfl)
 | (apply s_callG [0,1] (Hc); exact rfl; exact rfl; exact rfl; exact ⟨rfl, ⟨rfl, trivial⟩⟩; exact rfl; (exact ⟨rfl, rfl⟩))
 | (apply s_c TY; exact rfl; (first | omega | exact ⟨by omega, by (((with_reducible apply sitesF_ne); omega))⟩))
 | (apply s_m TY; exact rfl; (((with_reducible apply sitesF_sub); omega)); exact rfl)
 | (apply s_alloc TY; exact rfl; exact rfl; exact rfl)
 | (apply s_store TY; (iterate 6 exact rfl)))
     exact ⟨k + 1, by omega, by omega, gh_le ⟨le_upd rfl trivial (le_upd rfl trivial (le_upd rfl trivial (le_upd rfl rfl (le_nil _)))), le_hupd rfl (fun y hy => by simp at hy; rcases hy with rfl | rfl <;> first | trivial | rfl) (le_hupd rfl trivial (le_h0 _ _))⟩⟩
def arrayV (l : List Site) : FV := .agg [.sl l.length (sitesF l), .mp (mapS l l.length)]
theorem openArray_ok (l : List Site) (hlen : l.length <= 1000000) (h : (arrChk l).2 = 0) : Summ Tryz.prog GG 218 [arrF l] (.tup [arrayV l, iv 0, iv 0]) := by
 have hn : l.length ≠ 0 := fun hn => by unfold arrChk at h; rw [if_pos hn] at h; cases h
 have h30 : ¬ 30 < l.length := fun h3 => by unfold arrChk at h; rw [if_neg hn, if_pos h3] at h; cases h
 have HA : arrChk l = eachE l.length (siteE l) := by unfold arrChk; rw [if_neg hn, if_neg h30]
 rw [HA] at h
 have HG := eachSite_g l (by omega)
 rw [if_pos h] at HG
 have h0 : eachE l.length (siteE l) = (0, 0) := by
  rcases eachE_cases l.length (siteE l) with ⟨he, _⟩ | ⟨q, _, _, hne, he⟩
  · exact he
  · rw [he] at h; exact absurd h hne
 rw [h0] at HG
 refine summW Tryz.func218 rfl rfl 39 rfl (by simp) (fun M0 => ?_)
 repeat (first
 | (apply s_a TY; exact rfl)
 | (apply s_makefbC; exact rfl; exact rfl; exact rfl)
 | (apply s_buildO TY; (iterate 6 exact rfl))
 | (apply s_makeMap; exact rfl; exact rfl)
 | (apply s_t; exact rfl; omega)
 | apply w_seq
 | apply w_region
 | (apply w_draw (id := 2) 9 rfl (by kernel_rfl))
 | apply s_nil
 | apply t_norm
 | apply w_skip
 | (apply w_condF; exact rfl; exact rfl)
 | (apply s_k1 (tfirst2_1 _ _); exact rfl; omega)
 | (apply s_k (tunless_T _); exact rfl)
 | (apply s_alloc TY; exact rfl; exact rfl; exact rfl)
 | (apply s_store TY; (iterate 6 exact rfl)))
 refine s_ghost rfl (gh_mapW 1 (mapS l 0) rfl (fun o h => by subst h; exact mapFn_new)) ?_
 refine s_ghost rfl (gh_box 3 (cs := [.fn 286 []]) rfl rfl) ?_
 repeat (first
 | (apply s_a TY; exact rfl)
 | (apply s_o TY; exact rfl)
 | apply w_seq
 | apply w_region
 | apply s_nil
 | apply t_norm
 | apply w_ret
 | (apply s_callG [2,1] (HG); exact rfl; exact rfl; exact rfl; exact ⟨rfl, ⟨rfl, trivial⟩⟩; exact rfl; (exact ⟨rfl, rfl⟩))
 | (apply s_store TY; (iterate 6 exact rfl)))
 exact lv_ret (ret_gh (gh_map 1 (mapS l l.length) rfl (fun _ h => h)) (ret3 rfl (res_bxs (sub := [.sl l.length (sitesF l), .mp (mapS l l.length)]) TY rfl rfl rfl rfl rfl) (res_tmp rfl) (res_tmp rfl)))
def before (a b : Hit) : Prop := a.tm < b.tm \/ (a.tm = b.tm /\ (a.line < b.line \/ (a.line = b.line /\ a.sensor < b.sensor)))
instance (a b : Hit) : Decidable (before a b) := by unfold before; infer_instance
def cmpI (a b : Int) : Int := if a < b then -1 else if b < a then 1 else 0
def cmpHit (a b : Hit) : Int := firstE [cmpI a.tm b.tm, cmpI a.line b.line, cmpI a.sensor b.sensor]
theorem cmpHit_neg (a b : Hit) : cmpHit a b < 0 ↔ before a b := by
 unfold cmpHit firstE firstE firstE firstE cmpI before
 repeat (omega)
def hitA (h : Hit) : Int × Int := (h.line, h.sensor)
def siteM (l : List Site) (h : Hit) : Option Int := idxM l l.length (hitA h)
def hitE (l : List Site) (h : List Hit) (i : Nat) : Int := firstE [unlessE (withinB (h.getD i default).tm 0 1000000000000) 2, unlessE (siteM l (h.getD i default)).isSome 6, unlessE (decide (i = 0) || decide (before (h.getD (i - 1) default) (h.getD i default))) 9]
def hitsChk (l : List Site) (h : List Hit) : Nat × Int := if 40 < h.length then (0, 8) else eachE h.length (hitE l h)
theorem lookF {l : List Site} {a : Int × Int} (ob : Obj) (r : Nat) (w : World) (hg : mapS l l.length ob) (hr : w.heap[r]? = some ob) : (Instr.lookup 205 (.map (some r)) (encA a) true).run Tryz.prog w = .ok (.tuple #[.int .i64 ((idxM l l.length a).getD 0), .bool (idxM l l.length a).isSome]) w := lookA ob r w hg hr
set_option maxRecDepth 100000 in
theorem site_s (l : List Site) (h : Hit) : Summ Tryz.prog GG 294 [arrayV l, .agg (hitF h)] (.tup [iv ((siteM l h).getD 0), bv (siteM l h).isSome]) := by
 refine summW Tryz.func294 rfl rfl 21 rfl (by simp) (fun M0 => ?_)
 repeat (first
 | (apply s_lookupF (lookF (l := l) (a := (h.line, h.sensor))); (iterate 5 exact rfl); exact rep_tupIB _ _)
 | (apply s_a TY; exact rfl)
 | apply w_seq
 | apply w_region
 | apply s_nil
 | apply t_norm
 | apply w_ret)
 exact lv_ret (ret2 rfl (res_tmp rfl) (res_tmp rfl))
theorem tisNaN_s (n : Int) : Summ Tryz.prog GG 266 [iv n] (.v (.bool false)) := by
 refine summW Tryz.func266 rfl rfl 6 rfl (by simp) (fun M0 => ?_)
 repeat (first
 | (apply s_a TY; exact rfl)
 | (apply s_t; exact rfl; omega)
 | apply w_seq
 | apply w_region
 | apply s_nil
 | apply t_norm
 | apply w_ret)
 exact lv_ret (ret1 rfl (res_tmp rfl))
theorem tCompare_s (a b : Int) : Summ Tryz.prog GG 189 [iv a, iv b] (iv (cmpI a b)) := by
 by_cases h1 : a < b
 · rw [show cmpI a b = -1 by unfold cmpI; repeat (omega)]
   refine summW Tryz.func189 rfl rfl 20 rfl (by simp) (fun M0 => ?_)
   repeat (first
 | (apply s_a TY; exact rfl)
 | (apply s_t; exact rfl; assumption)
 | apply w_seq
 | apply w_region
 | apply s_nil
 | apply t_norm
 | apply t_ret
 | apply w_ret
 | apply w_skip
 | (apply w_condT; exact rfl; exact rfl)
 | (apply w_condF; exact rfl; exact rfl)
 | (apply s_k (tisNaN_s _); exact rfl))
   exact lv_ret (ret1 rfl (res_tmp rfl))
 · by_cases h2 : b < a
   · rw [show cmpI a b = 1 by unfold cmpI; repeat (omega)]
     refine summW Tryz.func189 rfl rfl 20 rfl (by simp) (fun M0 => ?_)
     repeat (first
 | (apply s_a TY; exact rfl)
 | (apply s_t; exact rfl; assumption)
 | (apply s_f; exact rfl; assumption)
 | apply w_seq
 | apply w_region
 | apply s_nil
 | apply t_norm
 | apply t_ret
 | apply w_ret
 | apply w_skip
 | (apply w_condT; exact rfl; exact rfl)
 | (apply w_condF; exact rfl; exact rfl)
 | (apply s_k (tisNaN_s _); exact rfl))
     exact lv_ret (ret1 rfl (res_tmp rfl))
   · rw [show cmpI a b = 0 by unfold cmpI; repeat (omega)]
     refine summW Tryz.func189 rfl rfl 20 rfl (by simp) (fun M0 => ?_)
     repeat (first
 | (apply s_a TY; exact rfl)
 | (apply s_f; exact rfl; assumption)
 | apply w_seq
 | apply w_region
 | apply s_nil
 | apply t_norm
 | apply w_ret
 | apply w_skip
 | (apply w_condF; exact rfl; exact rfl)
 | (apply s_k (tisNaN_s _); exact rfl))
     exact lv_ret (ret1 rfl (res_tmp rfl))
set_option maxRecDepth 100000 in
theorem Or_s (l : List Int) (hl : l.length <= 1000000) : Summ Tryz.prog GG 260 [.sl l.length (intsF l)] (iv (firstE l)) := by
 refine summW Tryz.func260 rfl rfl 18 rfl (by simp) (fun M0 => ?_)
 repeat (first
 | (apply s_a TY; exact rfl)
 | apply w_seq
 | apply w_region
 | apply s_nil
 | apply t_norm
 | apply w_block)
 apply w_loop (fun k : Nat => ⟨(Ab.upd (Ab.upd (Ab.upd (Ab.upd (fun _ => .bot) 3 (.f (iv 0))) 6 (.f (.sl l.length (intsF l)))) 7 (.f (iv l.length))) 8 (.f (iv (k : Nat)))), (fun _ => none), 0⟩) (fun k => k <= l.length /\ ∀ j (hj : j < l.length), j < k -> l[j] = 0) (fun k => l.length - k) 0 (⟨Nat.zero_le _, fun j _ h => absurd h (Nat.not_lt_zero j)⟩) (gh_le ⟨le_upd rfl trivial (le_upd rfl trivial (le_upd rfl trivial (le_upd rfl trivial (le_nil _)))), le_h0 _ _⟩)
 intro k ⟨hk, hz⟩
 by_cases hc : k < l.length
 · by_cases he : l[k] = 0
   · repeat (first
 | (apply s_a TY; exact rfl)
 | (apply s_t; exact rfl; (first | assumption | omega))
 | apply w_seq
 | apply w_region
 | apply s_nil
 | apply t_norm
 | apply k_norm
 | apply w_block
 | apply w_skip
 | (apply w_condT; exact rfl; exact rfl)
 | (apply w_condF; exact rfl; exact rfl)
 | (apply s_c TY; exact rfl; (first | omega | exact ⟨by omega, by (((with_reducible apply intsF_ne); omega))⟩))
 | (apply s_l TY; exact rfl; (((with_reducible apply intsF_at); omega))))
     exact ⟨k + 1, ⟨by omega, fun j hj hlt => by
      by_cases e : j = k
      · subst e; exact he
      · exact hz j hj (by omega)⟩, by omega, gh_le ⟨le_upd rfl trivial (le_upd rfl trivial (le_upd rfl trivial (le_upd rfl trivial (le_nil _)))), le_h0 _ _⟩⟩
   · rw [firstE_at hc (fun j hj hlt => hz j hj hlt) he]
     repeat (first
 | (apply s_a TY; exact rfl)
 | (apply s_t; exact rfl; omega)
 | (apply s_f; exact rfl; assumption)
 | apply w_seq
 | apply w_region
 | apply s_nil
 | apply t_norm
 | apply t_ret
 | apply k_ret
 | apply w_block
 | apply w_ret
 | apply w_skip
 | (apply w_condT; exact rfl; exact rfl)
 | (apply s_c TY; exact rfl; (exact ⟨by omega, by (((with_reducible apply intsF_ne); omega))⟩))
 | (apply s_l TY; exact rfl; (((with_reducible apply intsF_at); omega))))
     exact lv_ret (ret1 rfl (res_tmp rfl))
 · rw [firstE_zeros (fun j hj => hz j hj (by omega))]
   repeat (first
 | (apply s_a TY; exact rfl)
 | (apply s_f; exact rfl; omega)
 | apply w_seq
 | apply w_region
 | apply s_nil
 | apply t_norm
 | apply t_exit
 | apply k_hit
 | apply w_exit
 | apply w_ret
 | (apply w_condF; exact rfl; exact rfl))
   exact lv_ret (ret1 rfl (res_tmp rfl))
theorem Or3_s (a b c : Int) : Summ Tryz.prog GG 260 [.sl 3 [iv a, iv b, iv c]] (iv (firstE [a, b, c])) := Or_s [a, b, c] (by simp)
theorem compare_s (a b : Hit) : Summ Tryz.prog GG 221 [.agg (hitF a), .agg (hitF b)] (iv (cmpHit a b)) := by
 refine summW Tryz.func221 rfl rfl 22 rfl (by simp) (fun M0 => ?_)
 repeat (first
 | (apply s_a TY; exact rfl)
 | apply w_seq
 | apply w_region
 | (apply w_draw (id := 1) 14 rfl (by kernel_rfl))
 | apply s_nil
 | apply t_norm
 | apply w_ret
 | (apply s_k (tCompare_s _ _); exact rfl)
 | (apply s_k (Or3_s _ _ _); exact rfl))
 exact lv_ret (ret1 rfl (res_tmp rfl))
set_option maxRecDepth 100000 in
theorem hitsErr1_s (l : List Site) (h : List Hit) (i : Nat) (hi : i < h.length) (hl : h.length <= 40) : Summ Tryz.prog GG 293 [iv i, .agg (hitF h[i]), .pt [.sl l.length (sitesF l), .mp (mapS l l.length)] 0, .pt [.sl h.length (hitsF h)] 0] (iv (hitE l h i)) := by
 have hg := getD_at hi
 have hg1 : h.getD (i - 1) default = h[i - 1] := getD_at (by omega)
 by_cases h0 : i = 0
 · rw [show hitE l h i = firstE [unlessE (withinB h[i].tm 0 1000000000000) 2, unlessE (siteM l h[i]).isSome 6, 0] by subst h0; unfold hitE; rw [hg]; simp [unlessE]]
   refine summW Tryz.func293 rfl rfl 37 rfl (by simp) (fun M0 => ?_)
   repeat (first
 | (apply s_a TY; exact rfl)
 | (apply s_t; exact rfl; omega)
 | apply w_seq
 | apply w_region
 | (apply w_draw (id := 2) 16 rfl (by kernel_rfl))
 | apply s_nil
 | apply t_norm
 | apply w_ret
 | (apply s_k (tfirst3_s _ _ _); exact rfl)
 | (apply s_k (tunless_T _); exact rfl)
 | (apply s_k (tunless_s _ _); exact rfl)
 | (apply s_k (isTick_s _); exact rfl)
 | (apply s_k (site_s _ _); exact rfl)
 | (apply s_s; exact rfl))
   exact lv_ret (ret1 rfl (res_tmp rfl))
 · by_cases hb : before h[i - 1] h[i]
   · have hmx : (max 0 ((i : Int) - 1)).toNat = i - 1 := by omega
     have hbc : cmpHit (h[(max 0 ((i : Int) - 1)).toNat]'(by omega)) h[i] < 0 := by simp only [hmx]; exact (cmpHit_neg h[i - 1] h[i]).2 hb
     rw [show hitE l h i = firstE [unlessE (withinB h[i].tm 0 1000000000000) 2, unlessE (siteM l h[i]).isSome 6, 0] by unfold hitE; rw [hg, hg1]; simp [unlessE, h0, hb]]
     refine summW Tryz.func293 rfl rfl 37 rfl (by simp) (fun M0 => ?_)
     repeat (first
 | (apply s_a TY; exact rfl)
 | (apply s_t; exact rfl; assumption)
 | (apply s_f; exact rfl; omega)
 | apply w_seq
 | apply w_region
 | (apply w_draw (id := 2) 16 rfl (by kernel_rfl))
 | apply s_nil
 | apply t_norm
 | apply w_ret
 | (apply s_k (tfirst3_s _ _ _); exact rfl)
 | (apply s_k (tunless_T _); exact rfl)
 | (apply s_k (tunless_s _ _); exact rfl)
 | (apply s_k (isTick_s _); exact rfl)
 | (apply s_k (compare_s _ _); exact rfl)
 | (apply s_k (site_s _ _); exact rfl)
 | (apply s_c TY; exact rfl; omega)
 | (apply s_z TY; exact rfl; (exact ⟨by omega, by (((with_reducible apply hitsF_ne); omega))⟩))
 | (apply s_m TY; exact rfl; (((with_reducible apply hitsF_sub); omega)); exact rfl))
     exact lv_ret (ret1 rfl (res_tmp rfl))
   · have hmx : (max 0 ((i : Int) - 1)).toNat = i - 1 := by omega
     have hbc : ¬ cmpHit (h[(max 0 ((i : Int) - 1)).toNat]'(by omega)) h[i] < 0 := by simp only [hmx]; exact mt (cmpHit_neg h[i - 1] h[i]).1 hb
     rw [show hitE l h i = firstE [unlessE (withinB h[i].tm 0 1000000000000) 2, unlessE (siteM l h[i]).isSome 6, 9] by unfold hitE; rw [hg, hg1]; simp [unlessE, h0, hb]]
     refine summW Tryz.func293 rfl rfl 37 rfl (by simp) (fun M0 => ?_)
     repeat (first
 | (apply s_a TY; exact rfl)
 | (apply s_f; exact rfl; (first | assumption | omega))
 | apply w_seq
 | apply w_region
 | (apply w_draw (id := 2) 16 rfl (by kernel_rfl))
 | apply s_nil
 | apply t_norm
 | apply w_ret
 | (apply s_k (tfirst3_s _ _ _); exact rfl)
 | (apply s_k (tunless_F _); exact rfl)
 | (apply s_k (tunless_s _ _); exact rfl)
 | (apply s_k (isTick_s _); exact rfl)
 | (apply s_k (compare_s _ _); exact rfl)
 | (apply s_k (site_s _ _); exact rfl)
 | (apply s_c TY; exact rfl; omega)
 | (apply s_z TY; exact rfl; (exact ⟨by omega, by (((with_reducible apply hitsF_ne); omega))⟩))
 | (apply s_m TY; exact rfl; (((with_reducible apply hitsF_sub); omega)); exact rfl))
     exact lv_ret (ret1 rfl (res_tmp rfl))
set_option maxRecDepth 100000 in
theorem hitsErr_s (l : List Site) (h : List Hit) (hl : h.length <= 1000000) : Summ Tryz.prog GG 223 [arrayV l, .sl h.length (hitsF h)] (.tup [iv (hitsChk l h).1, iv (hitsChk l h).2]) := by
 by_cases h40 : 40 < h.length
 · rw [show hitsChk l h = (0, 8) by unfold hitsChk; rw [if_pos h40]]
   refine summW Tryz.func223 rfl rfl 14 rfl (by simp) (fun M0 => ?_)
   repeat (first
 | (apply s_a TY; exact rfl)
 | (apply s_t; exact rfl; omega)
 | apply w_seq
 | apply w_region
 | apply s_nil
 | apply t_norm
 | apply t_ret
 | apply w_ret
 | (apply w_condT; exact rfl; exact rfl))
   exact lv_ret (ret2 rfl (res_tmp rfl) (res_tmp rfl))
 · rw [show hitsChk l h = eachE h.length (hitE l h) by unfold hitsChk; rw [if_neg h40]]
   have HE := eachHit_s h 293 [.pt [.sl l.length (sitesF l), .mp (mapS l l.length)] 0, .pt [.sl h.length (hitsF h)] 0] (hitE l h) hl (fun i hi => hitsErr1_s l h i hi (by omega))
   refine summW Tryz.func223 rfl rfl 14 rfl (by simp) (fun M0 => ?_)
   repeat (first
 | (apply s_a TY; exact rfl)
 | (apply s_makefn; exact rfl; exact rfl)
 | (apply s_f; exact rfl; omega)
 | apply w_seq
 | apply w_region
 | apply s_nil
 | apply t_norm
 | apply w_ret
 | apply w_skip
 | (apply w_condF; exact rfl; exact rfl)
 | (apply s_k (HE); exact rfl))
   exact lv_ret (ret2 rfl (res_tmp rfl) (res_tmp rfl))
def siteX (l : List Site) (a : Int × Int) : Option Nat := (List.range l.length).find? fun k => decide (addr (l.getD k default) = a)
theorem siteX_at {l : List Site} {a : Int × Int} {k : Nat} (hk : k < l.length) (h : ∀ i, i < k -> addr (l.getD i default) ≠ a) (he : addr (l.getD k default) = a) : siteX l a = some k := by
 unfold siteX
 obtain ⟨m, hm⟩ : ∃ m, l.length = k + 1 + m := ⟨l.length - k - 1, by omega⟩
 rw [hm, List.range_add, List.range_succ, List.append_assoc, List.find?_append, List.find?_eq_none.2 (fun i hi => by simpa using h i (List.mem_range.1 hi)), Option.none_or, List.singleton_append, List.find?_cons, decide_eq_true he]
theorem siteX_no {l : List Site} {a : Int × Int} (h : ∀ i, i < l.length -> addr (l.getD i default) ≠ a) : siteX l a = none := by
 unfold siteX
 exact List.find?_eq_none.2 fun i hi => by simpa using h i (List.mem_range.1 hi)
theorem siteX_some {l : List Site} {a : Int × Int} {k : Nat} (h : siteX l a = some k) : k < l.length /\ addr (l.getD k default) = a := by
 unfold siteX at h
 exact ⟨List.mem_range.1 (List.mem_of_find?_eq_some h), by have := List.find?_some h; simpa using this⟩
theorem siteX_none {l : List Site} {a : Int × Int} : siteX l a = none ↔ ∀ i, i < l.length -> addr (l.getD i default) ≠ a := by
 unfold siteX
 rw [List.find?_eq_none]
 exact ⟨fun h i hi => by simpa using h i (List.mem_range.2 hi), fun h i hi => by simpa using h i (List.mem_range.1 hi)⟩
theorem siteX_isSome (l : List Site) (a : Int × Int) : (siteX l a).isSome = (idxM l l.length a).isSome := by
 cases h : siteX l a with
 | none => rw [(idxM_none (n := l.length)).2 (siteX_none.1 h)]; rfl
 | some k =>
   obtain ⟨h1, h2⟩ := siteX_some h
   cases h3 : idxM l l.length a with
   | none => exact absurd h2 (idxM_none.1 h3 k h1)
   | some z => rfl
def sixI (o : Option Nat) : Int := match o with | some k => k | none => -1
theorem sixI_neg (o : Option Nat) : sixI o < 0 ↔ o = none := by cases o <;> simp [sixI] <;> omega
set_option maxRecDepth 100000 in
theorem SiteOf_s (l : List Site) (h : Hit) (hl : l.length <= 1000000) : Summ Tryz.prog GG 281 [arrF l, .agg (hitF h)] (iv (sixI (siteX l (hitA h)))) := by
 refine summW Tryz.func281 rfl rfl 34 rfl (by simp) (fun M0 => ?_)
 repeat (first
 | (apply s_a TY; exact rfl)
 | apply w_seq
 | apply w_region
 | apply s_nil
 | apply t_norm
 | apply w_block)
 apply w_loop (fun k : Nat => ⟨(Ab.upd (Ab.upd (Ab.upd (fun _ => .bot) 2 (.f (.pt [.sl l.length (sitesF l)] 0))) 3 (.f (.pt (hitF h) 0))) 5 (.f (iv (k : Nat)))), (fun _ => none), 0⟩) (fun k => k <= l.length /\ ∀ i, i < k -> addr (l.getD i default) ≠ hitA h) (fun k => l.length - k) 0 (⟨Nat.zero_le _, fun j h => absurd h (Nat.not_lt_zero j)⟩) (gh_le ⟨le_upd rfl trivial (le_upd rfl trivial (le_upd rfl trivial (le_nil _))), le_h0 _ _⟩)
 intro k ⟨hk, hz⟩
 by_cases hc : k < l.length
 · have hg := getD_at hc
   by_cases h1 : l[k].line = h.line
   · by_cases h2 : l[k].sensor = h.sensor
     · rw [siteX_at hc hz (by rw [hg]; unfold addr hitA; rw [h1, h2])]
       repeat (first
 | (apply s_a TY; exact rfl)
 | (apply s_t; exact rfl; (first | assumption | omega))
 | apply w_seq
 | apply w_region
 | (apply w_draw (id := 4) 18 rfl (by kernel_rfl))
 | apply s_nil
 | apply t_norm
 | apply t_ret
 | apply k_ret
 | apply w_block
 | apply w_ret
 | apply w_skip
 | (apply w_condT; exact rfl; exact rfl)
 | (apply s_c TY; exact rfl; (exact ⟨by omega, by (((with_reducible apply sitesF_ne); omega))⟩))
 | (apply s_l TY; exact rfl; (first | ((with_reducible apply sitesF_f0); omega) | ((with_reducible apply sitesF_f1); omega))))
       exact lv_ret (ret1 rfl (res_tmp rfl))
     · repeat (first
 | (apply s_a TY; exact rfl)
 | (apply s_t; exact rfl; (first | assumption | omega))
 | (apply s_f; exact rfl; assumption)
 | apply w_seq
 | apply w_region
 | (apply w_draw (id := 4) 18 rfl (by kernel_rfl))
 | apply s_nil
 | apply t_norm
 | apply k_norm
 | apply w_block
 | apply w_skip
 | (apply w_condT; exact rfl; exact rfl)
 | (apply w_condF; exact rfl; exact rfl)
 | (apply s_c TY; exact rfl; (first | omega | exact ⟨by omega, by (((with_reducible apply sitesF_ne); omega))⟩))
 | (apply s_l TY; exact rfl; (first | ((with_reducible apply sitesF_f0); omega) | ((with_reducible apply sitesF_f1); omega))))
       exact ⟨k + 1, ⟨by omega, fun i hi => by
        by_cases e : i = k
        · subst e; rw [hg]; unfold addr hitA; exact fun e => h2 (Prod.mk.inj e).2
        · exact hz i (by omega)⟩, by omega, gh_le ⟨le_upd rfl trivial (le_upd rfl trivial (le_upd rfl trivial (le_nil _))), le_h0 _ _⟩⟩
   · repeat (first
 | (apply s_a TY; exact rfl)
 | (apply s_t; exact rfl; omega)
 | (apply s_f; exact rfl; assumption)
 | apply w_seq
 | apply w_region
 | (apply w_draw (id := 4) 18 rfl (by kernel_rfl))
 | apply s_nil
 | apply t_norm
 | apply k_norm
 | apply w_block
 | apply w_skip
 | (apply w_condT; exact rfl; exact rfl)
 | (apply w_condF; exact rfl; exact rfl)
 | (apply s_s; exact rfl)
 | (apply s_c TY; exact rfl; (first | omega | exact ⟨by omega, by (((with_reducible apply sitesF_ne); omega))⟩))
 | (apply s_l TY; exact rfl; (((with_reducible apply sitesF_f0); omega))))
     exact ⟨k + 1, ⟨by omega, fun i hi => by
      by_cases e : i = k
      · subst e; rw [hg]; unfold addr hitA; exact fun e => h1 (Prod.mk.inj e).1
      · exact hz i (by omega)⟩, by omega, gh_le ⟨le_upd rfl trivial (le_upd rfl trivial (le_upd rfl trivial (le_nil _))), le_h0 _ _⟩⟩
 · rw [siteX_no fun i hi => hz i (by omega)]
   repeat (first
 | (apply s_a TY; exact rfl)
 | (apply s_f; exact rfl; omega)
 | apply w_seq
 | apply w_region
 | apply s_nil
 | apply t_norm
 | apply t_exit
 | apply k_hit
 | apply w_exit
 | apply w_ret
 | (apply w_condF; exact rfl; exact rfl))
   exact lv_ret (ret1 rfl (res_tmp rfl))
set_option maxRecDepth 100000 in
theorem isBefore_s (a b : Hit) : Summ Tryz.prog GG 282 [.agg (hitF a), .agg (hitF b)] (bv (decide (before a b))) := by
 by_cases h1 : a.tm = b.tm
 · by_cases h2 : a.line = b.line
   · by_cases h3 : a.sensor < b.sensor
     · rw [show decide (before a b) = true by simp; unfold before; omega]
       refine summW Tryz.func282 rfl rfl 30 rfl (by simp) (fun M0 => ?_)
       repeat (first
 | (apply s_a TY; exact rfl)
 | (apply s_t; exact rfl; assumption)
 | apply w_seq
 | apply w_region
 | apply s_nil
 | apply t_norm
 | apply w_ret
 | apply w_skip
 | (apply w_condF; exact rfl; exact rfl))
       exact lv_ret (ret1 rfl (res_tmp rfl))
     · rw [show decide (before a b) = false by simp; unfold before; omega]
       refine summW Tryz.func282 rfl rfl 30 rfl (by simp) (fun M0 => ?_)
       repeat (first
 | (apply s_a TY; exact rfl)
 | (apply s_t; exact rfl; assumption)
 | (apply s_f; exact rfl; assumption)
 | apply w_seq
 | apply w_region
 | apply s_nil
 | apply t_norm
 | apply w_ret
 | apply w_skip
 | (apply w_condF; exact rfl; exact rfl))
       exact lv_ret (ret1 rfl (res_tmp rfl))
   · by_cases h3 : a.line < b.line
     · rw [show decide (before a b) = true by simp; unfold before; omega]
       refine summW Tryz.func282 rfl rfl 30 rfl (by simp) (fun M0 => ?_)
       repeat (first
 | (apply s_a TY; exact rfl)
 | (apply s_t; exact rfl; assumption)
 | (apply s_f; exact rfl; assumption)
 | apply w_seq
 | apply w_region
 | apply s_nil
 | apply t_norm
 | apply t_ret
 | apply w_ret
 | apply w_skip
 | (apply w_condT; exact rfl; exact rfl)
 | (apply w_condF; exact rfl; exact rfl))
       exact lv_ret (ret1 rfl (res_tmp rfl))
     · rw [show decide (before a b) = false by simp; unfold before; omega]
       refine summW Tryz.func282 rfl rfl 30 rfl (by simp) (fun M0 => ?_)
       repeat (first
 | (apply s_a TY; exact rfl)
 | (apply s_t; exact rfl; assumption)
 | (apply s_f; exact rfl; assumption)
 | apply w_seq
 | apply w_region
 | apply s_nil
 | apply t_norm
 | apply t_ret
 | apply w_ret
 | apply w_skip
 | (apply w_condT; exact rfl; exact rfl)
 | (apply w_condF; exact rfl; exact rfl))
       exact lv_ret (ret1 rfl (res_tmp rfl))
 · by_cases h3 : a.tm < b.tm
   · rw [show decide (before a b) = true by simp; unfold before; omega]
     refine summW Tryz.func282 rfl rfl 30 rfl (by simp) (fun M0 => ?_)
     repeat (first
 | (apply s_a TY; exact rfl)
 | (apply s_t; exact rfl; assumption)
 | (apply s_f; exact rfl; assumption)
 | apply w_seq
 | apply w_region
 | apply s_nil
 | apply t_norm
 | apply t_ret
 | apply w_ret
 | (apply w_condT; exact rfl; exact rfl))
     exact lv_ret (ret1 rfl (res_tmp rfl))
   · rw [show decide (before a b) = false by simp; unfold before; omega]
     refine summW Tryz.func282 rfl rfl 30 rfl (by simp) (fun M0 => ?_)
     repeat (first
 | (apply s_a TY; exact rfl)
 | (apply s_f; exact rfl; assumption)
 | apply w_seq
 | apply w_region
 | apply s_nil
 | apply t_norm
 | apply t_ret
 | apply w_ret
 | (apply w_condT; exact rfl; exact rfl))
     exact lv_ret (ret1 rfl (res_tmp rfl))
theorem isBefore_T (a b : Hit) (h : before a b) : Summ Tryz.prog GG 282 [.agg (hitF a), .agg (hitF b)] (.v (.bool true)) := by
 have := isBefore_s a b
 rwa [show decide (before a b) = true by simpa using h] at this
theorem isBefore_F (a b : Hit) (h : ¬ before a b) : Summ Tryz.prog GG 282 [.agg (hitF a), .agg (hitF b)] (.v (.bool false)) := by
 have := isBefore_s a b
 rwa [show decide (before a b) = false by simpa using h] at this
set_option maxRecDepth 100000 in
set_option maxHeartbeats 1600000 in
theorem rCheckHits_s (l : List Site) (h : List Hit) (hl : l.length <= 1000000) (hh : h.length <= 1000000) : Summ Tryz.prog GG 213 [arrF l, .sl h.length (hitsF h)] (.tup [iv (hitsChk l h).1, iv (hitsChk l h).2]) := by
 by_cases h40 : 40 < h.length
 · rw [show hitsChk l h = (0, 8) by unfold hitsChk; rw [if_pos h40]]
   refine summW Tryz.func213 rfl rfl 48 rfl (by simp) (fun M0 => ?_)
   repeat (first
 | (apply s_a TY; exact rfl)
 | (apply s_t; exact rfl; omega)
 | apply w_seq
 | apply w_region
 | apply s_nil
 | apply t_norm
 | apply t_ret
 | apply w_ret
 | (apply w_condT; exact rfl; exact rfl))
   exact lv_ret (ret2 rfl (res_tmp rfl) (res_tmp rfl))
 refine summW Tryz.func213 rfl rfl 48 rfl (by simp) (fun M0 => ?_)
 repeat (first
 | (apply s_a TY; exact rfl)
 | (apply s_f; exact rfl; omega)
 | apply w_seq
 | apply w_region
 | apply s_nil
 | apply t_norm
 | apply w_block
 | apply w_skip
 | (apply w_condF; exact rfl; exact rfl))
 apply w_loop (fun k : Nat => ⟨(Ab.upd (Ab.upd (Ab.upd (fun _ => .bot) 1 (.f (.sl h.length (hitsF h)))) 2 (.f (.pt [.sl l.length (sitesF l)] 0))) 6 (.f (iv (k : Nat)))), (fun _ => none), 0⟩) (fun k => k <= h.length /\ ∀ i, i < k -> hitE l h i = 0) (fun k => h.length - k) 0 (⟨Nat.zero_le _, fun j h => absurd h (Nat.not_lt_zero j)⟩) (gh_le ⟨le_upd rfl trivial (le_upd rfl trivial (le_upd rfl trivial (le_nil _))), le_h0 _ _⟩)
 intro k ⟨hk, hz⟩
 by_cases hc : k < h.length
 · have hg := getD_at hc
   have hg1 : h.getD (k - 1) default = h[k - 1] := getD_at (by omega)
   by_cases ht : 0 <= h[k].tm /\ h[k].tm <= 1000000000000
   · by_cases hs : siteX l (hitA h[k]) ≠ none
     · by_cases h0 : k = 0
       · have he : hitE l h k = 0 := by unfold hitE siteM; rw [hg]; rw [show withinB h[k].tm 0 1000000000000 = true by simp [withinB]; omega, <- siteX_isSome]; rw [Option.isSome_iff_ne_none.2 hs]; rw [decide_eq_true h0]; rfl
         have hsx : ¬ sixI (siteX l (hitA h[k])) < 0 := fun e => hs ((sixI_neg _).1 e)
         repeat (first
 | (apply s_a TY; exact rfl)
 | (apply s_t; exact rfl; omega)
 | (apply s_f; exact rfl; (first | assumption | omega))
 | apply w_seq
 | apply w_region
 | (apply w_draw (id := 8) 5 rfl (by kernel_rfl))
 | (apply w_draw (id := 10) 12 rfl (by kernel_rfl))
 | apply s_nil
 | apply t_norm
 | apply k_norm
 | apply w_block
 | apply w_skip
 | (apply w_condT; exact rfl; exact rfl)
 | (apply w_condF; exact rfl; exact rfl)
 | (apply s_k1 (bIsTick_T _); exact rfl; assumption)
 | (apply s_k1 (SiteOf_s _ _); exact rfl; assumption)
 | (apply s_s; exact rfl)
 | (apply s_c TY; exact rfl; (first | omega | exact ⟨by omega, by (((with_reducible apply hitsF_ne); omega))⟩))
 | (apply s_l TY; exact rfl; (((with_reducible apply hitsF_f0); omega)))
 | (apply s_m TY; exact rfl; (((with_reducible apply hitsF_sub); omega)); exact rfl))
         exact ⟨k + 1, ⟨by omega, fun i hi => by
          by_cases e : i = k
          · subst e; exact he
          · exact hz i (by omega)⟩, by omega, gh_le ⟨le_upd rfl trivial (le_upd rfl trivial (le_upd rfl trivial (le_nil _))), le_h0 _ _⟩⟩
       · by_cases hb : before h[k - 1] h[k]
         · have he : hitE l h k = 0 := by unfold hitE siteM; rw [hg, hg1]; rw [show withinB h[k].tm 0 1000000000000 = true by simp [withinB]; omega, <- siteX_isSome]; rw [Option.isSome_iff_ne_none.2 hs]; rw [decide_eq_false h0, decide_eq_true hb]; rfl
           have hsx : ¬ sixI (siteX l (hitA h[k])) < 0 := fun e => hs ((sixI_neg _).1 e)
           have hkx : ((k : Int) - 1).toNat = k - 1 := by omega
           have hbx : before (h[((k : Int) - 1).toNat]'(by omega)) h[k] := by simp only [hkx]; exact hb
           repeat (first
 | (apply s_a TY; exact rfl)
 | (apply s_t; exact rfl; omega)
 | (apply s_f; exact rfl; assumption)
 | apply w_seq
 | apply w_region
 | (apply w_draw (id := 8) 5 rfl (by kernel_rfl))
 | (apply w_draw (id := 10) 12 rfl (by kernel_rfl))
 | apply s_nil
 | apply t_norm
 | apply k_norm
 | apply w_block
 | apply w_skip
 | (apply w_condT; exact rfl; exact rfl)
 | (apply w_condF; exact rfl; exact rfl)
 | (apply s_k1 (bIsTick_T _); exact rfl; assumption)
 | (apply s_k1 (SiteOf_s _ _); exact rfl; assumption)
 | (apply s_k1 (isBefore_T _ _); exact rfl; assumption)
 | (apply s_c TY; exact rfl; (first | omega | exact ⟨by omega, by (((with_reducible apply hitsF_ne); omega))⟩))
 | (apply s_z TY; exact rfl; (exact ⟨by omega, by (((with_reducible apply hitsF_ne); omega))⟩))
 | (apply s_l TY; exact rfl; (((with_reducible apply hitsF_f0); omega)))
 | (apply s_m TY; exact rfl; (((with_reducible apply hitsF_sub); omega)); exact rfl))
           exact ⟨k + 1, ⟨by omega, fun i hi => by
            by_cases e : i = k
            · subst e; exact he
            · exact hz i (by omega)⟩, by omega, gh_le ⟨le_upd rfl trivial (le_upd rfl trivial (le_upd rfl trivial (le_nil _))), le_h0 _ _⟩⟩
         · have he : hitE l h k = 9 := by unfold hitE siteM; rw [hg, hg1]; rw [show withinB h[k].tm 0 1000000000000 = true by simp [withinB]; omega, <- siteX_isSome]; rw [Option.isSome_iff_ne_none.2 hs]; rw [decide_eq_false h0, decide_eq_false hb]; rfl
           have hsx : ¬ sixI (siteX l (hitA h[k])) < 0 := fun e => hs ((sixI_neg _).1 e)
           have hkx : ((k : Int) - 1).toNat = k - 1 := by omega
           have hbx : ¬ before (h[((k : Int) - 1).toNat]'(by omega)) h[k] := by simp only [hkx]; exact hb
           rw [show hitsChk l h = (k, 9) by unfold hitsChk; rw [if_neg h40, eachE_at hc hz (by rw [he]; decide), he]]
           repeat (first
 | (apply s_a TY; exact rfl)
 | (apply s_t; exact rfl; omega)
 | (apply s_f; exact rfl; assumption)
 | apply w_seq
 | apply w_region
 | (apply w_draw (id := 8) 5 rfl (by kernel_rfl))
 | (apply w_draw (id := 10) 12 rfl (by kernel_rfl))
 | apply s_nil
 | apply t_norm
 | apply t_ret
 | apply k_ret
 | apply w_block
 | apply w_ret
 | apply w_skip
 | (apply w_condT; exact rfl; exact rfl)
 | (apply w_condF; exact rfl; exact rfl)
 | (apply s_k1 (bIsTick_T _); exact rfl; assumption)
 | (apply s_k1 (SiteOf_s _ _); exact rfl; assumption)
 | (apply s_k1 (isBefore_F _ _); exact rfl; assumption)
 | (apply s_c TY; exact rfl; (first | omega | exact ⟨by omega, by (((with_reducible apply hitsF_ne); omega))⟩))
 | (apply s_z TY; exact rfl; (exact ⟨by omega, by (((with_reducible apply hitsF_ne); omega))⟩))
 | (apply s_l TY; exact rfl; (((with_reducible apply hitsF_f0); omega)))
 | (apply s_m TY; exact rfl; (((with_reducible apply hitsF_sub); omega)); exact rfl))
           exact lv_ret (ret2 rfl (res_tmp rfl) (res_tmp rfl))
     · have hs : siteX l (hitA h[k]) = none := Classical.byContradiction hs
       have he : hitE l h k = 6 := by unfold hitE siteM; rw [hg]; rw [show withinB h[k].tm 0 1000000000000 = true by simp [withinB]; omega, <- siteX_isSome]; rw [hs]; rfl
       have hsx : sixI (siteX l (hitA h[k])) < 0 := (sixI_neg _).2 hs
       rw [show hitsChk l h = (k, 6) by unfold hitsChk; rw [if_neg h40, eachE_at hc hz (by rw [he]; decide), he]]
       repeat (first
 | (apply s_a TY; exact rfl)
 | (apply s_t; exact rfl; (first | assumption | omega))
 | apply w_seq
 | apply w_region
 | (apply w_draw (id := 8) 5 rfl (by kernel_rfl))
 | apply s_nil
 | apply t_norm
 | apply t_ret
 | apply k_ret
 | apply w_block
 | apply w_ret
 | apply w_skip
 | (apply w_condT; exact rfl; exact rfl)
 | (apply w_condF; exact rfl; exact rfl)
 | (apply s_k1 (bIsTick_T _); exact rfl; assumption)
 | (apply s_k1 (SiteOf_s _ _); exact rfl; assumption)
 | (apply s_c TY; exact rfl; (exact ⟨by omega, by (((with_reducible apply hitsF_ne); omega))⟩))
 | (apply s_l TY; exact rfl; (((with_reducible apply hitsF_f0); omega)))
 | (apply s_m TY; exact rfl; (((with_reducible apply hitsF_sub); omega)); exact rfl))
       exact lv_ret (ret2 rfl (res_tmp rfl) (res_tmp rfl))
   · have he : hitE l h k = 2 := by unfold hitE siteM; rw [hg]; rw [show withinB h[k].tm 0 1000000000000 = false by simp [withinB]; omega]; exact firstE_hd (by decide)
     rw [show hitsChk l h = (k, 2) by unfold hitsChk; rw [if_neg h40, eachE_at hc hz (by rw [he]; decide), he]]
     repeat (first
 | (apply s_a TY; exact rfl)
 | (apply s_t; exact rfl; omega)
 | apply w_seq
 | apply w_region
 | apply s_nil
 | apply t_norm
 | apply t_ret
 | apply k_ret
 | apply w_block
 | apply w_ret
 | apply w_skip
 | (apply w_condT; exact rfl; exact rfl)
 | (apply s_k1 (bIsTick_F _); exact rfl; assumption)
 | (apply s_c TY; exact rfl; (exact ⟨by omega, by (((with_reducible apply hitsF_ne); omega))⟩))
 | (apply s_l TY; exact rfl; (((with_reducible apply hitsF_f0); omega))))
     exact lv_ret (ret2 rfl (res_tmp rfl) (res_tmp rfl))
 · rw [show hitsChk l h = (0, 0) by unfold hitsChk; rw [if_neg h40, eachE_ok (fun i hi => hz i (by omega))]]
   repeat (first
 | (apply s_a TY; exact rfl)
 | (apply s_f; exact rfl; omega)
 | apply w_seq
 | apply w_region
 | apply s_nil
 | apply t_norm
 | apply t_exit
 | apply k_hit
 | apply w_exit
 | apply w_ret
 | (apply w_condF; exact rfl; exact rfl))
   exact lv_ret (ret2 rfl (res_tmp rfl) (res_tmp rfl))
theorem HitsErr_s (l : List Site) (h : List Hit) (hl : l.length <= 1000000) (hh : h.length <= 1000000) : Summ Tryz.prog GG 103 [arrF l, .sl h.length (hitsF h)] (iv (hitsChk l h).2) := by
 refine summW Tryz.func103 rfl rfl 14 rfl (by simp) (fun M0 => ?_)
 repeat (first
 | (apply s_a TY; exact rfl)
 | apply w_seq
 | apply w_region
 | apply s_nil
 | apply t_norm
 | apply w_ret
 | (apply s_k2 (rCheckHits_s _ _); exact rfl; assumption; assumption))
 exact lv_ret (ret1 rfl (res_tmp rfl))
set_option maxRecDepth 100000 in
set_option maxHeartbeats 1600000 in
theorem rCheckArray_s (l : List Site) (hl : l.length <= 1000000) : Summ Tryz.prog GG 211 [arrF l] (.tup [iv (arrChk l).1, iv (arrChk l).2]) := by
 by_cases hn : l.length = 0
 · rw [show arrChk l = (0, 10) by unfold arrChk; rw [if_pos hn]]
   refine summW Tryz.func211 rfl rfl 82 rfl (by simp) (fun M0 => ?_)
   repeat (first
 | (apply s_a TY; exact rfl)
 | (apply s_t; exact rfl; omega)
 | apply w_seq
 | apply w_region
 | apply s_nil
 | apply t_norm
 | apply t_ret
 | apply w_ret
 | (apply w_condT; exact rfl; exact rfl))
   exact lv_ret (ret2 rfl (res_tmp rfl) (res_tmp rfl))
 by_cases h30 : 30 < l.length
 · rw [show arrChk l = (0, 8) by unfold arrChk; rw [if_neg hn, if_pos h30]]
   refine summW Tryz.func211 rfl rfl 82 rfl (by simp) (fun M0 => ?_)
   repeat (first
 | (apply s_a TY; exact rfl)
 | (apply s_t; exact rfl; omega)
 | (apply s_f; exact rfl; omega)
 | apply w_seq
 | apply w_region
 | apply s_nil
 | apply t_norm
 | apply t_ret
 | apply w_ret
 | apply w_skip
 | (apply w_condT; exact rfl; exact rfl)
 | (apply w_condF; exact rfl; exact rfl))
   exact lv_ret (ret2 rfl (res_tmp rfl) (res_tmp rfl))
 refine summW Tryz.func211 rfl rfl 82 rfl (by simp) (fun M0 => ?_)
 repeat (first
 | (apply s_a TY; exact rfl)
 | (apply s_f; exact rfl; omega)
 | apply w_seq
 | apply w_region
 | apply s_nil
 | apply t_norm
 | apply w_block
 | apply w_skip
 | (apply w_condF; exact rfl; exact rfl))
 apply w_loop (fun k : Nat => ⟨(Ab.upd (Ab.upd (fun _ => .bot) 1 (.f (.pt [.sl l.length (sitesF l)] 0))) 4 (.f (iv (k : Nat)))), (fun _ => none), 0⟩) (fun k => k <= l.length /\ ∀ i, i < k -> siteE l i = 0) (fun k => l.length - k) 0 (⟨Nat.zero_le _, fun j h => absurd h (Nat.not_lt_zero j)⟩) (gh_le ⟨le_upd rfl trivial (le_upd rfl trivial (le_nil _)), le_h0 _ _⟩)
 intro k ⟨hk, hz⟩
 by_cases hc : k < l.length
 · have hg := getD_at hc
   by_cases hp1 : 1 <= l[k].line /\ l[k].line <= 100
   · by_cases hp2 : 1 <= l[k].sensor /\ l[k].sensor <= 100
     · by_cases hp3 : -100000 <= l[k].x /\ l[k].x <= 100000
       · by_cases hp4 : -100000 <= l[k].y /\ l[k].y <= 100000
         · by_cases hp5 : -100000 <= l[k].z /\ l[k].z <= 100000
           · have hR : siteRight l[k] := by unfold siteRight; exact ⟨hp1, hp2, hp3, hp4, hp5⟩
             repeat (first
 | (apply s_a TY; exact rfl)
 | (apply s_t; exact rfl; omega)
 | apply w_seq
 | apply w_region
 | apply s_nil
 | apply t_norm
 | apply w_block
 | apply w_skip
 | (apply w_condT; exact rfl; exact rfl)
 | (apply w_condF; exact rfl; exact rfl)
 | (apply s_k1 (rIsNumber_T _); exact rfl; assumption)
 | (apply s_k1 (rIsPlace_T _); exact rfl; assumption)
 | (apply s_c TY; exact rfl; (exact ⟨by omega, by (((with_reducible apply sitesF_ne); omega))⟩))
 | (apply s_m TY; exact rfl; (((with_reducible apply sitesF_sub); omega)); exact rfl)
 | (apply s_alloc TY; exact rfl; exact rfl; exact rfl)
 | (apply s_store TY; (iterate 6 exact rfl)))
             apply w_loop (fun j : Nat => ⟨(Ab.upd (Ab.upd (Ab.upd (Ab.upd (fun _ => .bot) 1 (.f (.pt [.sl l.length (sitesF l)] 0))) 4 (.f (iv (k : Nat)))) 5 (.f (.pt (siteF l[k]) 0))) 6 (.f (iv (j : Nat)))), (fun _ => none), 0⟩) (fun j => j <= k /\ ∀ i, i < j -> addr (l.getD i default) ≠ addr l[k]) (fun j => k - j) 0 (⟨Nat.zero_le _, fun j h => absurd h (Nat.not_lt_zero j)⟩) (gh_trans (gh_box 0 (cs := siteF l[k]) rfl rfl) (gh_le ⟨le_upd rfl trivial (le_upd rfl trivial (le_upd rfl trivial (le_upd rfl trivial (le_nil _)))), le_h0 _ _⟩))
             intro j ⟨hj, hy⟩
             by_cases hjk : j < k
             · have hgj : l.getD j default = l[j] := getD_at (by omega)
               by_cases h1 : l[j].line = l[k].line
               · by_cases h2 : l[j].sensor = l[k].sensor
                 · have he : siteE l k = 23 := by unfold siteE; rw [hg, if_neg (by simpa using hR), if_pos (by rw [Option.isSome_iff_ne_none]; exact fun e => idxM_none.1 e j hjk (by rw [hgj]; unfold addr; rw [h1, h2]))]
                   rw [show arrChk l = (k, 23) by unfold arrChk; rw [if_neg hn, if_neg h30, eachE_at hc hz (by rw [he]; decide), he]]
                   repeat (first
 | (apply s_a TY; exact rfl)
 | (apply s_t; exact rfl; (first | assumption | omega))
 | apply w_seq
 | apply w_region
 | (apply w_draw (id := 14) 18 rfl (by kernel_rfl))
 | apply s_nil
 | apply t_norm
 | apply t_ret
 | apply k_ret
 | apply w_block
 | apply w_ret
 | apply w_skip
 | (apply w_condT; exact rfl; exact rfl)
 | (apply s_c TY; exact rfl; (exact ⟨by omega, by (((with_reducible apply sitesF_ne); omega))⟩))
 | (apply s_l TY; exact rfl; (first | ((with_reducible apply sitesF_f0); omega) | ((with_reducible apply sitesF_f1); omega))))
                   exact lv_ret (ret2 rfl (res_tmp rfl) (res_tmp rfl))
                 · repeat (first
 | (apply s_a TY; exact rfl)
 | (apply s_t; exact rfl; (first | assumption | omega))
 | (apply s_f; exact rfl; assumption)
 | apply w_seq
 | apply w_region
 | (apply w_draw (id := 14) 18 rfl (by kernel_rfl))
 | apply s_nil
 | apply t_norm
 | apply k_norm
 | apply w_block
 | apply w_skip
 | (apply w_condT; exact rfl; exact rfl)
 | (apply w_condF; exact rfl; exact rfl)
 | (apply s_c TY; exact rfl; (first | omega | exact ⟨by omega, by (((with_reducible apply sitesF_ne); omega))⟩))
 | (apply s_l TY; exact rfl; (first | ((with_reducible apply sitesF_f0); omega) | ((with_reducible apply sitesF_f1); omega))))
                   exact ⟨j + 1, ⟨by omega, fun i hi => by
                    by_cases e : i = j
                    · subst e; rw [hgj]; unfold addr; exact fun e => h2 (Prod.mk.inj e).2
                    · exact hy i (by omega)⟩, by omega, gh_le ⟨le_upd rfl trivial (le_upd rfl trivial (le_upd rfl trivial (le_upd rfl trivial (le_nil _)))), le_h0 _ _⟩⟩
               · repeat (first
 | (apply s_a TY; exact rfl)
 | (apply s_t; exact rfl; omega)
 | (apply s_f; exact rfl; assumption)
 | apply w_seq
 | apply w_region
 | (apply w_draw (id := 14) 18 rfl (by kernel_rfl))
 | apply s_nil
 | apply t_norm
 | apply k_norm
 | apply w_block
 | apply w_skip
 | (apply w_condT; exact rfl; exact rfl)
 | (apply w_condF; exact rfl; exact rfl)
 | (apply s_s; exact rfl)
 | (apply s_c TY; exact rfl; (first | omega | exact ⟨by omega, by (((with_reducible apply sitesF_ne); omega))⟩))
 | (apply s_l TY; exact rfl; (((with_reducible apply sitesF_f0); omega))))
                 exact ⟨j + 1, ⟨by omega, fun i hi => by
                  by_cases e : i = j
                  · subst e; rw [hgj]; unfold addr; exact fun e => h1 (Prod.mk.inj e).1
                  · exact hy i (by omega)⟩, by omega, gh_le ⟨le_upd rfl trivial (le_upd rfl trivial (le_upd rfl trivial (le_upd rfl trivial (le_nil _)))), le_h0 _ _⟩⟩
             · have hjk2 : j = k := by omega
               subst hjk2
               have he : siteE l j = 0 := by unfold siteE; rw [hg, if_neg (by simpa using hR), if_neg (by rw [(idxM_none (n := j)).2 hy]; simp)]
               repeat (first
 | (apply s_a TY; exact rfl)
 | (apply s_f; exact rfl; omega)
 | apply w_seq
 | apply w_region
 | apply s_nil
 | apply t_norm
 | apply t_exit
 | apply k_hit
 | apply k_norm
 | apply w_exit
 | (apply w_condF; exact rfl; exact rfl)
 | (apply s_c TY; exact rfl; omega))
               exact ⟨j + 1, ⟨by omega, fun i hi => by
                by_cases e : i = j
                · subst e; exact he
                · exact hz i (by omega)⟩, by omega, gh_le ⟨le_upd rfl trivial (le_upd rfl trivial (le_nil _)), le_h0 _ _⟩⟩
           · have hR : ¬ siteRight l[k] := by unfold siteRight; exact fun h => absurd h.2.2.2.2 hp5
             have he : siteE l k = 2 := by unfold siteE; rw [hg, if_pos hR]
             rw [show arrChk l = (k, 2) by unfold arrChk; rw [if_neg hn, if_neg h30, eachE_at hc hz (by rw [he]; decide), he]]
             repeat (first
 | (apply s_a TY; exact rfl)
 | (apply s_t; exact rfl; omega)
 | apply w_seq
 | apply w_region
 | apply s_nil
 | apply t_norm
 | apply t_ret
 | apply k_ret
 | apply w_block
 | apply w_ret
 | apply w_skip
 | (apply w_condT; exact rfl; exact rfl)
 | (apply s_k1 (rIsNumber_T _); exact rfl; assumption)
 | (apply s_k1 (rIsPlace_T _); exact rfl; assumption)
 | (apply s_k1 (rIsPlace_F _); exact rfl; assumption)
 | (apply s_c TY; exact rfl; (exact ⟨by omega, by (((with_reducible apply sitesF_ne); omega))⟩))
 | (apply s_m TY; exact rfl; (((with_reducible apply sitesF_sub); omega)); exact rfl)
 | (apply s_alloc TY; exact rfl; exact rfl; exact rfl)
 | (apply s_store TY; (iterate 6 exact rfl)))
             exact lv_ret (ret2 rfl (res_tmp rfl) (res_tmp rfl))
         · have hR : ¬ siteRight l[k] := by unfold siteRight; exact fun h => absurd h.2.2.2.1 hp4
           have he : siteE l k = 2 := by unfold siteE; rw [hg, if_pos hR]
           rw [show arrChk l = (k, 2) by unfold arrChk; rw [if_neg hn, if_neg h30, eachE_at hc hz (by rw [he]; decide), he]]
           repeat (first
 | (apply s_a TY; exact rfl)
 | (apply s_t; exact rfl; omega)
 | apply w_seq
 | apply w_region
 | apply s_nil
 | apply t_norm
 | apply t_ret
 | apply k_ret
 | apply w_block
 | apply w_ret
 | apply w_skip
 | (apply w_condT; exact rfl; exact rfl)
 | (apply s_k1 (rIsNumber_T _); exact rfl; assumption)
 | (apply s_k1 (rIsPlace_T _); exact rfl; assumption)
 | (apply s_k1 (rIsPlace_F _); exact rfl; assumption)
 | (apply s_s; exact rfl)
 | (apply s_c TY; exact rfl; (exact ⟨by omega, by (((with_reducible apply sitesF_ne); omega))⟩))
 | (apply s_m TY; exact rfl; (((with_reducible apply sitesF_sub); omega)); exact rfl)
 | (apply s_alloc TY; exact rfl; exact rfl; exact rfl)
 | (apply s_store TY; (iterate 6 exact rfl)))
           exact lv_ret (ret2 rfl (res_tmp rfl) (res_tmp rfl))
       · have hR : ¬ siteRight l[k] := by unfold siteRight; exact fun h => absurd h.2.2.1 hp3
         have he : siteE l k = 2 := by unfold siteE; rw [hg, if_pos hR]
         rw [show arrChk l = (k, 2) by unfold arrChk; rw [if_neg hn, if_neg h30, eachE_at hc hz (by rw [he]; decide), he]]
         repeat (first
 | (apply s_a TY; exact rfl)
 | (apply s_t; exact rfl; omega)
 | apply w_seq
 | apply w_region
 | apply s_nil
 | apply t_norm
 | apply t_ret
 | apply k_ret
 | apply w_block
 | apply w_ret
 | apply w_skip
 | (apply w_condT; exact rfl; exact rfl)
 | (apply s_k1 (rIsNumber_T _); exact rfl; assumption)
 | (apply s_k1 (rIsPlace_F _); exact rfl; assumption)
 | (apply s_s; exact rfl)
 | (apply s_c TY; exact rfl; (exact ⟨by omega, by (((with_reducible apply sitesF_ne); omega))⟩))
 | (apply s_m TY; exact rfl; (((with_reducible apply sitesF_sub); omega)); exact rfl)
 | (apply s_alloc TY; exact rfl; exact rfl; exact rfl)
 | (apply s_store TY; (iterate 6 exact rfl)))
         exact lv_ret (ret2 rfl (res_tmp rfl) (res_tmp rfl))
     · have hR : ¬ siteRight l[k] := by unfold siteRight; exact fun h => absurd h.2.1 hp2
       have he : siteE l k = 2 := by unfold siteE; rw [hg, if_pos hR]
       rw [show arrChk l = (k, 2) by unfold arrChk; rw [if_neg hn, if_neg h30, eachE_at hc hz (by rw [he]; decide), he]]
       repeat (first
 | (apply s_a TY; exact rfl)
 | (apply s_t; exact rfl; omega)
 | apply w_seq
 | apply w_region
 | apply s_nil
 | apply t_norm
 | apply t_ret
 | apply k_ret
 | apply w_block
 | apply w_ret
 | apply w_skip
 | (apply w_condT; exact rfl; exact rfl)
 | (apply s_k1 (rIsNumber_T _); exact rfl; assumption)
 | (apply s_k1 (rIsNumber_F _); exact rfl; assumption)
 | (apply s_s; exact rfl)
 | (apply s_c TY; exact rfl; (exact ⟨by omega, by (((with_reducible apply sitesF_ne); omega))⟩))
 | (apply s_m TY; exact rfl; (((with_reducible apply sitesF_sub); omega)); exact rfl)
 | (apply s_alloc TY; exact rfl; exact rfl; exact rfl)
 | (apply s_store TY; (iterate 6 exact rfl)))
       exact lv_ret (ret2 rfl (res_tmp rfl) (res_tmp rfl))
   · have hR : ¬ siteRight l[k] := by unfold siteRight; exact fun h => absurd h.1 hp1
     have he : siteE l k = 2 := by unfold siteE; rw [hg, if_pos hR]
     rw [show arrChk l = (k, 2) by unfold arrChk; rw [if_neg hn, if_neg h30, eachE_at hc hz (by rw [he]; decide), he]]
     repeat (first
 | (apply s_a TY; exact rfl)
 | (apply s_t; exact rfl; omega)
 | apply w_seq
 | apply w_region
 | apply s_nil
 | apply t_norm
 | apply t_ret
 | apply k_ret
 | apply w_block
 | apply w_ret
 | apply w_skip
 | (apply w_condT; exact rfl; exact rfl)
 | (apply s_k1 (rIsNumber_F _); exact rfl; assumption)
 | (apply s_s; exact rfl)
 | (apply s_c TY; exact rfl; (exact ⟨by omega, by (((with_reducible apply sitesF_ne); omega))⟩))
 | (apply s_m TY; exact rfl; (((with_reducible apply sitesF_sub); omega)); exact rfl)
 | (apply s_alloc TY; exact rfl; exact rfl; exact rfl)
 | (apply s_store TY; (iterate 6 exact rfl)))
     exact lv_ret (ret2 rfl (res_tmp rfl) (res_tmp rfl))
 · rw [show arrChk l = (0, 0) by unfold arrChk; rw [if_neg hn, if_neg h30, eachE_ok (fun i hi => hz i (by omega))]]
   repeat (first
 | (apply s_a TY; exact rfl)
 | (apply s_f; exact rfl; omega)
 | apply w_seq
 | apply w_region
 | apply s_nil
 | apply t_norm
 | apply t_exit
 | apply k_hit
 | apply w_exit
 | apply w_ret
 | (apply w_condF; exact rfl; exact rfl))
   exact lv_ret (ret2 rfl (res_tmp rfl) (res_tmp rfl))
theorem ArrayErr_s (l : List Site) (hl : l.length <= 1000000) : Summ Tryz.prog GG 101 [arrF l] (iv (arrChk l).2) := by
 refine summW Tryz.func101 rfl rfl 11 rfl (by simp) (fun M0 => ?_)
 repeat (first
 | (apply s_a TY; exact rfl)
 | apply w_seq
 | apply w_region
 | apply s_nil
 | apply t_norm
 | apply w_ret
 | (apply s_k1 (rCheckArray_s _); exact rfl; assumption))
 exact lv_ret (ret1 rfl (res_tmp rfl))
def setErr (l : List Site) (s : Setup) (h : List Hit) : Int := if (arrChk l).2 ≠ 0 then (arrChk l).2 else if (setupChk s).2 ≠ 0 then (setupChk s).2 else (hitsChk l h).2
set_option maxRecDepth 100000 in
theorem SetErr_s (l : List Site) (s : Setup) (h : List Hit) (hl : l.length <= 1000000) (hs : s.rules.length <= 1000000) (hh : h.length <= 1000000) : Summ Tryz.prog GG 13 [arrF l, setF s, .sl h.length (hitsF h)] (iv (setErr l s h)) := by
 unfold setErr
 by_cases h1 : (arrChk l).2 = 0
 · rw [if_neg (by simpa using h1)]
   by_cases h2 : (setupChk s).2 = 0
   · rw [if_neg (by simpa using h2)]
     refine summW Tryz.func13 rfl rfl 22 rfl (by simp) (fun M0 => ?_)
     repeat (first
 | (apply s_a TY; exact rfl)
 | (apply s_t; exact rfl; assumption)
 | apply w_seq
 | apply w_region
 | apply s_nil
 | apply t_norm
 | apply w_ret
 | apply w_skip
 | (apply w_condF; exact rfl; exact rfl)
 | (apply s_k1 (ArrayErr_s _); exact rfl; assumption)
 | (apply s_k1 (SetupErr_s _); exact rfl; assumption)
 | (apply s_k2 (HitsErr_s _ _); exact rfl; assumption; assumption))
     exact lv_ret (ret1 rfl (res_tmp rfl))
   · rw [if_pos (by simpa using h2)]
     refine summW Tryz.func13 rfl rfl 22 rfl (by simp) (fun M0 => ?_)
     repeat (first
 | (apply s_a TY; exact rfl)
 | (apply s_t; exact rfl; assumption)
 | (apply s_f; exact rfl; assumption)
 | apply w_seq
 | apply w_region
 | apply s_nil
 | apply t_norm
 | apply t_ret
 | apply w_ret
 | apply w_skip
 | (apply w_condT; exact rfl; exact rfl)
 | (apply w_condF; exact rfl; exact rfl)
 | (apply s_k1 (ArrayErr_s _); exact rfl; assumption)
 | (apply s_k1 (SetupErr_s _); exact rfl; assumption))
     exact lv_ret (ret1 rfl (res_tmp rfl))
 · rw [if_pos (by simpa using h1)]
   refine summW Tryz.func13 rfl rfl 22 rfl (by simp) (fun M0 => ?_)
   repeat (first
 | (apply s_a TY; exact rfl)
 | (apply s_f; exact rfl; assumption)
 | apply w_seq
 | apply w_region
 | apply s_nil
 | apply t_norm
 | apply t_ret
 | apply w_ret
 | (apply w_condT; exact rfl; exact rfl)
 | (apply s_k1 (ArrayErr_s _); exact rfl; assumption))
   exact lv_ret (ret1 rfl (res_tmp rfl))
def readoutV (l : List Site) (s : Setup) : FV := .agg ([.sl l.length (sitesF l), .mp (mapS l l.length)] ++ setL s)
set_option maxRecDepth 100000 in
set_option maxHeartbeats 1600000 in
theorem openSetup_ok (l : List Site) (s : Setup) (hits : List Hit) (hl : l.length <= 1000000) (hs : s.rules.length <= 1000000) (hh : hits.length <= 1000000) (h : setErr l s hits = 0) : Summ Tryz.prog GG 114 [arrF l, setF s, .sl hits.length (hitsF hits)] (.tup [readoutV l s, iv 0]) := by
 unfold setErr at h
 have h1 : (arrChk l).2 = 0 := Classical.byContradiction fun h1 => by rw [if_pos h1] at h; exact h1 h
 rw [if_neg (by simpa using h1)] at h
 have h2 : (setupChk s).2 = 0 := Classical.byContradiction fun h2 => by rw [if_pos h2] at h; exact h2 h
 rw [if_neg (by simpa using h2)] at h
 have HH := hitsErr_s l hits hh
 rw [h] at HH
 refine summW Tryz.func114 rfl rfl 40 rfl (by simp) (fun M0 => ?_)
 repeat (first
 | (apply s_a TY; exact rfl)
 | (apply s_t; exact rfl; assumption)
 | apply w_seq
 | apply w_region
 | apply s_nil
 | apply t_norm
 | apply w_ret
 | (apply w_condT; exact rfl; exact rfl)
 | (apply s_k (HH); exact rfl)
 | (apply s_k1 (tfirst2_1 _ _); exact rfl; omega)
 | (apply s_k1 (CheckSetup_s _); exact rfl; assumption)
 | (apply s_k2 (openArray_ok _); exact rfl; assumption; assumption)
 | (apply s_alloc TY; exact rfl; exact rfl; exact rfl)
 | (apply s_store TY; (iterate 6 exact rfl)))
 exact lv_ret (ret2 rfl (res_bxs (sub := [.sl l.length (sitesF l), .mp (mapS l l.length), .sl s.rules.length (rulesF s.rules), iv s.before, iv s.after, iv s.dead]) TY rfl rfl rfl rfl rfl) (res_tmp rfl))
theorem CopyHits_s (l : List Hit) (hl : l.length <= 1000000) : Summ Tryz.prog GG 25 [.sl l.length (hitsF l)] (.sl l.length (hitsF l)) := by
 have hlen := hitsF_len l
 refine summW Tryz.func25 rfl rfl 6 rfl (by simp) (fun M0 => ?_)
 repeat (first
 | (apply s_bslice_clip TY; (iterate 6 exact rfl))
 | (apply s_append_copy TY; (iterate 7 exact rfl); assumption; (unfold maxLen; omega); omega)
 | (apply s_a TY; exact rfl)
 | apply w_seq
 | apply w_region
 | apply s_nil
 | apply t_norm
 | apply w_ret)
 exact lv_ret (ret1 rfl (res_tmp rfl))
theorem CopyRanges_s (l : List Rng) (hl : l.length <= 1000000) : Summ Tryz.prog GG 30 [.sl l.length (rngsF l)] (.sl l.length (rngsF l)) := by
 have hlen := rngsF_len l
 refine summW Tryz.func30 rfl rfl 6 rfl (by simp) (fun M0 => ?_)
 repeat (first
 | (apply s_bslice_clip TY; (iterate 6 exact rfl))
 | (apply s_append_copy TY; (iterate 7 exact rfl); assumption; (unfold maxLen; omega); omega)
 | (apply s_a TY; exact rfl)
 | apply w_seq
 | apply w_region
 | apply s_nil
 | apply t_norm
 | apply w_ret)
 exact lv_ret (ret1 rfl (res_tmp rfl))
theorem CopyArray_s (l : List Site) (hl : l.length <= 1000000) : Summ Tryz.prog GG 21 [arrF l] (arrF l) := by
 have hlen := sitesF_len l
 refine summW Tryz.func21 rfl rfl 8 rfl (by simp) (fun M0 => ?_)
 repeat (first
 | (apply s_bslice_clip TY; (iterate 6 exact rfl))
 | (apply s_append_copy TY; (iterate 7 exact rfl); assumption; (unfold maxLen; omega); omega)
 | (apply s_a TY; exact rfl)
 | apply w_seq
 | apply w_region
 | apply s_nil
 | apply t_norm
 | apply w_ret
 | (apply s_alloc TY; exact rfl; exact rfl; exact rfl)
 | (apply s_store TY; (iterate 6 exact rfl)))
 exact lv_ret (ret1 rfl (res_bxs (sub := [.sl l.length (sitesF l)]) TY rfl rfl rfl rfl rfl))
theorem CopySetup_s (s : Setup) (hs : s.rules.length <= 1000000) : Summ Tryz.prog GG 24 [setF s] (setF s) := by
 have hlen := rulesF_len s.rules
 refine summW Tryz.func24 rfl rfl 9 rfl (by simp) (fun M0 => ?_)
 repeat (first
 | (apply s_bslice_clip TY; (iterate 6 exact rfl))
 | (apply s_append_copy TY; (iterate 7 exact rfl); assumption; (unfold maxLen; omega); omega)
 | (apply s_boxw; (iterate 4 exact rfl))
 | (apply s_a TY; exact rfl)
 | apply w_seq
 | apply w_region
 | apply s_nil
 | apply t_norm
 | apply w_ret
 | (apply s_alloc TY; exact rfl; exact rfl; exact rfl)
 | (apply s_store TY; (iterate 6 exact rfl)))
 exact lv_ret (ret1 rfl (res_bxs (sub := setL s) TY rfl rfl rfl rfl rfl))
structure HitOk (l : List Site) (a : Hit) : Prop where
 tm : 0 <= a.tm /\ a.tm <= 1000000000000
 line : 1 <= a.line /\ a.line <= 100
 sensor : 1 <= a.sensor /\ a.sensor <= 100
 site : ∃ k : Nat, k < l.length /\ siteM l a = some (k : Int) /\ addr (l.getD k default) = hitA a
structure ArrOk (l : List Site) : Prop where
 pos : 1 <= l.length
 len : l.length <= 30
 right : ∀ i, i < l.length -> siteRight (l.getD i default)
 apart : ∀ i j, i < j -> j < l.length -> addr (l.getD i default) ≠ addr (l.getD j default)
theorem arrOk_of {l : List Site} (h : (arrChk l).2 = 0) : ArrOk l := by
 have hn : ¬ l.length = 0 := fun hn => by unfold arrChk at h; rw [if_pos hn] at h; cases h
 have h30 : ¬ 30 < l.length := fun h3 => by unfold arrChk at h; rw [if_neg hn, if_pos h3] at h; cases h
 unfold arrChk at h
 rw [if_neg hn, if_neg h30] at h
 have hz : ∀ i, i < l.length -> siteE l i = 0 := by
  rcases eachE_cases l.length (siteE l) with ⟨_, hz⟩ | ⟨q, _, _, hne, he⟩
  · exact hz
  · rw [he] at h; exact absurd h hne
 have hr : ∀ i, i < l.length -> siteRight (l.getD i default) /\ idxM l i (addr (l.getD i default)) = none := fun i hi => by
  have := hz i hi
  unfold siteE at this
  by_cases h1 : siteRight (l.getD i default)
  · rw [if_neg (by simpa using h1)] at this
    refine ⟨h1, ?_⟩
    cases h2 : idxM l i (addr (l.getD i default)) with
    | none => rfl
    | some z => rw [h2] at this; simp at this
  · rw [if_pos h1] at this; cases this
 exact ⟨by omega, by omega, fun i hi => (hr i hi).1, fun i j hij hj => idxM_none.1 (hr j hj).2 i hij⟩
structure HitsOk (l : List Site) (h : List Hit) : Prop where
 len : h.length <= 40
 hit : ∀ i (hi : i < h.length), HitOk l h[i]
 next : ∀ i (hi : i + 1 < h.length), before h[i] h[i + 1]
theorem before_trans {a b c : Hit} (h : before a b) (k : before b c) : before a c := by unfold before at *; omega
theorem before_irr {a : Hit} : ¬ before a a := by unfold before; omega
theorem before_tot {a b : Hit} : before a b \/ a = b \/ before b a := by
 cases a; cases b; simp only [Hit.mk.injEq]; unfold before; simp only; omega
theorem before_tm {a b : Hit} (h : before a b) : a.tm <= b.tm := by unfold before at h; omega
theorem HitsOk.lt {l : List Site} {h : List Hit} (o : HitsOk l h) : ∀ (j i : Nat) (hj : j < h.length) (hi : i < j), before (h[i]'(by omega)) h[j]
 | 0, i, _, hi => by omega
 | j + 1, i, hj, hi => by
   by_cases e : i = j
   · subst e; exact o.next i hj
   · exact before_trans (o.lt j i (by omega) (by omega)) (o.next j hj)
theorem HitsOk.tm {l : List Site} {h : List Hit} (o : HitsOk l h) (i j : Nat) (hij : i <= j) (hj : j < h.length) : (h[i]'(by omega)).tm <= h[j].tm := by
 by_cases e : i = j
 · subst e; exact Int.le_refl _
 · exact before_tm (o.lt j i hj (by omega))
theorem hitsOk_of {l : List Site} {h : List Hit} (hl : ArrOk l) (hh : (hitsChk l h).2 = 0) : HitsOk l h := by
 have h40 : ¬ 40 < h.length := fun h4 => by unfold hitsChk at hh; rw [if_pos h4] at hh; cases hh
 unfold hitsChk at hh
 rw [if_neg h40] at hh
 have hz : ∀ i, i < h.length -> hitE l h i = 0 := by
  rcases eachE_cases h.length (hitE l h) with ⟨_, hz⟩ | ⟨q, _, _, hne, he⟩
  · exact hz
  · rw [he] at hh; exact absurd hh hne
 have hr : ∀ i (hi : i < h.length), withinB h[i].tm 0 1000000000000 = true /\ (siteM l h[i]).isSome = true /\ (i ≠ 0 -> before (h.getD (i - 1) default) h[i]) := fun i hi => by
  have := hz i hi
  unfold hitE at this
  rw [getD_at hi] at this
  cases h1 : withinB h[i].tm 0 1000000000000 with
  | false => rw [h1, firstE_hd (by decide)] at this; cases this
  | true =>
    rw [h1] at this
    cases h2 : (siteM l h[i]).isSome with
    | false => rw [h2] at this; simp [unlessE, firstE] at this
    | true =>
      rw [h2] at this
      refine ⟨rfl, rfl, fun h0 => ?_⟩
      by_cases h3 : before (h.getD (i - 1) default) h[i]
      · exact h3
      · rw [decide_eq_false h0, decide_eq_false h3] at this; simp [unlessE, firstE] at this
 refine ⟨by omega, fun i hi => ?_, fun i hi => ?_⟩
 · obtain ⟨h1, h2, _⟩ := hr i hi
   obtain ⟨z, hz⟩ := Option.isSome_iff_exists.1 h2
   obtain ⟨k, hk, rfl, ha⟩ := idxM_some hz
   have hR := hl.right k hk
   unfold siteRight at hR
   have ha' := ha
   unfold addr hitA at ha'
   obtain ⟨e1, e2⟩ := Prod.mk.inj ha'
   exact ⟨by simpa [withinB] using h1, by rw [<- e1]; exact hR.1, by rw [<- e2]; exact hR.2.1, k, hk, hz, ha⟩
 · have := (hr (i + 1) hi).2.2 (by omega)
   rwa [show i + 1 - 1 = i by omega, getD_at (by omega)] at this
def siteAt (l : List Site) (a : Hit) : Site := l.getD ((siteM l a).getD 0).toNat default
def nearB (l : List Site) (r : Rule) (a b : Hit) : Bool :=
 if r.kind = 1 then decide (a.line = b.line) && withinB (a.sensor - b.sensor) (-r.reach) r.reach
 else if r.kind = 2 then decide (((siteAt l a).x - (siteAt l b).x) * ((siteAt l a).x - (siteAt l b).x) + ((siteAt l a).y - (siteAt l b).y) * ((siteAt l a).y - (siteAt l b).y) <= r.reach * r.reach) && withinB ((siteAt l a).z - (siteAt l b).z) (-r.height) r.height
 else true
theorem ruleOk_of {r : Rule} (h : ruleErr r = 0) : (0 <= r.kind /\ r.kind <= 3) /\ (1 <= r.count /\ r.count <= 40) /\ (0 <= r.window /\ r.window <= 1000000) /\ (0 <= r.reach /\ r.reach <= 1000000) /\ (0 <= r.height /\ r.height <= 1000000) /\ (r.kind = 3 -> r.reach <= r.window) := by
 unfold ruleErr at h
 split at h
 · cases h
 · split at h
   · cases h
   · split at h
     · cases h
     · omega
theorem sq_le {a b : Int} (h : -b <= a /\ a <= b) : 0 <= a * a /\ a * a <= b * b := by
 have hn : (a.natAbs : Int) * (a.natAbs : Int) = a * a := by
  rcases Int.natAbs_eq a with e | e
  · rw [<- e]
  · have : (a.natAbs : Int) = -a := by omega
    rw [this, Int.neg_mul_neg]
 have h1 : (a.natAbs : Int) <= b := by omega
 exact ⟨by rw [<- hn]; exact Int.mul_nonneg (by omega) (by omega), by rw [<- hn]; exact Int.mul_le_mul h1 h1 (by omega) (by omega)⟩
set_option maxRecDepth 100000 in
set_option maxHeartbeats 1600000 in
theorem tnear_s (l : List Site) (r : Rule) (a b : Hit) (hl0 : ArrOk l) (hr : ruleErr r = 0) (ha : HitOk l a) (hb : HitOk l b) : Summ Tryz.prog GG 374 [arrayV l, .agg (ruleF r), .agg (hitF a), .agg (hitF b)] (bv (nearB l r a b)) := by
 obtain ⟨r1, r2, r3, r4, r5, r6⟩ := ruleOk_of hr
 obtain ⟨ka, hka, sa, _⟩ := ha.site
 obtain ⟨kb, hkb, sb, _⟩ := hb.site
 have HA := site_s l a
 have HB := site_s l b
 rw [sa] at HA
 rw [sb] at HB
 have ea : siteAt l a = l[ka] := by unfold siteAt; rw [sa]; exact getD_at hka
 have eb : siteAt l b = l[kb] := by unfold siteAt; rw [sb]; exact getD_at hkb
 have ra := hl0.right ka hka
 have rb := hl0.right kb hkb
 rw [getD_at hka] at ra
 rw [getD_at hkb] at rb
 unfold siteRight at ra rb
 have lal := ha.line
 have las := ha.sensor
 have lbl := hb.line
 have lbs := hb.sensor
 have px := sq_le (a := l[ka].x - l[kb].x) (b := 200000) (by omega)
 have py := sq_le (a := l[ka].y - l[kb].y) (b := 200000) (by omega)
 have pr := sq_le (a := r.reach) (b := 1000000) (by omega)
 by_cases k1 : r.kind = 1
 · by_cases hl : a.line = b.line
   · rw [show nearB l r a b = withinB (a.sensor - b.sensor) (-r.reach) r.reach by unfold nearB; rw [if_pos k1]; simp [hl]]
     refine summW Tryz.func374 rfl rfl 95 rfl (by simp) (fun M0 => ?_)
     repeat (first
 | (apply s_a TY; exact rfl)
 | (apply s_t; exact rfl; assumption)
 | apply w_seq
 | apply w_region
 | apply s_nil
 | apply t_norm
 | apply t_ret
 | apply k_ret
 | apply w_block
 | apply w_ret
 | (apply w_condT; exact rfl; exact rfl)
 | (apply s_k1 (isSized_s _ _); exact rfl; omega)
 | (apply s_c TY; exact rfl; omega))
     exact lv_ret (ret1 rfl (res_tmp rfl))
   · rw [show nearB l r a b = false by unfold nearB; rw [if_pos k1]; simp [hl]]
     refine summW Tryz.func374 rfl rfl 95 rfl (by simp) (fun M0 => ?_)
     repeat (first
 | (apply s_a TY; exact rfl)
 | (apply s_t; exact rfl; assumption)
 | (apply s_f; exact rfl; assumption)
 | apply w_seq
 | apply w_region
 | apply s_nil
 | apply t_norm
 | apply t_ret
 | apply k_ret
 | apply w_block
 | apply w_ret
 | (apply w_condT; exact rfl; exact rfl)
 | (apply s_s; exact rfl))
     exact lv_ret (ret1 rfl (res_tmp rfl))
 · by_cases k2 : r.kind = 2
   · by_cases hx : (l[ka].x - l[kb].x) * (l[ka].x - l[kb].x) + (l[ka].y - l[kb].y) * (l[ka].y - l[kb].y) <= r.reach * r.reach
     · rw [show nearB l r a b = withinB (l[ka].z - l[kb].z) (-r.height) r.height by unfold nearB; rw [if_neg k1, if_pos k2, ea, eb]; simp [hx]]
       refine summW Tryz.func374 rfl rfl 95 rfl (by simp) (fun M0 => ?_)
       repeat (first
 | (apply s_a TY; exact rfl)
 | (apply s_t; exact rfl; assumption)
 | (apply s_f; exact rfl; assumption)
 | apply w_seq
 | apply w_region
 | (apply w_draw1 (id := 7) 14 rfl (by kernel_rfl); exact rfl; kernel_rfl)
 | (apply s_allocB TY (d := some 13); exact rfl; exact rfl; exact rfl)
 | (apply s_sto TY; (iterate 7 exact rfl))
 | (apply w_draw (id := 8) 11 rfl (by kernel_rfl))
 | apply s_nil
 | apply t_norm
 | apply t_ret
 | apply k_ret
 | apply w_block
 | apply w_ret
 | (apply w_condT; exact rfl; exact rfl)
 | (apply w_condF; exact rfl; exact rfl)
 | (apply s_k (HA); exact rfl)
 | (apply s_k (HB); exact rfl)
 | (apply s_k1 (isSized_s _ _); exact rfl; omega)
 | (apply s_c TY; exact rfl; (first | omega | exact ⟨by omega, by (((with_reducible apply sitesF_ne); omega))⟩))
 | (apply s_m TY; exact rfl; (((with_reducible apply sitesF_sub); omega)); exact rfl)
 | (apply s_alloc TY; exact rfl; exact rfl; exact rfl)
 | (apply s_store TY; (iterate 6 exact rfl)))
       exact lv_ret (ret1 rfl (res_tmp rfl))
     · rw [show nearB l r a b = false by unfold nearB; rw [if_neg k1, if_pos k2, ea, eb]; simp [hx]]
       refine summW Tryz.func374 rfl rfl 95 rfl (by simp) (fun M0 => ?_)
       repeat (first
 | (apply s_a TY; exact rfl)
 | (apply s_t; exact rfl; assumption)
 | (apply s_f; exact rfl; assumption)
 | apply w_seq
 | apply w_region
 | (apply w_draw1 (id := 7) 14 rfl (by kernel_rfl); exact rfl; kernel_rfl)
 | (apply s_allocB TY (d := some 13); exact rfl; exact rfl; exact rfl)
 | (apply s_sto TY; (iterate 7 exact rfl))
 | (apply w_draw (id := 8) 11 rfl (by kernel_rfl))
 | apply s_nil
 | apply t_norm
 | apply t_ret
 | apply k_ret
 | apply w_block
 | apply w_ret
 | (apply w_condT; exact rfl; exact rfl)
 | (apply w_condF; exact rfl; exact rfl)
 | (apply s_k (HA); exact rfl)
 | (apply s_k (HB); exact rfl)
 | (apply s_s; exact rfl)
 | (apply s_c TY; exact rfl; (first | omega | exact ⟨by omega, by (((with_reducible apply sitesF_ne); omega))⟩))
 | (apply s_m TY; exact rfl; (((with_reducible apply sitesF_sub); omega)); exact rfl)
 | (apply s_alloc TY; exact rfl; exact rfl; exact rfl)
 | (apply s_store TY; (iterate 6 exact rfl)))
       exact lv_ret (ret1 rfl (res_tmp rfl))
   · rw [show nearB l r a b = true by unfold nearB; rw [if_neg k1, if_neg k2]]
     refine summW Tryz.func374 rfl rfl 95 rfl (by simp) (fun M0 => ?_)
     repeat (first
 | (apply s_a TY; exact rfl)
 | (apply s_f; exact rfl; assumption)
 | apply w_seq
 | apply w_region
 | apply s_nil
 | apply t_norm
 | apply k_norm
 | apply w_block
 | apply w_ret
 | apply w_skip
 | (apply w_condF; exact rfl; exact rfl))
     exact lv_ret (ret1 rfl (res_tmp rfl))
set_option maxRecDepth 100000 in
theorem idxIC_s (l : List Int) (g : Nat) (caps : List FV) (p : Nat -> Bool) (hl : l.length <= 1000000) (hg : ∀ i (hi : i < l.length), Summ Tryz.prog GG g ([iv l[i]] ++ caps) (bv (p i))) : Summ Tryz.prog GG 313 [.sl l.length (intsF l), .fn g caps] (bv (anyP l.length p)) := by
 have HI := idxI_s l g caps p hl hg
 cases ha : anyP l.length p with
 | true =>
   have h0 := (idxP_pos l.length p).2 ha
   refine summW Tryz.func313 rfl rfl 9 rfl (by simp) (fun M0 => ?_)
   repeat (first
 | (apply s_a TY; exact rfl)
 | (apply s_t; exact rfl; assumption)
 | apply w_seq
 | apply w_region
 | apply s_nil
 | apply t_norm
 | apply w_ret
 | (apply s_k (HI); exact rfl))
   exact lv_ret (ret1 rfl (res_tmp rfl))
 | false =>
   have h0 : ¬ 0 <= idxP l.length p := fun h => by rw [(idxP_pos l.length p).1 h] at ha; cases ha
   refine summW Tryz.func313 rfl rfl 9 rfl (by simp) (fun M0 => ?_)
   repeat (first
 | (apply s_a TY; exact rfl)
 | (apply s_f; exact rfl; assumption)
 | apply w_seq
 | apply w_region
 | apply s_nil
 | apply t_norm
 | apply w_ret
 | (apply s_k (HI); exact rfl))
   exact lv_ret (ret1 rfl (res_tmp rfl))
def natsL (l : List Nat) : List Int := l.map fun (n : Nat) => (n : Int)
theorem natsL_len (l : List Nat) : (natsL l).length = l.length := by simp [natsL]
theorem natsL_at {l : List Nat} {i : Nat} (h : i < (natsL l).length) : (natsL l)[i] = ((l[i]'(by rw [<- natsL_len]; exact h) : Nat) : Int) := by simp [natsL]
def folB (r : Rule) (h : List Hit) (way : Int) (i k : Nat) : Bool := decide ((h.getD k default).line = (h.getD i default).line) && decide ((h.getD k default).sensor = (h.getD i default).sensor + way) && withinB ((h.getD k default).tm - (h.getD i default).tm) r.reach r.window
def nextL (r : Rule) (h : List Hit) (way : Int) (now : List Nat) (n : Nat) : List Nat := (List.range n).filter fun k => now.any fun i => folB r h way i k
def layL (r : Rule) (h : List Hit) (way : Int) (a : Nat) : Nat -> List Nat
 | 0 => [a]
 | m + 1 => nextL r h way (layL r h way a m) h.length
theorem layL_lt {r : Rule} {h : List Hit} {way : Int} {a : Nat} (ha : a < h.length) : ∀ {m k : Nat}, k ∈ layL r h way a m -> k < h.length
 | 0, k, hk => by simp only [layL, List.mem_singleton] at hk; subst hk; exact ha
 | m + 1, k, hk => by
   simp only [layL, nextL, List.mem_filter] at hk
   exact List.mem_range.1 hk.1
theorem layL_len {r : Rule} {h : List Hit} {way : Int} {a : Nat} (ha : a < h.length) (m : Nat) : (layL r h way a m).length <= h.length := by
 cases m with
 | zero => simp only [layL, List.length_singleton]; omega
 | succ m => exact Nat.le_trans (List.length_filter_le _ _) (by simp)
def minA (acc : Option Int) (z : Int) : Option Int := match acc with
 | none => some z
 | some e => if z < e then some z else some e
def endA (h : List Hit) (acc : Option Int) (l : List Nat) : Option Int := l.foldl (fun a k => minA a (h.getD k default).tm) acc
def wayI (q : Nat) : Int := if q = 0 then 1 else -1
def accW (r : Rule) (h : List Hit) (a : Nat) : Nat -> Option Int
 | 0 => none
 | q + 1 => endA h (accW r h a q) (layL r h (wayI q) a (r.count - 1).toNat)
def slowV (r : Rule) (h : List Hit) (a : Nat) : Option Int := accW r h a 2
theorem endA_take {h : List Hit} {acc : Option Int} {l : List Nat} {j : Nat} (hj : j < l.length) : endA h acc (l.take (j + 1)) = minA (endA h acc (l.take j)) (h.getD l[j] default).tm := by
 unfold endA; rw [List.take_succ_eq_append_getElem hj, List.foldl_append]; rfl
theorem nextL_succ (r : Rule) (h : List Hit) (way : Int) (now : List Nat) (n : Nat) : nextL r h way now (n + 1) = nextL r h way now n ++ (if (now.any fun i => folB r h way i n) = true then [n] else []) := by
 unfold nextL
 rw [List.range_succ, List.filter_append]
 congr 1
 by_cases e : (now.any fun i => folB r h way i n) = true
 · rw [if_pos e]; simp only [List.filter, e]
 · rw [if_neg e]; simp only [List.filter, e]
theorem row_appN (L : List Nat) (n : Nat) : some (Blk.row 3 1 (L ++ [n]).length (intsF (natsL (L ++ [n])))) = some (Blk.row 3 1 (L.length + 1) (intsF (natsL L) ++ [iv (n : Int)])) := by
 rw [show natsL (L ++ [n]) = natsL L ++ [(n : Int)] by simp [natsL], intsF_snoc, List.length_append]; rfl
theorem anyP_any (now : List Nat) (f : Nat -> Bool) : anyP (natsL now).length (fun j => f (now.getD j 0)) = now.any f := by
 rw [natsL_len, Bool.eq_iff_iff, anyP_iff, List.any_eq_true]
 constructor
 · rintro ⟨i, hi, hf⟩
   have e : now.getD i 0 = now[i] := by simp [List.getD_eq_getElem?_getD, List.getElem?_eq_getElem hi]
   rw [e] at hf
   exact ⟨now[i], List.getElem_mem _, hf⟩
 · rintro ⟨x, hx, hf⟩
   obtain ⟨i, hi, rfl⟩ := List.getElem_of_mem hx
   exact ⟨i, hi, by simp only [List.getD_eq_getElem?_getD, List.getElem?_eq_getElem hi]; exact hf⟩
set_option maxRecDepth 100000 in
theorem follows_s (l : List Site) (r : Rule) (h : List Hit) (way : Int) (i k : Nat) (hi : i < h.length) (hk : k < h.length) (hw : -1 <= way /\ way <= 1) (oi : HitOk l h[i]) (ok : HitOk l h[k]) : Summ Tryz.prog GG 419 [iv (i : Nat), .pt (hitF h[k]) 0, .pt [.sl h.length (hitsF h)] 0, .pt [iv way] 0, .pt (ruleF r) 0] (bv (folB r h way i k)) := by
 have gi := getD_at hi
 have gk := getD_at hk
 have o1 := oi.tm
 have o2 := oi.sensor
 have o3 := ok.tm
 have o4 := ok.sensor
 by_cases hl : h[k].line = h[i].line
 · by_cases hs : h[k].sensor = h[i].sensor + way
   · rw [show folB r h way i k = withinB (h[k].tm - h[i].tm) r.reach r.window by unfold folB; rw [gi, gk]; simp [hl, hs]]
     refine summW Tryz.func419 rfl rfl 42 rfl (by simp) (fun M0 => ?_)
     repeat (first
 | (apply s_a TY; exact rfl)
 | (apply s_t; exact rfl; assumption)
 | apply w_seq
 | apply w_region
 | (apply w_draw (id := 1) 33 rfl (by kernel_rfl))
 | apply s_nil
 | apply t_norm
 | apply w_ret
 | (apply s_k (twithin_s _ _ _); exact rfl)
 | (apply s_c TY; exact rfl; (first | omega | exact ⟨by omega, by (((with_reducible apply hitsF_ne); omega))⟩))
 | (apply s_l TY; exact rfl; (first | ((with_reducible apply hitsF_f0); omega) | ((with_reducible apply hitsF_f1); omega) | ((with_reducible apply hitsF_f2); omega))))
     exact lv_ret (ret1 rfl (res_tmp rfl))
   · rw [show folB r h way i k = false by unfold folB; rw [gi, gk]; simp [hl, hs]]
     refine summW Tryz.func419 rfl rfl 42 rfl (by simp) (fun M0 => ?_)
     repeat (first
 | (apply s_a TY; exact rfl)
 | (apply s_t; exact rfl; assumption)
 | (apply s_f; exact rfl; assumption)
 | apply w_seq
 | apply w_region
 | (apply w_draw (id := 1) 33 rfl (by kernel_rfl))
 | apply s_nil
 | apply t_norm
 | apply w_ret
 | (apply s_s; exact rfl)
 | (apply s_c TY; exact rfl; (first | omega | exact ⟨by omega, by (((with_reducible apply hitsF_ne); omega))⟩))
 | (apply s_l TY; exact rfl; (first | ((with_reducible apply hitsF_f1); omega) | ((with_reducible apply hitsF_f2); omega))))
     exact lv_ret (ret1 rfl (res_tmp rfl))
 · rw [show folB r h way i k = false by unfold folB; rw [gi, gk]; simp [hl]]
   refine summW Tryz.func419 rfl rfl 42 rfl (by simp) (fun M0 => ?_)
   repeat (first
 | (apply s_a TY; exact rfl)
 | (apply s_f; exact rfl; assumption)
 | apply w_seq
 | apply w_region
 | (apply w_draw (id := 1) 33 rfl (by kernel_rfl))
 | apply s_nil
 | apply t_norm
 | apply w_ret
 | (apply s_s; exact rfl)
 | (apply s_c TY; exact rfl; (exact ⟨by omega, by (((with_reducible apply hitsF_ne); omega))⟩))
 | (apply s_l TY; exact rfl; (((with_reducible apply hitsF_f1); omega))))
   exact lv_ret (ret1 rfl (res_tmp rfl))
set_option maxRecDepth 100000 in
set_option maxHeartbeats 1600000 in
theorem slow_s (l : List Site) (r : Rule) (h : List Hit) (a : Nat) (hr : ruleErr r = 0) (ho : HitsOk l h) (ha : a < h.length) : Summ Tryz.prog GG 373 [.agg (ruleF r), .sl h.length (hitsF h), iv (a : Nat)] (.tup [iv ((slowV r h a).getD 0), bv (slowV r h a).isSome]) := by
 obtain ⟨r1, r2, r3, r4, r5, r6⟩ := ruleOk_of hr
 have h40 := ho.len
 obtain ⟨_, iI, hiI, hzI, _⟩ := slE_spec ((TY.ok 29).sl (3, 1, 8) rfl)
 refine summW Tryz.func373 rfl rfl 72 rfl (by simp) (fun M0 => ?_)
 repeat (first
 | (apply s_buildA TY Tryz.underlying305 hiI hzI; (iterate 5 exact rfl))
 | (apply s_a TY; exact rfl)
 | apply w_seq
 | apply w_region
 | apply s_nil
 | apply t_norm
 | apply w_block)
 apply w_loop (fun q : Nat => ⟨(Ab.upd (Ab.upd (Ab.upd (Ab.upd (Ab.upd (Ab.upd (Ab.upd (fun _ => .bot) 2 (.f (iv (a : Nat)))) 3 (.f (.pt (ruleF r) 0))) 4 (.f (.pt [.sl h.length (hitsF h)] 0))) 8 (.f (iv ((accW r h a (q : Nat)).getD 0)))) 9 (.f (.v (.bool (accW r h a (q : Nat)).isSome)))) 20 (.f (.agg [iv 1, iv (-1)]))) 21 (.f (iv (q : Nat)))), (fun _ => none), 0⟩) (fun q => q <= 2) (fun q => 2 - q) 0 (Nat.zero_le _) (gh_le ⟨le_upd rfl trivial (le_upd rfl trivial (le_upd rfl trivial (le_upd rfl trivial (le_upd rfl trivial (le_upd rfl trivial (le_upd rfl trivial (le_nil _))))))), le_h0 _ _⟩)
 intro q hq
 by_cases hc : q < 2
 · have hW : ([iv 1, iv (-1)] : List FV)[((q : Nat) : Int).toNat]? = some (iv (wayI q)) := by
    have : q = 0 \/ q = 1 := by omega
    rcases this with rfl | rfl <;> rfl
   have hw : -1 <= wayI q /\ wayI q <= 1 := by unfold wayI; split <;> omega
   repeat (first
 | (apply s_index TY Tryz.underlying305; (iterate 5 exact rfl); exact ⟨by omega, by omega⟩; exact hW)
 | (apply s_a TY; exact rfl)
 | (apply s_t; exact rfl; omega)
 | apply w_seq
 | apply w_region
 | apply s_nil
 | apply t_norm
 | apply w_block
 | apply w_skip
 | (apply w_condT; exact rfl; exact rfl)
 | (apply s_c TY; exact rfl; omega)
 | (apply s_alloc TY; exact rfl; exact rfl; exact rfl)
 | (apply s_store TY; (iterate 6 exact rfl)))
   apply w_loop (fun m : Nat => ⟨(Ab.upd (Ab.upd (Ab.upd (Ab.upd (Ab.upd (Ab.upd (Ab.upd (Ab.upd (Ab.upd (Ab.upd (Ab.upd (fun _ => .bot) 2 (.f (iv (a : Nat)))) 3 (.f (.pt (ruleF r) 0))) 4 (.f (.pt [.sl h.length (hitsF h)] 0))) 8 (.f (iv ((accW r h a q).getD 0)))) 9 (.f (.v (.bool (accW r h a q).isSome)))) 11 (.f (.pt [iv (wayI q)] 0))) 12 (.f (.sl (layL r h (wayI q) a (m : Nat)).length (intsF (natsL (layL r h (wayI q) a (m : Nat))))))) 20 (.f (.agg [iv 1, iv (-1)]))) 21 (.f (iv (q : Nat)))) 28 (.f (iv (r.count - 1)))) 29 (.f (iv (m : Nat)))), (fun _ => none), 0⟩) (fun m => m <= (r.count - 1).toNat) (fun m => (r.count - 1).toNat - m) 0 (Nat.zero_le _) (gh_trans (gh_box 0 (cs := [iv (wayI q)]) rfl rfl) (gh_le ⟨le_upd rfl trivial (le_upd rfl trivial (le_upd rfl trivial (le_upd rfl trivial (le_upd rfl trivial (le_upd rfl trivial (le_upd rfl trivial (le_upd rfl trivial (le_upd rfl trivial (le_upd rfl trivial (le_upd rfl trivial (le_nil _))))))))))), le_h0 _ _⟩))
   intro m hm
   by_cases hcm : m < (r.count - 1).toNat
   · have hll := layL_len (r := r) (way := wayI q) ha m
     repeat (first
 | (apply s_a TY; exact rfl)
 | (apply s_t; exact rfl; omega)
 | apply w_seq
 | apply w_region
 | apply s_nil
 | apply t_norm
 | apply w_block
 | apply w_skip
 | (apply w_condT; exact rfl; exact rfl))
     apply w_gh (gh_own 13 3 1 rfl rfl)
     apply w_loop (fun k : Nat => ⟨(Ab.upd (Ab.upd (Ab.upd (Ab.upd (Ab.upd (Ab.upd (Ab.upd (Ab.upd (Ab.upd (Ab.upd (Ab.upd (Ab.upd (Ab.upd (Ab.upd (Ab.upd (fun _ => .bot) 2 (.f (iv (a : Nat)))) 3 (.f (.pt (ruleF r) 0))) 4 (.f (.pt [.sl h.length (hitsF h)] 0))) 8 (.f (iv ((accW r h a q).getD 0)))) 9 (.f (.v (.bool (accW r h a q).isSome)))) 11 (.f (.pt [iv (wayI q)] 0))) 12 (.f (.sl (layL r h (wayI q) a (m : Nat)).length (intsF (natsL (layL r h (wayI q) a (m : Nat))))))) 20 (.f (.agg [iv 1, iv (-1)]))) 21 (.f (iv (q : Nat)))) 28 (.f (iv (r.count - 1)))) 29 (.f (iv (m : Nat)))) 13 (.ow 0)) 31 (.f (.sl h.length (hitsF h)))) 32 (.f (iv h.length))) 33 (.f (iv (k : Nat)))), (Ab.upd (fun _ => none) 0 (some (.row 3 1 (nextL r h (wayI q) (layL r h (wayI q) a m) (k : Nat)).length (intsF (natsL (nextL r h (wayI q) (layL r h (wayI q) a m) (k : Nat))))))), 1⟩) (fun k => k <= h.length) (fun k => h.length - k) 0 (Nat.zero_le _) (gh_le ⟨le_upd rfl trivial (le_upd rfl trivial (le_upd rfl trivial (le_upd rfl rfl (le_upd rfl trivial (le_upd rfl trivial (le_upd rfl trivial (le_upd rfl trivial (le_upd rfl trivial (le_upd rfl trivial (le_upd rfl trivial (le_upd rfl trivial (le_upd rfl trivial (le_upd rfl trivial (le_upd rfl trivial (le_nil _))))))))))))))), le_hupd rfl trivial (le_h0 _ _)⟩)
     intro k hk
     by_cases hck : k < h.length
     · have hs := nextL_succ r h (wayI q) (layL r h (wayI q) a m) k
       have HC := idxIC_s (natsL (layL r h (wayI q) a m)) 419 [.pt (hitF h[k]) 0, .pt [.sl h.length (hitsF h)] 0, .pt [iv (wayI q)] 0, .pt (ruleF r) 0] (fun j => folB r h (wayI q) ((layL r h (wayI q) a m).getD j 0) k) (by rw [natsL_len]; omega) (fun j hj => by
        have hj' : j < (layL r h (wayI q) a m).length := by rw [<- natsL_len]; exact hj
        have hlt := layL_lt ha (List.getElem_mem hj')
        rw [natsL_at hj, show (layL r h (wayI q) a m).getD j 0 = (layL r h (wayI q) a m)[j] by simp [List.getD_eq_getElem?_getD, List.getElem?_eq_getElem hj']]
        exact follows_s l r h (wayI q) _ k hlt hck hw (ho.hit _ hlt) (ho.hit k hck))
       rw [anyP_any _ (fun i => folB r h (wayI q) i k), natsL_len] at HC
       cases hy : (layL r h (wayI q) a m).any fun i => folB r h (wayI q) i k with
       | true =>
         rw [hy] at HC
         rw [if_pos hy] at hs
         have hnl : (nextL r h (wayI q) (layL r h (wayI q) a m) k).length <= k := Nat.le_trans (List.length_filter_le _ _) (by simp)
         repeat (first
 | (refine s_ghost rfl (gh_box 1 (cs := hitF h[k]) rfl rfl) ?_)
 | (apply s_append TY; (iterate 9 exact rfl); (unfold maxLen; omega); omega)
 | (apply s_a TY; exact rfl)
 | (apply s_makefn; exact rfl; exact rfl)
 | (apply s_t; exact rfl; omega)
 | apply w_seq
 | apply w_region
 | apply s_nil
 | apply t_norm
 | apply k_norm
 | apply w_block
 | apply w_skip
 | (apply w_condT; exact rfl; exact rfl)
 | (apply s_k (HC); exact rfl)
 | (apply s_c TY; exact rfl; (first | omega | exact ⟨by omega, by (((with_reducible apply hitsF_ne); omega))⟩))
 | (apply s_m TY; exact rfl; (((with_reducible apply hitsF_sub); omega)); exact rfl)
 | (apply s_alloc TY; exact rfl; exact rfl; exact rfl)
 | (apply s_store TY; (iterate 6 exact rfl)))
         exact ⟨k + 1, by omega, by omega, gh_le ⟨le_upd rfl trivial (le_upd rfl trivial (le_upd rfl trivial (le_upd rfl rfl (le_upd rfl trivial (le_upd rfl trivial (le_upd rfl trivial (le_upd rfl trivial (le_upd rfl trivial (le_upd rfl trivial (le_upd rfl trivial (le_upd rfl trivial (le_upd rfl trivial (le_upd rfl trivial (le_upd rfl trivial (le_nil _))))))))))))))), le_hupd ((congrArg (fun M : List Nat => some (Blk.row 3 1 M.length (intsF (natsL M)))) hs).trans (row_appN _ _)).symm trivial (le_h0 _ _)⟩⟩
       | false =>
         rw [hy] at HC
         rw [if_neg (by rw [hy]; decide), List.append_nil] at hs
         repeat (first
 | (refine s_ghost rfl (gh_box 1 (cs := hitF h[k]) rfl rfl) ?_)
 | (apply s_a TY; exact rfl)
 | (apply s_makefn; exact rfl; exact rfl)
 | (apply s_t; exact rfl; omega)
 | apply w_seq
 | apply w_region
 | apply s_nil
 | apply t_norm
 | apply k_norm
 | apply w_block
 | apply w_skip
 | (apply w_condT; exact rfl; exact rfl)
 | (apply w_condF; exact rfl; exact rfl)
 | (apply s_k (HC); exact rfl)
 | (apply s_c TY; exact rfl; (first | omega | exact ⟨by omega, by (((with_reducible apply hitsF_ne); omega))⟩))
 | (apply s_m TY; exact rfl; (((with_reducible apply hitsF_sub); omega)); exact rfl)
 | (apply s_alloc TY; exact rfl; exact rfl; exact rfl)
 | (apply s_store TY; (iterate 6 exact rfl)))
         exact ⟨k + 1, by omega, by omega, gh_le ⟨le_upd rfl trivial (le_upd rfl trivial (le_upd rfl trivial (le_upd rfl rfl (le_upd rfl trivial (le_upd rfl trivial (le_upd rfl trivial (le_upd rfl trivial (le_upd rfl trivial (le_upd rfl trivial (le_upd rfl trivial (le_upd rfl trivial (le_upd rfl trivial (le_upd rfl trivial (le_upd rfl trivial (le_nil _))))))))))))))), le_hupd (congrArg (fun M : List Nat => some (Blk.row 3 1 M.length (intsF (natsL M)))) hs).symm trivial (le_h0 _ _)⟩⟩
     · have hke : k = h.length := by omega
       subst hke
       repeat (first
 | (apply s_a TY; exact rfl)
 | (apply s_f; exact rfl; omega)
 | apply w_seq
 | apply w_region
 | apply s_nil
 | apply t_norm
 | apply t_exit
 | apply k_hit
 | apply k_norm
 | apply w_exit
 | (apply w_condF; exact rfl; exact rfl)
 | (apply s_c TY; exact rfl; omega))
       exact ⟨m + 1, by omega, by omega, gh_trans (gh_row 0 rfl) (gh_le ⟨le_upd rfl trivial (le_upd rfl trivial (le_upd rfl trivial (le_upd rfl trivial (le_upd rfl trivial (le_upd rfl trivial (le_upd rfl trivial (le_upd rfl trivial (le_upd rfl trivial (le_upd rfl trivial (le_upd rfl trivial (le_nil _))))))))))), le_h0 _ _⟩)⟩
   · have hme : m = (r.count - 1).toNat := by omega
     subst hme
     have hll := layL_len (r := r) (way := wayI q) ha (r.count - 1).toNat
     repeat (first
 | (apply s_a TY; exact rfl)
 | (apply s_f; exact rfl; omega)
 | apply w_seq
 | apply w_region
 | apply s_nil
 | apply t_norm
 | apply t_exit
 | apply k_hit
 | apply w_block
 | apply w_exit
 | (apply w_condF; exact rfl; exact rfl))
     apply w_loop (fun j : Nat => ⟨(Ab.upd (Ab.upd (Ab.upd (Ab.upd (Ab.upd (Ab.upd (Ab.upd (Ab.upd (Ab.upd (Ab.upd (fun _ => .bot) 2 (.f (iv (a : Nat)))) 3 (.f (.pt (ruleF r) 0))) 4 (.f (.pt [.sl h.length (hitsF h)] 0))) 8 (.f (iv ((endA h (accW r h a q) ((layL r h (wayI q) a (r.count - 1).toNat).take (j : Nat))).getD 0)))) 9 (.f (.v (.bool (endA h (accW r h a q) ((layL r h (wayI q) a (r.count - 1).toNat).take (j : Nat))).isSome)))) 20 (.f (.agg [iv 1, iv (-1)]))) 21 (.f (iv (q : Nat)))) 49 (.f (.sl (layL r h (wayI q) a (r.count - 1).toNat).length (intsF (natsL (layL r h (wayI q) a (r.count - 1).toNat)))))) 50 (.f (iv (layL r h (wayI q) a (r.count - 1).toNat).length))) 51 (.f (iv (j : Nat)))), (fun _ => none), 0⟩) (fun j => j <= (layL r h (wayI q) a (r.count - 1).toNat).length) (fun j => (layL r h (wayI q) a (r.count - 1).toNat).length - j) 0 (Nat.zero_le _) (gh_le ⟨le_upd rfl trivial (le_upd rfl trivial (le_upd rfl trivial (le_upd rfl trivial (le_upd rfl trivial (le_upd rfl trivial (le_upd rfl trivial (le_upd rfl trivial (le_upd rfl trivial (le_upd rfl trivial (le_nil _)))))))))), le_h0 _ _⟩)
     intro j hj
     by_cases hcj : j < (layL r h (wayI q) a (r.count - 1).toNat).length
     · have hlt := layL_lt ha (List.getElem_mem hcj)
       have hel : (natsL (layL r h (wayI q) a (r.count - 1).toNat))[j]'(by rw [natsL_len]; exact hcj) = (((layL r h (wayI q) a (r.count - 1).toNat)[j] : Nat) : Int) := natsL_at _
       have het := endA_take (h := h) (acc := accW r h a q) hcj
       rw [getD_at hlt] at het
       have hij : (intsF (natsL (layL r h (wayI q) a (r.count - 1).toNat)))[j * 1]? = some (iv (((layL r h (wayI q) a (r.count - 1).toNat)[j] : Nat) : Int)) := by rw [intsF_at (by rw [natsL_len]; exact hcj), hel]
       have hne : intsF (natsL (layL r h (wayI q) a (r.count - 1).toNat)) ≠ [] := intsF_ne (k := j) (by rw [natsL_len]; exact hcj)
       revert het
       cases hA : endA h (accW r h a q) ((layL r h (wayI q) a (r.count - 1).toNat).take j) with
       | none =>
         intro het
         repeat (first
 | (apply s_a TY; exact rfl)
 | (apply s_t; exact rfl; omega)
 | apply w_seq
 | apply w_region
 | apply s_nil
 | apply t_norm
 | apply k_norm
 | apply w_block
 | apply w_skip
 | (apply w_condT; exact rfl; exact rfl)
 | (apply s_s; exact rfl)
 | (apply s_c TY; exact rfl; (first | omega | exact ⟨by omega, by (first | with_reducible assumption | ((with_reducible apply hitsF_ne); omega))⟩))
 | (apply s_l TY; exact rfl; (first | with_reducible assumption | ((with_reducible apply hitsF_f0); omega))))
         exact ⟨j + 1, by omega, by omega, gh_le ⟨le_upd rfl trivial (le_upd rfl trivial (le_upd rfl trivial (le_upd rfl trivial (le_upd rfl trivial (le_upd (congrArg (fun o : Option Int => AV.f (.v (.bool o.isSome))) het) trivial (le_upd (congrArg (fun o : Option Int => AV.f (iv (o.getD 0))) het) trivial (le_upd rfl trivial (le_upd rfl trivial (le_upd rfl trivial (le_nil _)))))))))), le_h0 _ _⟩⟩
       | some e =>
         intro het
         by_cases hlte : h[(layL r h (wayI q) a (r.count - 1).toNat)[j]].tm < e
         · rw [show minA (some e) h[(layL r h (wayI q) a (r.count - 1).toNat)[j]].tm = some h[(layL r h (wayI q) a (r.count - 1).toNat)[j]].tm by unfold minA; simp only [if_pos hlte]] at het
           repeat (first
 | (apply s_a TY; exact rfl)
 | (apply s_t; exact rfl; (first | assumption | omega))
 | apply w_seq
 | apply w_region
 | apply s_nil
 | apply t_norm
 | apply k_norm
 | apply w_block
 | apply w_skip
 | (apply w_condT; exact rfl; exact rfl)
 | (apply s_c TY; exact rfl; (first | omega | exact ⟨by omega, by (first | with_reducible assumption | ((with_reducible apply hitsF_ne); omega))⟩))
 | (apply s_l TY; exact rfl; (first | with_reducible assumption | ((with_reducible apply hitsF_f0); omega))))
           exact ⟨j + 1, by omega, by omega, gh_le ⟨le_upd rfl trivial (le_upd rfl trivial (le_upd rfl trivial (le_upd rfl trivial (le_upd rfl trivial (le_upd (congrArg (fun o : Option Int => AV.f (.v (.bool o.isSome))) het) trivial (le_upd (congrArg (fun o : Option Int => AV.f (iv (o.getD 0))) het) trivial (le_upd rfl trivial (le_upd rfl trivial (le_upd rfl trivial (le_nil _)))))))))), le_h0 _ _⟩⟩
         · rw [show minA (some e) h[(layL r h (wayI q) a (r.count - 1).toNat)[j]].tm = some e by unfold minA; simp only [if_neg hlte]] at het
           repeat (first
 | (apply s_a TY; exact rfl)
 | (apply s_t; exact rfl; omega)
 | (apply s_f; exact rfl; assumption)
 | apply w_seq
 | apply w_region
 | apply s_nil
 | apply t_norm
 | apply k_norm
 | apply w_block
 | apply w_skip
 | (apply w_condT; exact rfl; exact rfl)
 | (apply w_condF; exact rfl; exact rfl)
 | (apply s_c TY; exact rfl; (first | omega | exact ⟨by omega, by (first | with_reducible assumption | ((with_reducible apply hitsF_ne); omega))⟩))
 | (apply s_l TY; exact rfl; (first | with_reducible assumption | ((with_reducible apply hitsF_f0); omega))))
           exact ⟨j + 1, by omega, by omega, gh_le ⟨le_upd rfl trivial (le_upd rfl trivial (le_upd rfl trivial (le_upd rfl trivial (le_upd rfl trivial (le_upd (congrArg (fun o : Option Int => AV.f (.v (.bool o.isSome))) het) trivial (le_upd (congrArg (fun o : Option Int => AV.f (iv (o.getD 0))) het) trivial (le_upd rfl trivial (le_upd rfl trivial (le_upd rfl trivial (le_nil _)))))))))), le_h0 _ _⟩⟩
     · have hje : j = (layL r h (wayI q) a (r.count - 1).toNat).length := by omega
       subst hje
       have het : endA h (accW r h a q) ((layL r h (wayI q) a (r.count - 1).toNat).take (layL r h (wayI q) a (r.count - 1).toNat).length) = accW r h a (q + 1) := by rw [List.take_length]; rfl
       repeat (first
 | (apply s_a TY; exact rfl)
 | (apply s_f; exact rfl; omega)
 | apply w_seq
 | apply w_region
 | apply s_nil
 | apply t_norm
 | apply t_exit
 | apply k_hit
 | apply k_norm
 | apply w_exit
 | (apply w_condF; exact rfl; exact rfl)
 | (apply s_c TY; exact rfl; omega))
       exact ⟨q + 1, by omega, by omega, gh_le ⟨le_upd rfl trivial (le_upd rfl trivial (le_upd (congrArg (fun o : Option Int => AV.f (.v (.bool o.isSome))) het).symm trivial (le_upd (congrArg (fun o : Option Int => AV.f (iv (o.getD 0))) het).symm trivial (le_upd rfl trivial (le_upd rfl trivial (le_upd rfl trivial (le_nil _))))))), le_h0 _ _⟩⟩
 · have hqe : q = 2 := by omega
   subst hqe
   repeat (first
 | (apply s_a TY; exact rfl)
 | (apply s_f; exact rfl; omega)
 | apply w_seq
 | apply w_region
 | apply s_nil
 | apply t_norm
 | apply t_exit
 | apply k_hit
 | apply w_exit
 | apply w_ret
 | (apply w_condF; exact rfl; exact rfl))
   exact lv_ret (ret2 rfl (res_tmp rfl) (res_tmp rfl))
def fireL (nr : Hit -> Bool) (t0 w : Int) : Int -> List Hit -> Option Int
 | _, [] => none
 | left, x :: rest => if w < x.tm - t0 then none else if (if nr x then left - 1 else left) = 0 then some x.tm else fireL nr t0 w (if nr x then left - 1 else left) rest
def fireV (l : List Site) (r : Rule) (h : List Hit) (a : Nat) : Option Int :=
 if r.kind = 3 then slowV r h a else fireL (nearB l r (h.getD a default)) (h.getD a default).tm r.window r.count (h.drop a)
def firesV (l : List Site) (r : Rule) (h : List Hit) (n : Nat) : List Fire := (List.range n).filterMap fun i => (fireV l r h i).map fun e => ⟨i, (h.getD i default).tm, e⟩
theorem firesV_succ (l : List Site) (r : Rule) (h : List Hit) (n : Nat) : firesV l r h (n + 1) = firesV l r h n ++ (match fireV l r h n with | some e => [⟨n, (h.getD n default).tm, e⟩] | none => []) := by
 unfold firesV
 rw [List.range_succ, List.filterMap_append]
 congr 1
 cases hf : fireV l r h n with
 | none => simp [hf]
 | some e => simp [hf]
theorem firesV_len (l : List Site) (r : Rule) (h : List Hit) (n : Nat) : (firesV l r h n).length <= n := Nat.le_trans (List.length_filterMap_le _ _) (by simp)
theorem slF_eq {n m : Nat} {x y : List FV} (h1 : n = m) (h2 : x = y) : AV.f (.sl n x) = .f (.sl m y) := by rw [h1, h2]
set_option maxRecDepth 100000 in
set_option maxHeartbeats 1600000 in
theorem fire_s (l : List Site) (r : Rule) (h : List Hit) (a : Nat) (hr : ruleErr r = 0) (hl0 : ArrOk l) (ho : HitsOk l h) (ha : a < h.length) : Summ Tryz.prog GG 295 [arrayV l, .agg (ruleF r), .sl h.length (hitsF h), iv (a : Nat)] (.tup [iv ((fireV l r h a).getD 0), bv (fireV l r h a).isSome]) := by
 obtain ⟨r1, r2, r3, r4, r5, r6⟩ := ruleOk_of hr
 have h40 := ho.len
 by_cases hk3 : r.kind = 3
 · rw [show fireV l r h a = slowV r h a by unfold fireV; rw [if_pos hk3]]
   have HS := slow_s l r h a hr ho ha
   refine summW Tryz.func295 rfl rfl 58 rfl (by simp) (fun M0 => ?_)
   repeat (first
 | (apply s_a TY; exact rfl)
 | (apply s_t; exact rfl; assumption)
 | apply w_seq
 | apply w_region
 | apply s_nil
 | apply t_norm
 | apply t_ret
 | apply w_ret
 | (apply w_condT; exact rfl; exact rfl)
 | (apply s_k (HS); exact rfl))
   exact lv_ret (ret2 rfl (res_tmp rfl) (res_tmp rfl))
 · have hfv : fireV l r h a = fireL (nearB l r h[a]) h[a].tm r.window r.count (h.drop a) := by unfold fireV; rw [if_neg hk3, getD_at ha]
   rw [hfv]
   have hdl : (h.drop a).length = h.length - a := by simp
   have hdn : ((((h.length : Nat) : Int)).toNat - ((a : Nat) : Int).toNat) = (h.drop a).length := by simp
   have hds : ((hitsF h).drop (((a : Nat) : Int).toNat * 3)).take (((((h.length : Nat) : Int)).toNat - ((a : Nat) : Int).toNat) * 3) = hitsF (h.drop a) := by
    rw [Int.toNat_natCast, Int.toNat_natCast, hitsF_drop, <- hdl, List.take_of_length_le (by rw [hitsF_len]; exact Nat.le_refl _)]
   have hta := (ho.hit a ha).tm
   refine summW Tryz.func295 rfl rfl 58 rfl (by simp) (fun M0 => ?_)
   repeat (first
 | (apply s_a TY; exact rfl)
 | (apply s_f; exact rfl; assumption)
 | apply w_seq
 | apply w_region
 | apply s_nil
 | apply t_norm
 | apply w_block
 | apply w_skip
 | (apply w_condF; exact rfl; exact rfl)
 | (apply s_slice TY; exact rfl; exact rfl; exact rfl; (exact ⟨_, rfl⟩); exact rfl; omega; omega; omega))
   apply w_loop (fun p : Nat × Int => ⟨(Ab.upd (Ab.upd (Ab.upd (Ab.upd (Ab.upd (Ab.upd (Ab.upd (Ab.upd (fun _ => .bot) 2 (.f (.sl h.length (hitsF h)))) 3 (.f (iv (a : Nat)))) 4 (.f (.pt [.sl l.length (sitesF l), .mp (mapS l l.length)] 0))) 5 (.f (.pt (ruleF r) 0))) 10 (.f (iv p.2))) 26 (.f (.sl (h.drop a).length (hitsF (h.drop a))))) 27 (.f (iv (h.drop a).length))) 28 (.f (iv (p.1 : Nat)))), (fun _ => none), 0⟩) (fun p => p.1 <= (h.drop a).length /\ 1 <= p.2 /\ p.2 <= 40 /\ fireL (nearB l r h[a]) h[a].tm r.window r.count (h.drop a) = fireL (nearB l r h[a]) h[a].tm r.window p.2 ((h.drop a).drop p.1)) (fun p => (h.drop a).length - p.1) (0, r.count) (⟨Nat.zero_le _, by omega, by omega, by simp⟩) (gh_le ⟨le_upd rfl trivial (le_upd (congrArg (fun n : Nat => AV.f (iv n)) hdn.symm) trivial (le_upd (slF_eq hdn.symm hds.symm) trivial (le_upd rfl trivial (le_upd rfl trivial (le_upd rfl trivial (le_upd rfl trivial (le_upd rfl trivial (le_nil _)))))))), le_h0 _ _⟩)
   intro ⟨k, lf⟩ ⟨hk, hlf1, hlf2, hinv⟩
   simp only at hk hlf1 hlf2 hinv
   by_cases hc : k < (h.drop a).length
   · have hak : a + k < h.length := by omega
     have hel : (h.drop a)[k] = h[a + k] := by simp
     have htk := (ho.hit (a + k) hak).tm
     have hld : ((hitsF (h.drop a)).drop (k * 3)).take 3 = hitF h[a + k] := by rw [hitsF_sub hc, hel]
     have hne : hitsF (h.drop a) ≠ [] := hitsF_ne hc
     have hdk : (h.drop a).drop k = h[a + k] :: (h.drop a).drop (k + 1) := by rw [List.drop_eq_getElem_cons hc, hel]
     rw [hdk] at hinv
     by_cases hw : r.window < h[a + k].tm - h[a].tm
     · rw [hinv, show fireL (nearB l r h[a]) h[a].tm r.window lf (h[a + k] :: (h.drop a).drop (k + 1)) = none by unfold fireL; rw [if_pos hw]]
       repeat (first
 | (apply s_a TY; exact rfl)
 | (apply s_t; exact rfl; (first | assumption | omega))
 | apply w_seq
 | apply w_region
 | (apply w_draw (id := 7) 10 rfl (by kernel_rfl))
 | apply s_nil
 | apply t_norm
 | apply t_exit
 | apply k_hit
 | (apply k_miss; exact rfl)
 | apply w_block
 | apply w_exit
 | apply w_ret
 | apply w_skip
 | (apply w_condT; exact rfl; exact rfl)
 | (apply s_c TY; exact rfl; (first | omega | exact ⟨by omega, by (first | with_reducible assumption | ((with_reducible apply hitsF_ne); omega))⟩))
 | (apply s_l TY; exact rfl; (((with_reducible apply hitsF_f0); omega)))
 | (apply s_m TY; exact rfl; (with_reducible assumption); exact rfl)
 | (apply s_alloc TY; exact rfl; exact rfl; exact rfl)
 | (apply s_store TY; (iterate 6 exact rfl)))
       exact lv_ret (ret2 rfl (res_tmp rfl) (res_tmp rfl))
     · have HN := tnear_s l r h[a] h[a + k] hl0 hr (ho.hit a ha) (ho.hit (a + k) hak)
       have hfl : fireL (nearB l r h[a]) h[a].tm r.window lf (h[a + k] :: (h.drop a).drop (k + 1)) = if (if nearB l r h[a] h[a + k] then lf - 1 else lf) = 0 then some h[a + k].tm else fireL (nearB l r h[a]) h[a].tm r.window (if nearB l r h[a] h[a + k] then lf - 1 else lf) ((h.drop a).drop (k + 1)) := by rw [fireL, if_neg hw]
       cases hn : nearB l r h[a] h[a + k] with
       | true =>
         rw [hn] at HN hfl
         simp only [if_true] at hfl
         by_cases h0 : lf - 1 = 0
         · rw [hinv, hfl, if_pos h0]
           repeat (first
 | (apply s_a TY; exact rfl)
 | (apply s_t; exact rfl; (first | assumption | omega))
 | (apply s_f; exact rfl; assumption)
 | apply w_seq
 | apply w_region
 | (apply w_draw (id := 7) 10 rfl (by kernel_rfl))
 | (apply w_draw (id := 8) 7 rfl (by kernel_rfl))
 | apply s_nil
 | apply t_norm
 | apply t_ret
 | apply k_ret
 | apply w_block
 | apply w_ret
 | apply w_skip
 | (apply w_condT; exact rfl; exact rfl)
 | (apply w_condF; exact rfl; exact rfl)
 | (apply s_k (HN); exact rfl)
 | (apply s_c TY; exact rfl; (first | omega | exact ⟨by omega, by (first | with_reducible assumption | ((with_reducible apply hitsF_ne); omega))⟩))
 | (apply s_l TY; exact rfl; (((with_reducible apply hitsF_f0); omega)))
 | (apply s_m TY; exact rfl; (first | with_reducible assumption | ((with_reducible apply hitsF_sub); omega)); exact rfl)
 | (apply s_alloc TY; exact rfl; exact rfl; exact rfl)
 | (apply s_store TY; (iterate 6 exact rfl)))
           exact lv_ret (ret2 rfl (res_tmp rfl) (res_tmp rfl))
         · rw [if_neg h0] at hfl
           repeat (first
 | (apply s_a TY; exact rfl)
 | (apply s_t; exact rfl; omega)
 | (apply s_f; exact rfl; assumption)
 | apply w_seq
 | apply w_region
 | (apply w_draw (id := 7) 10 rfl (by kernel_rfl))
 | (apply w_draw (id := 8) 7 rfl (by kernel_rfl))
 | apply s_nil
 | apply t_norm
 | apply k_norm
 | apply w_block
 | apply w_skip
 | (apply w_condT; exact rfl; exact rfl)
 | (apply w_condF; exact rfl; exact rfl)
 | (apply s_k (HN); exact rfl)
 | (apply s_c TY; exact rfl; (first | omega | exact ⟨by omega, by (first | with_reducible assumption | ((with_reducible apply hitsF_ne); omega))⟩))
 | (apply s_l TY; exact rfl; (((with_reducible apply hitsF_f0); omega)))
 | (apply s_m TY; exact rfl; (first | with_reducible assumption | ((with_reducible apply hitsF_sub); omega)); exact rfl)
 | (apply s_alloc TY; exact rfl; exact rfl; exact rfl)
 | (apply s_store TY; (iterate 6 exact rfl)))
           exact ⟨(k + 1, lf - 1), ⟨by show k + 1 <= _; omega, by show 1 <= lf - 1; omega, by show lf - 1 <= 40; omega, hinv.trans hfl⟩, by show _ - (k + 1) < _ - k; omega, gh_le ⟨le_upd rfl trivial (le_upd rfl trivial (le_upd rfl trivial (le_upd rfl trivial (le_upd rfl trivial (le_upd rfl trivial (le_upd rfl trivial (le_upd rfl trivial (le_nil _)))))))), le_h0 _ _⟩⟩
       | false =>
         rw [hn] at HN hfl
         simp only [Bool.false_eq_true, if_false] at hfl
         have h0 : ¬ lf = 0 := by omega
         rw [if_neg h0] at hfl
         repeat (first
 | (apply s_a TY; exact rfl)
 | (apply s_t; exact rfl; omega)
 | (apply s_f; exact rfl; assumption)
 | apply w_seq
 | apply w_region
 | (apply w_draw (id := 7) 10 rfl (by kernel_rfl))
 | (apply w_draw (id := 8) 7 rfl (by kernel_rfl))
 | apply s_nil
 | apply t_norm
 | apply k_norm
 | apply w_block
 | apply w_skip
 | (apply w_condT; exact rfl; exact rfl)
 | (apply w_condF; exact rfl; exact rfl)
 | (apply s_k (HN); exact rfl)
 | (apply s_c TY; exact rfl; (first | omega | exact ⟨by omega, by (first | with_reducible assumption | ((with_reducible apply hitsF_ne); omega))⟩))
 | (apply s_l TY; exact rfl; (((with_reducible apply hitsF_f0); omega)))
 | (apply s_m TY; exact rfl; (first | with_reducible assumption | ((with_reducible apply hitsF_sub); omega)); exact rfl)
 | (apply s_alloc TY; exact rfl; exact rfl; exact rfl)
 | (apply s_store TY; (iterate 6 exact rfl)))
         exact ⟨(k + 1, lf), ⟨by show k + 1 <= _; omega, hlf1, hlf2, hinv.trans hfl⟩, by show _ - (k + 1) < _ - k; omega, gh_le ⟨le_upd rfl trivial (le_upd rfl trivial (le_upd rfl trivial (le_upd rfl trivial (le_upd rfl trivial (le_upd rfl trivial (le_upd rfl trivial (le_upd rfl trivial (le_nil _)))))))), le_h0 _ _⟩⟩
   · rw [hinv, List.drop_of_length_le (show (h.drop a).length <= k by omega)]
     repeat (first
 | (apply s_a TY; exact rfl)
 | (apply s_f; exact rfl; omega)
 | apply w_seq
 | apply w_region
 | apply s_nil
 | apply t_norm
 | apply t_exit
 | apply k_hit
 | apply w_exit
 | apply w_ret
 | (apply w_condF; exact rfl; exact rfl))
     exact lv_ret (ret2 rfl (res_tmp rfl) (res_tmp rfl))
theorem row_appFire (L : List Fire) (x : Fire) : some (Blk.row 326 3 (L ++ [x]).length (firesF (L ++ [x]))) = some (Blk.row 326 3 (L.length + 1) (firesF L ++ fireF x)) := by
 rw [firesF_snoc, List.length_append]; rfl
set_option maxRecDepth 100000 in
set_option maxHeartbeats 1600000 in
theorem fires_s (l : List Site) (r : Rule) (h : List Hit) (hr : ruleErr r = 0) (hl0 : ArrOk l) (ho : HitsOk l h) : Summ Tryz.prog GG 225 [arrayV l, .agg (ruleF r), .sl h.length (hitsF h)] (.sl (firesV l r h h.length).length (firesF (firesV l r h h.length))) := by
 have h40 := ho.len
 refine summW Tryz.func225 rfl rfl 39 rfl (by simp) (fun M0 => ?_)
 repeat (first
 | (apply s_a TY; exact rfl)
 | apply w_seq
 | apply w_region
 | apply s_nil
 | apply t_norm
 | apply w_block)
 apply w_gh (gh_own 7 326 3 rfl rfl)
 apply w_loop (fun k : Nat => ⟨(Ab.upd (Ab.upd (Ab.upd (Ab.upd (Ab.upd (Ab.upd (Ab.upd (fun _ => .bot) 2 (.f (.sl h.length (hitsF h)))) 3 (.f (.pt [.sl l.length (sitesF l), .mp (mapS l l.length)] 0))) 4 (.f (.pt (ruleF r) 0))) 7 (.ow 0)) 12 (.f (.sl h.length (hitsF h)))) 13 (.f (iv h.length))) 14 (.f (iv (k : Nat)))), (Ab.upd (fun _ => none) 0 (some (.row 326 3 (firesV l r h k).length (firesF (firesV l r h k))))), 1⟩) (fun k => k <= h.length) (fun k => h.length - k) 0 (Nat.zero_le _) (gh_le ⟨le_upd rfl trivial (le_upd rfl trivial (le_upd rfl trivial (le_upd rfl rfl (le_upd rfl trivial (le_upd rfl trivial (le_upd rfl trivial (le_nil _))))))), le_hupd rfl trivial (le_h0 _ _)⟩)
 intro k hk
 by_cases hc : k < h.length
 · have HF := fire_s l r h k hr hl0 ho hc
   have hs := firesV_succ l r h k
   have hln := firesV_len l r h k
   rw [getD_at hc] at hs
   cases hv : fireV l r h k with
   | none =>
     rw [hv] at HF hs
     simp only [List.append_nil] at hs
     repeat (first
 | (apply s_a TY; exact rfl)
 | (apply s_t; exact rfl; omega)
 | apply w_seq
 | apply w_region
 | apply s_nil
 | apply t_norm
 | apply k_norm
 | apply w_block
 | apply w_skip
 | (apply w_condT; exact rfl; exact rfl)
 | (apply w_condF; exact rfl; exact rfl)
 | (apply s_k (HF); exact rfl)
 | (apply s_c TY; exact rfl; (first | omega | exact ⟨by omega, by (((with_reducible apply hitsF_ne); omega))⟩))
 | (apply s_m TY; exact rfl; (((with_reducible apply hitsF_sub); omega)); exact rfl)
 | (apply s_alloc TY; exact rfl; exact rfl; exact rfl)
 | (apply s_store TY; (iterate 6 exact rfl)))
     exact ⟨k + 1, by omega, by omega, gh_le ⟨le_upd rfl trivial (le_upd rfl trivial (le_upd rfl trivial (le_upd rfl rfl (le_upd rfl trivial (le_upd rfl trivial (le_upd rfl trivial (le_nil _))))))), le_hupd (congrArg (fun M : List Fire => some (Blk.row 326 3 M.length (firesF M))) hs).symm trivial (le_h0 _ _)⟩⟩
   | some e =>
     rw [hv] at HF hs
     simp only at hs
     repeat (first
 | (apply s_append TY; (iterate 9 exact rfl); (unfold maxLen; omega); omega)
 | (apply s_a TY; exact rfl)
 | (apply s_t; exact rfl; omega)
 | apply w_seq
 | apply w_region
 | apply s_nil
 | apply t_norm
 | apply k_norm
 | apply w_block
 | apply w_skip
 | (apply w_condT; exact rfl; exact rfl)
 | (apply s_k (HF); exact rfl)
 | (apply s_c TY; exact rfl; (first | omega | exact ⟨by omega, by (((with_reducible apply hitsF_ne); omega))⟩))
 | (apply s_m TY; exact rfl; (((with_reducible apply hitsF_sub); omega)); exact rfl)
 | (apply s_alloc TY; exact rfl; exact rfl; exact rfl)
 | (apply s_store TY; (iterate 6 exact rfl)))
     exact ⟨k + 1, by omega, by omega, gh_le ⟨le_upd rfl trivial (le_upd rfl trivial (le_upd rfl trivial (le_upd rfl rfl (le_upd rfl trivial (le_upd rfl trivial (le_upd rfl trivial (le_nil _))))))), le_hupd ((congrArg (fun M : List Fire => some (Blk.row 326 3 M.length (firesF M))) hs).trans (row_appFire _ _)).symm trivial (le_h0 _ _)⟩⟩
 · have hke : k = h.length := by omega
   subst hke
   repeat (first
 | (apply s_a TY; exact rfl)
 | (apply s_f; exact rfl; omega)
 | apply w_seq
 | apply w_region
 | apply s_nil
 | apply t_norm
 | apply t_exit
 | apply k_hit
 | apply w_exit
 | apply w_ret
 | (apply w_condF; exact rfl; exact rfl))
   exact lv_ret (ret_gh (gh_row 0 rfl) (ret1 rfl (res_tmp rfl)))
end Go.Proofs.YtbkdjlahhcofmaaGreatDoor
namespace Go.Ab
open Go Go.RowKit Go.Shelf Go.Proofs Go.Sort
theorem fk_get {α : Type} {β : Type} {enc : α -> List β} {k : Nat} (hk : ∀ x, (enc x).length = k) (h0 : 0 < k) : ∀ (d : List α) (t : Nat), (d.flatMap enc)[t]? = (d[t / k]?).bind fun x => (enc x)[t % k]?
 | [], t => by simp
 | x :: d, t => by
   rw [List.flatMap_cons]
   by_cases h : t < k
   · rw [List.getElem?_append_left (by rw [hk]; exact h), Nat.div_eq_of_lt h, Nat.mod_eq_of_lt h]; simp
   · rw [List.getElem?_append_right (by rw [hk]; omega), hk, fk_get hk h0 d (t - k), Nat.div_eq_sub_div h0 (Nat.le_of_not_lt h), Nat.mod_eq_sub_mod (Nat.le_of_not_lt h)]; simp
theorem fk_len {α : Type} {β : Type} {enc : α -> List β} {k : Nat} (hk : ∀ x, (enc x).length = k) : ∀ (d : List α), (d.flatMap enc).length = d.length * k
 | [] => by simp
 | x :: d => by rw [List.flatMap_cons, List.length_append, hk, fk_len hk d, List.length_cons, Nat.add_mul]; omega
section
variable {α : Type} [Inhabited α] {enc : α -> List Value} {k : Nat}
theorem flatK_list (hk : ∀ x, (enc x).length = k) (h0 : 0 < k) (d : List α) : (flatK enc k d.toArray).toList = d.flatMap enc := by
 apply List.ext_getElem?
 intro t
 rw [fk_get hk h0]
 by_cases h : t < d.length * k
 · have hd : t / k < d.length := Nat.div_lt_of_lt_mul (by rw [Nat.mul_comm]; exact h)
   have hm : t % k < (enc d[t / k]).length := by rw [hk]; exact Nat.mod_lt _ h0
   have := get_flatK enc k d.toArray t (by simpa using h)
   rw [getElem!_pos _ _ (by simpa using h)] at this
   rw [Array.getElem?_toList, Array.getElem?_eq_getElem (by simpa using h), this, List.getElem?_eq_getElem hd]
   simp [hd, List.getElem?_eq_getElem hm, List.getElem!_eq_getElem?_getD]
 · rw [Array.getElem?_toList, Array.getElem?_eq_none (by simpa using h), List.getElem?_eq_none (by
  have : d.length <= t / k := (Nat.le_div_iff_mul_le h0).2 (by omega)
  exact this)]
   rfl
def sortL (cf : α -> α -> Int) (d : List α) : List α := (pdq (ltOf cf) d.toArray 0 d.length (Lib.bitLen d.length) true true).toList
theorem sortL_spec {cf : α -> α -> Int} (hO : SWO (ltOf cf)) (d : List α) : PermIn 0 d.length d.toArray (sortL cf d).toArray /\ SortedIn (ltOf cf) 0 d.length (sortL cf d).toArray := by
 have h := pdq_sorts (ltOf cf) hO d.toArray 0 d.length (Lib.bitLen d.length) true true (Nat.zero_le _) (by simp) (Or.inl rfl)
 unfold sortL
 exact ⟨by simpa using h.1, by simpa using h.2⟩
theorem sortL_len {cf : α -> α -> Int} (hO : SWO (ltOf cf)) (d : List α) : (sortL cf d).length = d.length := by
 have := (sortL_spec hO d).1.1
 simpa using this
theorem sortL_nil {cf : α -> α -> Int} (hO : SWO (ltOf cf)) : sortL cf ([] : List α) = [] := List.eq_nil_of_length_eq_zero (sortL_len hO [])
theorem sortL_perm {cf : α -> α -> Int} (hO : SWO (ltOf cf)) (d : List α) : (sortL cf d).Perm d := by
 obtain ⟨h1, _, h2⟩ := (sortL_spec hO d).1
 have e1 : (sortL cf d).toArray.extract 0 d.length = (sortL cf d).toArray := by
  have : d.length = (sortL cf d).toArray.size := by rw [h1]; simp
  rw [this]; exact Array.extract_size
 have e2 : d.toArray.extract 0 d.length = d.toArray := by
  have : d.length = d.toArray.size := by simp
  rw [this]; exact Array.extract_size
 rw [e1, e2] at h2
 simpa using h2
theorem sortL_pw {cf : α -> α -> Int} (hO : SWO (ltOf cf)) (d : List α) : (sortL cf d).Pairwise fun x y => ¬ cf y x < 0 := by
 have hs := (sortL_spec hO d).2
 have hl := sortL_len hO d
 rw [List.pairwise_iff_getElem]
 intro i j hi hj hij
 have := hs i j (Nat.zero_le _) hij (by omega)
 rw [getElem!_pos _ j (by simpa using hj), getElem!_pos _ i (by simpa using hi)] at this
 simpa [ltOf] using this
theorem repL_v {w : World} {M : Nat -> Prop} {xs vs : List Value} (h : RepL w M xs (vs.map FV.v)) : xs = vs := by
 apply List.ext_getElem?
 intro i
 by_cases hi : i < xs.length
 · have hv : i < vs.length := by have := h.1; simp at this; omega
   have hr := h.2 i xs[i] (.v vs[i]) (List.getElem?_eq_getElem hi) (by simp [hv])
   rw [List.getElem?_eq_getElem hi, List.getElem?_eq_getElem hv]
   generalize xs[i] = a at hr ⊢
   generalize vs[i] = b at hr ⊢
   cases hr
   rfl
 · have := h.1; simp at this
   rw [List.getElem?_eq_none (by omega), List.getElem?_eq_none (by omega)]
theorem repL_ofA {C : Ctx} {w : World} {h : Nat -> Option Blk} {J : Nat -> Value} {xs : List Value} {cs : List FV} (q : xs.length = (cs.map AV.f).length /\ ∀ (k : Nat) (u : Value) (x : AV), xs[k]? = some u -> (cs.map AV.f)[k]? = some x -> RepA C w h J u x) : RepL w (Mb C h J) xs cs :=
 ⟨by simpa using q.1, fun k u x h1 h2 => q.2 k u (.f x) h1 (by simp [h2])⟩
theorem repA_ofL {C : Ctx} {w : World} {h : Nat -> Option Blk} {J : Nat -> Value} {xs : List Value} {cs : List FV} (q : RepL w (Mb C h J) xs cs) : xs.length = (cs.map AV.f).length /\ ∀ (k : Nat) (u : Value) (x : AV), xs[k]? = some u -> (cs.map AV.f)[k]? = some x -> RepA C w h J u x :=
 ⟨by simpa using q.1, fun k u x h1 h2 => by
   rw [List.getElem?_map] at h2
   cases hk : cs[k]? with
   | none => simp [hk] at h2
   | some y => simp [hk] at h2; subst h2; exact q.2 k u y h1 hk⟩
theorem arr_ren (σ : Nat -> Nat) (e sz n : Nat) (cs : List FV) : (Blk.arr e sz n (cs.map .f)).ren σ = .arr e sz n (cs.map .f) := by
 show Blk.arr e sz n ((cs.map .f).map (AV.ren σ)) = _
 rw [List.map_map]; rfl
theorem repL_of {w : World} {M : Nat -> Prop} (vs : List Value) : RepL w M vs (vs.map FV.v) := ⟨by simp, fun i u x h1 h2 => by
 rw [List.getElem?_map, h1] at h2; cases h2; exact .v u⟩
theorem sortG {P : Program} {G : Nat -> Option FV} {ρ : Ren} (L : SlLaysF0.n6 P ρ) (aE : ∀ w, (isAgg (ρ.t 24)).run P w = .ok true w) (zE : ∀ w, (Go.sizeOf (ρ.t 24)).run P w = .ok k w) (hk : ∀ x, (enc x).length = k) (h0 : 0 < k) (h1 : ∀ x, ∀ v ∈ enc x, v.oneCell' = true) (cf : α -> α -> Int) (hO : SWO (ltOf cf)) (g : Nat)
 (eg : ∀ args w, (callFunc g args).run P w = .ok (.enter g args) w) (hcmp : ∀ (x y : α) (W : World), Calls P g #[.agg (enc x).toArray, .agg (enc y).toArray] W fun e w' => e = .returned (.int .i64 (cf x y)) /\ ∃ q os', w' = grow (W.drewN q) os')
 (hnone : ∀ (p : Option Addr) (cap : Nat) (fv : Value) (w : World), Calls P (ρ.f 6) #[.slice p 0 cap, fv] w fun e w' => e = .returned (.tuple #[]) /\ w' = w) (hent : Enters P (ρ.f 6)) (d : List α) (hd : d.length < 4611686018427387904) (T : TypeId) {n : Nat} (hn : n = d.length) {cs cs' : List FV} (hcs : (d.flatMap enc).map FV.v = cs) (hcs' : ((sortL cf d).flatMap enc).map FV.v = cs') :
 SummG P G (ρ.f 6) [.arr T k n (cs.map .f)] [.ow 0, .f (.fn g [])] (.f (.tup [])) [.arr T k n (cs'.map .f)] := by
 subst hn; subst hcs; subst hcs'
 refine ⟨hent, Nat.le_refl _, fun i B B' h1 h2 => by
  rcases i with _ | i
  · cases h1; cases h2; rfl
  · simp at h1, fun w M X us J hX hM hG hA hL => ?_⟩
 obtain ⟨v0, v1, rfl⟩ : ∃ v0 v1, us = [v0, v1] := by
  obtain ⟨e, _⟩ := hA
  match us, e with
  | [a, b], _ => exact ⟨a, b, rfl⟩
 obtain ⟨-, hv0⟩ : _ /\ v0 = J 0 := hA.2 0 v0 (.ow 0) rfl rfl
 have hv1 : RepF w _ v1 (.fn g []) := hA.2 1 v1 (.f (.fn g [])) rfl rfl
 obtain rfl : v1 = .func (.func g) #[] #[] := by
  cases hv1 with
  | fn _ _ us h1 _ => cases us with
    | nil => rfl
    | cons => cases h1
 subst hv0
 obtain ⟨xs, hrow, hbk, hone, hrep⟩ := hL.blk 0 _ rfl
 have exs := repL_v (repL_ofA hrep)
 subst exs
 have hlen := sortL_len hO d
 obtain ⟨-, ⟨ev, en⟩ | ⟨b, cap, cur, ev, -, hb, hcap, hmax, hsz, htk⟩⟩ := hrow
 · have ed : d = [] := List.eq_nil_of_length_eq_zero en
   rw [ev]
   refine (hnone none 0 (.func (.func g) #[] #[]) w).mono ?_
   rintro e w' ⟨rfl, rfl⟩
   refine ⟨_, J, rfl, RepF.tup [] [] rfl (fun k u x h => by simp at h), ⟨fun i B hB => ?_, fun i j _ hi hj _ _ => by simp at hi hj; omega⟩, Grew.refl _ _, fun i B hB hs => rfl⟩
   rcases i with _ | i
   · cases hB
     have hr : w'.ownsRow 0 T k (J 0) d.length [] := ⟨by rw [ed]; simp, .inl ⟨ev, en⟩⟩
     have hl : RepL w' (Mb (cxG P G M X [Blk.arr T k d.length (List.map AV.f (List.map FV.v (List.flatMap enc d)))] J) (blkL [Blk.arr T k d.length (List.map AV.f (List.map FV.v (List.flatMap enc (sortL cf d))))]) J) [] (List.map FV.v (List.flatMap enc (sortL cf d))) := by
      have e0 : sortL cf d = [] := by rw [ed]; exact sortL_nil hO
      rw [e0]; exact RepL.nil _ _
     exact ⟨[], hr, hbk, (fun u hu => by simp at hu), repA_ofL hl⟩
   · cases hB
 · have hXb : X b := (hX b).2 ⟨0, by simp, by rw [ev]; rfl⟩
   have hbw : b < w.heap.size := (Array.getElem?_eq_some_iff.1 hb).1
   have hfl := flatK_list hk h0 d
   have hH : HoldsK enc k w b 0 d.toArray := by
    intro j hj
    have hj' : j < d.length * k := by simpa using hj
    have hc : cur[j]? = some ((flatK enc k d.toArray)[j]!) := by
     have h2 : (cur.toList.take (d.length * k))[j]? = (flatK enc k d.toArray).toList[j]? := by rw [htk, hfl]
     rw [List.getElem?_take, if_pos hj'] at h2
     rw [<- Array.getElem?_toList, h2, Array.getElem?_toList, Array.getElem?_eq_getElem (by simpa using hj'), getElem!_pos _ _ (by simpa using hj')]
    refine ⟨?_, ?_⟩
    · unfold World.cell?
      simp only [hb]
      simpa using hc
    · unfold World.frozen?
      simp only [hb]
      simp
   have hS := AnyQ.slices_SortFunc_eq L k aE zE enc hk h1 cf hO g #[] b 0 cap d.toArray w eg (fun m os dk _ x y => by simpa using hcmp x y _) hH hbw (by simpa using hd)
   rw [ev]
   have e0 : d.toArray.size = d.length := by simp
   rw [e0] at hS
   refine hS.mono ?_
   rintro e w' ⟨rfl, m, os, rfl⟩
   obtain ⟨F, hF⟩ : ∃ F, F = flatK enc k (sortL cf d).toArray := ⟨_, rfl⟩
   have hFl : F.toList = (sortL cf d).flatMap enc := by rw [hF]; exact flatK_list hk h0 _
   have hFs : F.size = d.length * k := by rw [hF]; simp [hlen]
   have hw : sortWorldK enc k w b 0 m (pdq (ltOf cf) d.toArray 0 d.length (Lib.bitLen d.length) true true) os = grow (putRow id (Sort.ahead w m) b 0 F) os := by rw [hF]; unfold sortWorldK putRowK sortL; rfl
   rw [hw]
   have hsize : (putRow id (Sort.ahead w m) b 0 F).heap.size = w.heap.size := by simp [putRow, mapBlock, Sort.ahead]
   have hat : ∀ i, i < w.heap.size -> (grow (putRow id (Sort.ahead w m) b 0 F) os).heap[i]? = if b = i then (w.heap[i]?).map (onCells (putCells id 0 F)) else w.heap[i]? := fun i hi => by
    show ((putRow id (Sort.ahead w m) b 0 F).heap ++ os)[i]? = _
    rw [Array.getElem?_append_left (by rw [hsize]; exact hi)]
    simp only [putRow, mapBlock, Sort.ahead, Array.getElem?_modify]
   have hpc : (putCells id 0 F cur).toList.take (d.length * k) = (sortL cf d).flatMap enc := by
    rw [<- hFl]
    apply List.ext_getElem?
    intro j
    rw [List.getElem?_take]
    by_cases hj : j < d.length * k
    · rw [if_pos hj, Array.getElem?_toList, Array.getElem?_toList, putCells, Array.getElem?_mapIdx]
      have hcu : j < cur.size := by rw [hsz]; exact Nat.lt_of_lt_of_le hj (Nat.mul_le_mul_right _ hcap)
      rw [Array.getElem?_eq_getElem hcu, Array.getElem?_eq_getElem (by rw [hFs]; exact hj)]
      simp [hFs, hj]
    · rw [if_neg hj, Array.getElem?_toList, Array.getElem?_eq_none (by omega)]
   have hnew : (grow (putRow id (Sort.ahead w m) b 0 F) os).heap[b]? = some (.cells (putCells id 0 F cur) T (0, 0)) := by
    rw [hat b hbw, if_pos rfl, hb]; rfl
   refine ⟨_, J, rfl, RepF.tup [] [] rfl (fun k u x h => by simp at h), ⟨fun i B hB => ?_, fun i j _ hi hj _ _ => by simp at hi hj; omega⟩, ⟨rfl, rfl, rfl, ?_, fun i hi hx => ?_⟩, fun i B hB hs => rfl⟩
   · rcases i with _ | i
     · cases hB
       refine ⟨(sortL cf d).flatMap enc, ⟨by rw [fk_len hk, hlen], .inr ⟨b, cap, putCells id 0 F cur, ev, Nat.zero_le _, hnew, hcap, hmax, by simp [putCells, hsz], hpc⟩⟩, hbk, fun u hu => ?_, repA_ofL (repL_of _)⟩
       obtain ⟨x, _, hx⟩ := List.mem_flatMap.1 hu
       exact h1 x u hx
     · cases hB
   · show _ <= ((putRow id (Sort.ahead w m) b 0 F).heap ++ os).size
     rw [Array.size_append, hsize]; omega
   · rw [hat i hi, if_neg (fun (e : b = i) => hx (e ▸ hXb))]
end
end Go.Ab
namespace Go.Proofs.YtbkdjlahhcofmaaGreatDoor
open Go.Proofs Go.Shelf
def sortR_ren : Go.Shelf.Ren := ⟨fun | 6 => 297 | 15 => 259 | 14 => 376 | 28 => 328 | 29 => 329 | 20 => 420 | 21 => 421 | 22 => 422 | 23 => 423 | 24 => 424 | 25 => 425 | 26 => 426 | 27 => 427 | 46 => 454 | 47 => 396 | 48 => 397 | 49 => 455 | 50 => 456 | 57 => 463 | n => n, fun | 22 => 70 | 24 => 34 | 25 => 353 | 3 => 3 | 39 => 384 | 0 => 0 | 53 => 453 | 55 => 455 | 4 => 4 | 46 => 447 | 45 => 446 | 50 => 256 | 5 => 5 | 9 => 9 | 66 => 501 | 70 => 196 | 76 => 535 | 77 => 229 | n => n, fun | n => n⟩
theorem sortR : Go.Proofs.SlLaysF0.n6 Tryz.prog sortR_ren := {
 mixed := by kernel_rfl
 f6 := ⟨Tryz.f297.name, by decide, Tryz.func297.trans (congrArg some (by kernel_rfl))⟩
 f14 := ⟨Tryz.f376.name, by decide, Tryz.func376.trans (congrArg some (by kernel_rfl))⟩
 f15 := Tryz.func259.trans (congrArg some (by kernel_rfl))
 f20 := ⟨Tryz.f420.name, by decide, Tryz.func420.trans (congrArg some (by kernel_rfl))⟩
 f21 := ⟨Tryz.f421.name, by decide, Tryz.func421.trans (congrArg some (by kernel_rfl))⟩
 f22 := ⟨Tryz.f422.name, by decide, Tryz.func422.trans (congrArg some (by kernel_rfl))⟩
 f23 := ⟨Tryz.f423.name, by decide, Tryz.func423.trans (congrArg some (by kernel_rfl))⟩
 f24 := ⟨Tryz.f424.name, by decide, Tryz.func424.trans (congrArg some (by kernel_rfl))⟩
 f25 := ⟨Tryz.f425.name, by decide, Tryz.func425.trans (congrArg some (by kernel_rfl))⟩
 f26 := ⟨Tryz.f426.name, by decide, Tryz.func426.trans (congrArg some (by kernel_rfl))⟩
 f27 := ⟨Tryz.f427.name, by decide, Tryz.func427.trans (congrArg some (by kernel_rfl))⟩
 f28 := Tryz.func328.trans (congrArg some (by kernel_rfl))
 f29 := Tryz.func329.trans (congrArg some (by kernel_rfl))
 f46 := ⟨Tryz.f454.name, by decide, Tryz.func454.trans (congrArg some (by kernel_rfl))⟩
 f47 := Tryz.func396.trans (congrArg some (by kernel_rfl))
 f48 := Tryz.func397.trans (congrArg some (by kernel_rfl))
 f49 := ⟨Tryz.f455.name, by decide, Tryz.func455.trans (congrArg some (by kernel_rfl))⟩
 f50 := ⟨Tryz.f456.name, by decide, Tryz.func456.trans (congrArg some (by kernel_rfl))⟩
 f57 := ⟨Tryz.f463.name, by decide, Tryz.func463.trans (congrArg some (by kernel_rfl))⟩
 t0 := Tryz.underlying0
 a0 := Tryz.isAgg0
 z0 := Tryz.sizeOf0
 v0 := Tryz.zeroValue0
 t3 := Tryz.underlying3
 a3 := Tryz.isAgg3
 z3 := Tryz.sizeOf3
 v3 := Tryz.zeroValue3
 t4 := Tryz.underlying4
 a4 := Tryz.isAgg4
 z4 := Tryz.sizeOf4
 v4 := Tryz.zeroValue4
 t5 := Tryz.underlying5
 a5 := Tryz.isAgg5
 z5 := Tryz.sizeOf5
 v5 := Tryz.zeroValue5
 t9 := Tryz.underlying9
 a9 := Tryz.isAgg9
 z9 := Tryz.sizeOf9
 v9 := Tryz.zeroValue9
 t22 := Tryz.underlying70
 a22 := Tryz.isAgg70
 z22 := Tryz.sizeOf70
 v22 := Tryz.zeroValue70
 t25 := Tryz.underlying353
 a25 := Tryz.isAgg353
 z25 := Tryz.sizeOf353
 v25 := Tryz.zeroValue353
 t39 := Tryz.underlying384
 a39 := Tryz.isAgg384
 z39 := Tryz.sizeOf384
 v39 := Tryz.zeroValue384
 t45 := Tryz.underlying446
 a45 := Tryz.isAgg446
 z45 := Tryz.sizeOf446
 v45 := Tryz.zeroValue446
 t46 := Tryz.underlying447
 a46 := Tryz.isAgg447
 z46 := Tryz.sizeOf447
 v46 := Tryz.zeroValue447
 t50 := Tryz.underlying256
 a50 := Tryz.isAgg256
 z50 := Tryz.sizeOf256
 v50 := Tryz.zeroValue256
 t53 := Tryz.underlying453
 a53 := Tryz.isAgg453
 z53 := Tryz.sizeOf453
 v53 := Tryz.zeroValue453
 t55 := Tryz.underlying455
 a55 := Tryz.isAgg455
 z55 := Tryz.sizeOf455
 v55 := Tryz.zeroValue455
 t66 := Tryz.underlying501
 a66 := Tryz.isAgg501
 z66 := Tryz.sizeOf501
 v66 := Tryz.zeroValue501
 t70 := Tryz.underlying196
 a70 := Tryz.isAgg196
 z70 := Tryz.sizeOf196
 v70 := Tryz.zeroValue196
 t76 := Tryz.underlying535
 a76 := Tryz.isAgg535
 z76 := Tryz.sizeOf535
 v76 := Tryz.zeroValue535
 t77 := Tryz.underlying229
 a77 := Tryz.isAgg229
 z77 := Tryz.sizeOf229
 v77 := Tryz.zeroValue229 }
def sortH_ren : Go.Shelf.Ren := ⟨fun | 6 => 220 | 15 => 259 | 14 => 291 | 28 => 328 | 29 => 329 | 20 => 365 | 21 => 366 | 22 => 367 | 23 => 368 | 24 => 369 | 25 => 370 | 26 => 371 | 27 => 372 | 46 => 416 | 47 => 396 | 48 => 397 | 49 => 417 | 50 => 418 | 57 => 453 | n => n, fun | 22 => 28 | 24 => 50 | 25 => 346 | 3 => 3 | 39 => 384 | 0 => 0 | 53 => 453 | 55 => 455 | 4 => 4 | 46 => 447 | 45 => 446 | 50 => 256 | 5 => 5 | 9 => 9 | 66 => 501 | 70 => 196 | 76 => 535 | 77 => 229 | n => n, fun | n => n⟩
theorem sortH : Go.Proofs.SlLaysF0.n6 Tryz.prog sortH_ren := {
 mixed := by kernel_rfl
 f6 := ⟨Tryz.f220.name, by decide, Tryz.func220.trans (congrArg some (by kernel_rfl))⟩
 f14 := ⟨Tryz.f291.name, by decide, Tryz.func291.trans (congrArg some (by kernel_rfl))⟩
 f15 := Tryz.func259.trans (congrArg some (by kernel_rfl))
 f20 := ⟨Tryz.f365.name, by decide, Tryz.func365.trans (congrArg some (by kernel_rfl))⟩
 f21 := ⟨Tryz.f366.name, by decide, Tryz.func366.trans (congrArg some (by kernel_rfl))⟩
 f22 := ⟨Tryz.f367.name, by decide, Tryz.func367.trans (congrArg some (by kernel_rfl))⟩
 f23 := ⟨Tryz.f368.name, by decide, Tryz.func368.trans (congrArg some (by kernel_rfl))⟩
 f24 := ⟨Tryz.f369.name, by decide, Tryz.func369.trans (congrArg some (by kernel_rfl))⟩
 f25 := ⟨Tryz.f370.name, by decide, Tryz.func370.trans (congrArg some (by kernel_rfl))⟩
 f26 := ⟨Tryz.f371.name, by decide, Tryz.func371.trans (congrArg some (by kernel_rfl))⟩
 f27 := ⟨Tryz.f372.name, by decide, Tryz.func372.trans (congrArg some (by kernel_rfl))⟩
 f28 := Tryz.func328.trans (congrArg some (by kernel_rfl))
 f29 := Tryz.func329.trans (congrArg some (by kernel_rfl))
 f46 := ⟨Tryz.f416.name, by decide, Tryz.func416.trans (congrArg some (by kernel_rfl))⟩
 f47 := Tryz.func396.trans (congrArg some (by kernel_rfl))
 f48 := Tryz.func397.trans (congrArg some (by kernel_rfl))
 f49 := ⟨Tryz.f417.name, by decide, Tryz.func417.trans (congrArg some (by kernel_rfl))⟩
 f50 := ⟨Tryz.f418.name, by decide, Tryz.func418.trans (congrArg some (by kernel_rfl))⟩
 f57 := ⟨Tryz.f453.name, by decide, Tryz.func453.trans (congrArg some (by kernel_rfl))⟩
 t0 := Tryz.underlying0
 a0 := Tryz.isAgg0
 z0 := Tryz.sizeOf0
 v0 := Tryz.zeroValue0
 t3 := Tryz.underlying3
 a3 := Tryz.isAgg3
 z3 := Tryz.sizeOf3
 v3 := Tryz.zeroValue3
 t4 := Tryz.underlying4
 a4 := Tryz.isAgg4
 z4 := Tryz.sizeOf4
 v4 := Tryz.zeroValue4
 t5 := Tryz.underlying5
 a5 := Tryz.isAgg5
 z5 := Tryz.sizeOf5
 v5 := Tryz.zeroValue5
 t9 := Tryz.underlying9
 a9 := Tryz.isAgg9
 z9 := Tryz.sizeOf9
 v9 := Tryz.zeroValue9
 t22 := Tryz.underlying28
 a22 := Tryz.isAgg28
 z22 := Tryz.sizeOf28
 v22 := Tryz.zeroValue28
 t25 := Tryz.underlying346
 a25 := Tryz.isAgg346
 z25 := Tryz.sizeOf346
 v25 := Tryz.zeroValue346
 t39 := Tryz.underlying384
 a39 := Tryz.isAgg384
 z39 := Tryz.sizeOf384
 v39 := Tryz.zeroValue384
 t45 := Tryz.underlying446
 a45 := Tryz.isAgg446
 z45 := Tryz.sizeOf446
 v45 := Tryz.zeroValue446
 t46 := Tryz.underlying447
 a46 := Tryz.isAgg447
 z46 := Tryz.sizeOf447
 v46 := Tryz.zeroValue447
 t50 := Tryz.underlying256
 a50 := Tryz.isAgg256
 z50 := Tryz.sizeOf256
 v50 := Tryz.zeroValue256
 t53 := Tryz.underlying453
 a53 := Tryz.isAgg453
 z53 := Tryz.sizeOf453
 v53 := Tryz.zeroValue453
 t55 := Tryz.underlying455
 a55 := Tryz.isAgg455
 z55 := Tryz.sizeOf455
 v55 := Tryz.zeroValue455
 t66 := Tryz.underlying501
 a66 := Tryz.isAgg501
 z66 := Tryz.sizeOf501
 v66 := Tryz.zeroValue501
 t70 := Tryz.underlying196
 a70 := Tryz.isAgg196
 z70 := Tryz.sizeOf196
 v70 := Tryz.zeroValue196
 t76 := Tryz.underlying535
 a76 := Tryz.isAgg535
 z76 := Tryz.sizeOf535
 v76 := Tryz.zeroValue535
 t77 := Tryz.underlying229
 a77 := Tryz.isAgg229
 z77 := Tryz.sizeOf229
 v77 := Tryz.zeroValue229 }
open Go Go.RowKit Go.Proofs Go.Shelf Go.Ab Go.Sort
attribute [local go_sem] Oper.semAt_some
def encRng (r : Rng) : Array Value := #[.agg #[.int .i64 r.lo, .int .i64 r.hi]]
structure tValRd (Bx ox : Nat) (la : Option Addr) (lc : Nat) (L : List Rng) (w : World) : Prop where
 c0 : w.cell? ⟨Bx, ox, none⟩ = some (.slice la L.length lc)
 at_ : ∀ (j : Nat) (hj : j < L.length), ∃ b o, la = some ⟨b, o, none⟩ /\ w.cell? ⟨b, o + j * 2, none⟩ = some (.int .i64 L[j].lo) /\ w.cell? ⟨b, o + j * 2 + 1, none⟩ = some (.int .i64 L[j].hi)
set_option maxRecDepth 100000 in
set_option maxHeartbeats 2000000 in
theorem values_seqR (Bx ox : Nat) (la : Option Addr) (lc : Nat) (L : List Rng) (h60 : L.length < 1000000) : SeqL Tryz.prog 298 #[.pointer (some ⟨Bx, ox, none⟩)] encRng L (tValRd Bx ox la lc L) := by
 intro l J Jx W hJ hJx hRd hY h0
 have HJ := Lib.hid hJ
 have HY := Lib.hid hY
 have HRD := Lib.hid hRd
 have H0 := Lib.hid h0
 have c0 := (hRd 0 W h0).c0
 clear hJ hJx hY hRd h0
 refine callsIn_of_wp Tryz.func298 rfl trivial ?_ rfl
 simp only [Tryz.ntmps298, List.size_toArray, List.length_cons, List.length_nil, Nat.reduceAdd, Nat.reduceSub, Array.replicate_succ, Array.replicate_zero, List.push_toArray, List.append_toArray, List.nil_append, List.cons_append]
 gi_wp2
 clear c0
 gi_loopw [7] (fun i wr => ∃ k : Nat, k <= L.length /\ i = .int .i64 k /\ Hid (J k wr)) (fun i _ => L.length - (intOf i).toNat)
 case atStart => exact ⟨0, Nat.zero_le _, rfl, H0⟩
 case round =>
  obtain ⟨k, hk, rfl, Hj⟩ := hrel
  by_cases hlt : k < L.length
  · obtain ⟨b, o, rfl, e0, e1⟩ := (HRD.out _ wr Hj.out).at_ k hlt
    have Hj2 : Hid (J k (wr.alloc (.cells #[.int .i64 L[k].lo, .int .i64 L[k].hi] 34))) := Lib.hid (HJ.out _ _ _ (Ext.alloc _ _) Hj.out)
    have HYk := HY.out _ hlt _ Hj2.out
    rw [encRng] at HYk
    obtain ⟨fn, tmps, assign, body, hy, hR⟩ := HYk
    replace hR := Lib.hid hR
    gi_wp2
    refine hR.out.mono ?_
    rintro e W' (⟨rfl, hJ'⟩ | ⟨rfl, hJx'⟩)
    · have Hj3 := Lib.hid hJ'
      clear hJ' hy
      gi_wp2
      go_roundw
      case rel => exact ⟨k + 1, by omega, by go_num, Hj3⟩
      case measure => simp [intOf]; omega
    · have Hx3 := Lib.hid hJx'
      clear hJx' hy
      gi_wp2
      refine bodyPost_ret (results_none rfl _ _ _) rfl ?_
      exact ⟨⟨_, rfl⟩, .inr ⟨_, hlt, Hx3.out⟩⟩
  · have HE : Hid (J L.length wr) := Lib.hid (by have := Hj.out; rwa [show k = L.length by omega] at this)
    gi_wp2
    refine bodyPost_end (results_none rfl _ _ _) rfl ?_
    exact ⟨⟨_, rfl⟩, .inl HE.out⟩
theorem values_SR (L : List Rng) (h60 : L.length < 1000000) : SeqS Tryz.prog GG 298 [.pt [.sl L.length (rngsF L)] 0] encRng L := by
 refine ⟨enters_of Tryz.func298 (by kernel_rfl) rfl, fun w M us hM hG R => ?_⟩
 obtain ⟨u2, us2, rfl, r2, R2⟩ := R.head
 have := R2.end; subst this
 cases r2 with
 | pt Bx ox _ _ gv g1 g2 g3 g4 =>
 obtain ⟨v0, rfl⟩ : ∃ v0, gv = [v0] := by
  match gv, g1 with
  | [a], _ => exact ⟨a, rfl⟩
 have r0 := g4 0 v0 (.sl L.length (rngsF L)) rfl rfl
 cases r0 with
 | sl a n c cs us q1 q2 q3 q4 q5 =>
 have eu : us = L.flatMap fun x => [.int .i64 x.lo, .int .i64 x.hi] := repL_v (w := w) (M := M) (by
  have : rngsF L = (L.flatMap fun x => [Value.int .i64 x.lo, .int .i64 x.hi]).map FV.v := by
   unfold rngsF; rw [List.map_flatMap]; rfl
  rw [<- this]; exact ⟨q2, q5⟩)
 intro l J Jx W hJ hJx hRd hY h0
 refine values_seqR Bx ox a c L h60 l J Jx W hJ hJx (fun k A hA => ?_) hY h0
 obtain ⟨hs, hk⟩ := hRd k A hA
 have lg := g3.mono (M' := M) hk hs (fun _ _ h => h)
 refine ⟨lies_cell (k := 0) lg rfl, fun j hj => ?_⟩
 have hl : us.length = L.length * 2 := by rw [q2, rngsF_len]
 obtain ⟨b, o, ea, li⟩ := q4 (by intro e; rw [e] at hl; simp at hl; omega)
 have lb := li.mono (M' := M) hk hs (fun _ _ h => h)
 have hat : ∀ t, t < 2 -> us[j * 2 + t]? = [Value.int .i64 L[j].lo, .int .i64 L[j].hi][t]? := fun t ht => by
  rw [eu, Go.Ab.fk_get (k := 2) (fun _ => rfl) (by decide), show (j * 2 + t) / 2 = j by omega, show (j * 2 + t) % 2 = t by omega, List.getElem?_eq_getElem hj]; rfl
 exact ⟨b, o, ea, lies_cell lb (hat 0 (by decide)), by rw [Nat.add_assoc]; exact lies_cell lb (hat 1 (by decide))⟩
def clB (z : Int) : Int := max (-1152921504606846976) (min z 1152921504606846976)
theorem clB_id {z : Int} (h : -1152921504606846976 <= z) (h' : z <= 1152921504606846976) : clB z = z := by unfold clB; omega
def encLo (r : Rng) : List Value := [.int .i64 (clB r.lo), .int .i64 r.hi]
def cfLo (x y : Rng) : Int := clB x.lo - clB y.lo
theorem ltLo (x y : Rng) : ltOf cfLo x y = decide (clB x.lo < clB y.lo) := by
 unfold ltOf cfLo
 exact decide_eq_decide.2 (by omega)
theorem swoLo : SWO (ltOf cfLo) where
 irrefl x := by rw [ltLo]; simp
 trans x y z h1 h2 := by
  rw [ltLo] at *
  have a := of_decide_eq_true h1
  have b := of_decide_eq_true h2
  exact decide_eq_true (by omega)
 ntrans x y z h1 h2 := by
  rw [ltLo] at *
  have a := of_decide_eq_false h1
  have b := of_decide_eq_false h2
  exact decide_eq_false (by omega)
def sortRng (l : List Rng) : List Rng := sortL cfLo l
theorem sortRng_perm (l : List Rng) : (sortRng l).Perm l := sortL_perm swoLo l
theorem sortRng_len (l : List Rng) : (sortRng l).length = l.length := sortL_len swoLo l
def LoOk (l : List Rng) : Prop := ∀ r, r ∈ l -> -1152921504606846976 <= r.lo /\ r.lo <= 1152921504606846976
theorem sortRng_pw (l : List Rng) (h : LoOk l) : (sortRng l).Pairwise fun x y => x.lo <= y.lo := by
 refine (sortL_pw swoLo l).imp_of_mem fun {x y} hx hy hxy => ?_
 have bx := h x ((sortRng_perm l).mem_iff.1 hx)
 have by' := h y ((sortRng_perm l).mem_iff.1 hy)
 unfold cfLo at hxy
 rw [clB_id bx.1 bx.2, clB_id by'.1 by'.2] at hxy
 omega
theorem encLo_F {l : List Rng} (h : LoOk l) : (l.flatMap encLo).map FV.v = rngsF l := by
 induction l with
 | nil => rfl
 | cons r l ih =>
   have hr := h r (List.mem_cons_self ..)
   rw [List.flatMap_cons, List.map_append, ih fun x hx => h x (List.mem_cons_of_mem _ hx), encLo, clB_id hr.1 hr.2]
   simp [rngsF, rngF, iv]
set_option maxHeartbeats 1000000 in
theorem cmpLo (x y : Rng) (W : World) : Calls Tryz.prog 228 #[.agg (encLo x).toArray, .agg (encLo y).toArray] W fun e w' => e = .returned (.int .i64 (cfLo x y)) /\ ∃ q os', w' = grow (W.drewN q) os' := by
 unfold encLo cfLo
 have b1 : -1152921504606846976 <= clB x.lo /\ clB x.lo <= 1152921504606846976 := by unfold clB; omega
 have b2 : -1152921504606846976 <= clB y.lo /\ clB y.lo <= 1152921504606846976 := by unfold clB; omega
 generalize clB x.lo = a at b1 ⊢
 generalize clB y.lo = b at b2 ⊢
 generalize x.hi = c
 generalize y.hi = d
 go_enter Tryz.func228, Tryz.ntmps228
 go_wp2
 go_ret
 exact ⟨rfl, 0, _, by rw [alloc_eq_grow, alloc_eq_grow, grow_grow]; rfl⟩
theorem sortFunc_s (l : List Rng) (hb : LoOk l) (h60 : l.length < 1000000) : SummG Tryz.prog GG 297 [.arr 34 2 l.length ((rngsF l).map .f)] [.ow 0, .f (.fn 228 [])] (.f (.tup [])) [.arr 34 2 l.length ((rngsF (sortRng l)).map .f)] :=
 sortG (ρ := sortR_ren) sortR Tryz.isAgg34 Tryz.sizeOf34 (enc := encLo) (k := 2) (fun _ => rfl) (by decide) (fun x v hv => by simp [encLo] at hv; rcases hv with rfl | rfl <;> rfl) cfLo swoLo 228 (enters_of Tryz.func228 (by kernel_rfl) rfl) cmpLo
  (fun pp cap fv w => AnyF.slices_SortFunc_none (P := Tryz.prog) (ρ := sortR_ren) { sortR with } pp cap fv w) (enters_of Tryz.func297 (by kernel_rfl) rfl) l (by omega) 34 rfl (encLo_F hb) (encLo_F fun r hr => hb r ((sortRng_perm l).mem_iff.1 hr))
end Go.Proofs.YtbkdjlahhcofmaaGreatDoor
namespace Go.Proofs.YtbkdjlahhcofmaaGreatDoor
open Go Go.RowKit Go.Proofs Go.Shelf Go.Ab
theorem rng_en (p : Rng) (w : World) (M : Nat -> Prop) : RepL w M (encRng p).toList [.agg (rngF p)] :=
 RepL.cons (RepF.agg (rngF p) [.int .i64 p.lo, .int .i64 p.hi] rfl (fun u hu => by simp at hu; rcases hu with rfl | rfl <;> rfl) (fun k u x h1 h2 => by
  match k, h1, h2 with
  | 0, h1, h2 => cases h1; cases h2; exact .v _
  | 1, h1, h2 => cases h1; cases h2; exact .v _)) (RepL.nil _ _)
theorem row_tkRng {L : List Rng} {k : Nat} (h : k < L.length) : some (Blk.row 34 2 ((L.take k).length + 1) (rngsF (L.take k) ++ rngF L[k])) = some (Blk.row 34 2 (L.take (k + 1)).length (rngsF (L.take (k + 1)))) := by
 rw [rngsF_tk h, List.take_succ_eq_append_getElem h, List.length_append]; rfl
set_option maxRecDepth 100000 in
set_option maxHeartbeats 1600000 in
theorem tappendSeq_g (L : List Rng) (h60 : L.length < 1000000) : SummG Tryz.prog GG 375 [] [.f (.v (.slice none 0 0)), .f (.fn 298 [.pt [.sl L.length (rngsF L)] 0])] (.ow 0) [.row 34 2 L.length (rngsF L)] := by
 refine summG_of Tryz.func375 rfl rfl 13 rfl (by simp) (by simp) (fun i B B' h1 h2 => by simp at h1) (fun M X J => ?_)
 repeat (first
 | (apply s_boxw; (iterate 4 exact rfl))
 | (apply s_a TY; exact rfl)
 | apply w_seq
 | apply w_region
 | apply s_nil
 | apply t_norm
 | apply w_block)
 apply w_gh (gh_ownB 0 0 34 2 rfl rfl rfl)
 refine w_range (s := (Ab.upd (Ab.upd (fun _ => .bot) 2 (.bx 0 0)) 6 (.f (.fn 298 [.pt [.sl L.length (rngsF L)] 0])))) ((values_SR L h60)) (fun k => (Ab.upd (Ab.upd (fun _ => none) 0 (some (.box [.ow 1]))) 1 (some (.row 34 2 (L.take k).length (rngsF (L.take k)))))) (fun (k : Nat) (p : Rng) => (Ab.upd (Ab.upd (Ab.upd (fun _ => none) 0 (some (.box [.ow 1]))) 1 (some (.row 34 2 (L.take k).length (rngsF (L.take k))))) 2 (some (.box [.f (iv p.lo), .f (iv p.hi)])))) (fun (k : Nat) (p : Rng) => (Ab.upd (Ab.upd (Ab.upd (fun _ => .bot) 2 (.bx 0 0)) 6 (.f (.fn 298 [.pt [.sl L.length (rngsF L)] 0]))) 5 (.bx 2 0))) 2 3 (fun i => i = 0) (fun p => [.agg (rngF p)]) (fun _ => True) (trivial) rfl (fun _ => rfl) (gh_le ⟨le_upd rfl trivial (le_upd rfl rfl (le_nil _)), le_hupd rfl trivial (le_hupd rfl (fun y hy => by simp at hy; subst hy; first | trivial | rfl) (le_h0 _ _))⟩) rfl (fun _ => rfl) (fun _ => rfl) (fun q hq => by simp at hq; subst hq; rfl) rng_en (kept_f (kept_x rfl (by simp) (kept_nil _ _))) (by rintro k i (rfl) <;> exact ⟨_, rfl, rfl⟩) (fun k p => ⟨le_nil _, le_hupd rfl trivial (le_hupd rfl (fun y hy => by simp at hy; subst hy; first | trivial | rfl) (le_h0 _ _))⟩) (fun k p => ⟨mo_upd rfl (mo_upd rfl (mo_nil)), mo_upd rfl (mo_upd rfl (mo_upd rfl (mo_nil)))⟩) ?_ ?_ ?_
 · intro k hkL X l p
   repeat (first
 | apply w_region
 | apply s_nil
 | apply t_norm
 | (apply s_alloc TY; exact rfl; exact rfl; exact rfl)
 | (apply s_store TY; (iterate 6 exact rfl)))
   exact gh_le ⟨le_upd rfl rfl (le_upd rfl trivial (le_upd rfl rfl (le_nil _))), le_hupd rfl (fun y hy => by simp at hy; rcases hy with rfl | rfl <;> first | trivial | rfl) (le_hupd rfl trivial (le_hupd rfl (fun y hy => by simp at hy; subst hy; first | trivial | rfl) (le_h0 _ _)))⟩
 · intro k hkL _ X l p
   have hlt : (L.take k).length = k := by rw [List.length_take]; omega
   repeat (first
 | (apply s_a TY; exact rfl)
 | apply w_region
 | apply s_nil
 | apply k_norm
 | apply w_block
 | (apply s_store TY; (iterate 6 exact rfl))
 | (apply s_append TY; (iterate 9 exact rfl); (unfold maxLen; omega); omega))
   exact ⟨trivial, gh_le ⟨le_nil _, le_hupd (row_tkRng hkL) trivial (le_hupd rfl (fun y hy => by simp at hy; subst hy; first | trivial | rfl) (le_h0 _ _))⟩⟩
 intro _
 rw [List.take_length]
 repeat (first
 | (apply s_a TY; exact rfl)
 | apply w_seq
 | apply w_region
 | apply s_nil
 | apply t_norm
 | apply k_norm
 | apply w_ret)
 exact lvG_ret (gh_one 1 4 rfl rfl) (rg1 rfl (rv_tmp rfl))
set_option maxRecDepth 100000 in
theorem tcollect_g (L : List Rng) (h60 : L.length < 1000000) : SummG Tryz.prog GG 296 [] [.f (.fn 298 [.pt [.sl L.length (rngsF L)] 0])] (.ow 0) [.row 34 2 L.length (rngsF L)] := by
 refine summG_of Tryz.func296 rfl rfl 5 rfl (by simp) (by simp) (fun i B B' h1 h2 => by simp at h1) (fun M X J => ?_)
 repeat (first
 | (apply s_a TY; exact rfl)
 | apply w_seq
 | apply w_region
 | apply s_nil
 | apply t_norm
 | apply w_ret
 | (apply s_callG [] (tappendSeq_g L h60); exact rfl; exact rfl; exact rfl; exact trivial; exact rfl; (exact ⟨⟨rfl, rfl⟩, ⟨rfl, rfl⟩⟩)))
 exact lvG_ret (gh_one 0 2 rfl rfl) (rg1 rfl (rv_tmp rfl))
set_option maxRecDepth 100000 in
theorem sortedFunc_s (L : List Rng) (hb : LoOk L) (h60 : L.length < 1000000) : Summ Tryz.prog GG 226 [.fn 298 [.pt [.sl L.length (rngsF L)] 0], .fn 228 []] (.sl L.length (rngsF (sortRng L))) := by
 refine summW Tryz.func226 rfl rfl 12 rfl (by simp) (fun M0 => ?_)
 repeat (first
 | (refine s_ghost rfl (gh_arr 0 (cs := rngsF L) rfl rfl) ?_)
 | (apply s_callG [0] (sortFunc_s L hb h60); exact rfl; exact rfl; exact rfl; exact ⟨congrArg some (arr_ren _ _ _ _ _).symm, trivial⟩; exact rfl; exact ⟨rfl, rfl⟩)
 | (apply s_a TY; exact rfl)
 | apply w_seq
 | apply w_region
 | apply s_nil
 | apply t_norm
 | apply w_ret
 | (apply s_callG [] (tcollect_g L h60); exact rfl; exact rfl; exact rfl; exact trivial; exact rfl; (exact ⟨⟨rfl, rfl⟩, ⟨rfl, rfl⟩⟩)))
 exact lv_ret (ret_gh (gh_trans (gh_trans (b := _) (c := ⟨(Ab.upd (fun _ => .bot) 4 (.ow 0)), (Ab.upd (fun _ => none) 0 (some (.row 34 2 L.length (rngsF (sortRng L))))), 1⟩) (gh_unarr 0 (e := 34) (sz := 2) (n := L.length) (cs := rngsF (sortRng L)) (congrArg some (arr_ren _ _ _ _ _))) (gh_le ⟨le_upd rfl rfl (le_nil _), le_hupd rfl trivial (le_h0 _ _)⟩)) (gh_row 0 rfl)) (ret1 rfl (res_tmp rfl)))
def mrg (o : List Rng) (r : Rng) : List Rng := match o.getLast? with
 | some x => if r.lo <= x.hi + 1 then o.dropLast ++ [⟨x.lo, max x.hi r.hi⟩] else o ++ [r]
 | none => [r]
def mergeV (l : List Rng) : List Rng := l.foldl mrg []
def joinedV (l : List Rng) : List Rng := mergeV (sortRng l)
theorem mrg_nil (r : Rng) : mrg [] r = [r] := rfl
theorem mrg_snoc (pre : List Rng) (x r : Rng) : mrg (pre ++ [x]) r = if r.lo <= x.hi + 1 then pre ++ [⟨x.lo, max x.hi r.hi⟩] else pre ++ [x] ++ [r] := by
 unfold mrg; simp
theorem mrg_len (o : List Rng) (r : Rng) : (mrg o r).length <= o.length + 1 := by
 rcases List.eq_nil_or_concat o with rfl | ⟨pre, x, rfl⟩
 · simp [mrg_nil]
 · rw [List.concat_eq_append, mrg_snoc]; split <;> simp
def mgK (l : List Rng) (k : Nat) : List Rng := (l.take k).foldl mrg []
theorem mgK_succ {l : List Rng} {k : Nat} (h : k < l.length) : mgK l (k + 1) = mrg (mgK l k) l[k] := by
 unfold mgK; rw [List.take_succ_eq_append_getElem h, List.foldl_append]; rfl
theorem mgK_all (l : List Rng) : mgK l l.length = mergeV l := by unfold mgK mergeV; rw [List.take_length]
theorem mgK_len (l : List Rng) : ∀ k, (mgK l k).length <= k
 | 0 => by simp [mgK]
 | k + 1 => by
   by_cases h : k < l.length
   · rw [mgK_succ h]
     have := mrg_len (mgK l k) l[k]
     have := mgK_len l k
     omega
   · have : mgK l (k + 1) = mgK l k := by unfold mgK; rw [List.take_of_length_le (by omega), List.take_of_length_le (by omega)]
     rw [this]; have := mgK_len l k; omega
def HiOk (l : List Rng) : Prop := ∀ r, r ∈ l -> -1152921504606846976 <= r.hi /\ r.hi <= 1152921504606846976
theorem mrg_hi {o : List Rng} {r : Rng} (h : HiOk o) (hr : -1152921504606846976 <= r.hi /\ r.hi <= 1152921504606846976) : HiOk (mrg o r) := by
 rcases List.eq_nil_or_concat o with rfl | ⟨pre, x, rfl⟩
 · intro y hy; simp [mrg_nil] at hy; subst hy; exact hr
 · rw [List.concat_eq_append] at *
   have hx := h x (by simp)
   intro y hy
   rw [mrg_snoc] at hy
   split at hy
   · simp at hy
     rcases hy with hy | rfl
     · exact h y (by simp [hy])
     · show _ <= max x.hi r.hi /\ max x.hi r.hi <= _
       omega
   · simp at hy
     rcases hy with hy | rfl | rfl
     · exact h y (by simp [hy])
     · exact hx
     · exact hr
theorem mgK_hi {l : List Rng} (h : HiOk l) : ∀ k, HiOk (mgK l k)
 | 0 => fun r hr => by simp [mgK] at hr
 | k + 1 => by
   by_cases hk : k < l.length
   · rw [mgK_succ hk]; exact mrg_hi (mgK_hi h k) (h _ (List.getElem_mem hk))
   · have : mgK l (k + 1) = mgK l k := by unfold mgK; rw [List.take_of_length_le (by omega), List.take_of_length_le (by omega)]
     rw [this]; exact mgK_hi h k
set_option maxRecDepth 100000 in
theorem values_s (L : List Rng) : Summ Tryz.prog GG 227 [.sl L.length (rngsF L)] (.fn 298 [.pt [.sl L.length (rngsF L)] 0]) := by
 refine summW Tryz.func227 rfl rfl 4 rfl (by simp) (fun M0 => ?_)
 repeat (first
 | (apply s_a TY; exact rfl)
 | (apply s_makefn; exact rfl; exact rfl)
 | apply w_seq
 | apply w_region
 | apply s_nil
 | apply t_norm
 | apply w_ret)
 exact lv_ret (ret1 rfl (res_tmp rfl))
theorem rowR (a b : List Rng) (h : a = b) : some (Blk.row 34 2 a.length (rngsF a)) = some (Blk.row 34 2 b.length (rngsF b)) := by rw [h]
theorem rngs_setHi {L : List Rng} (pre : List Rng) (x : Rng) {o : Nat} (ho : o = pre.length) (z : Int) (h : L = pre ++ [⟨x.lo, z⟩]) : some (Blk.row 34 2 (pre.length + 1) (setAt (rngsF (pre ++ [x])) (o * 2 + 1) [iv z])) = some (Blk.row 34 2 L.length (rngsF L)) := by
 subst ho; subst h
 have : setAt (rngsF (pre ++ [x])) (pre.length * 2 + 1) [iv z] = rngsF (pre ++ [⟨x.lo, z⟩]) := by
  rw [rngsF_snoc, rngsF_snoc]
  show ((rngsF pre ++ rngF x).set (pre.length * 2 + 1) (iv z)) = _
  rw [List.set_append_right _ _ (by rw [rngsF_len]; omega), rngsF_len, show pre.length * 2 + 1 - pre.length * 2 = 1 by omega]
  rfl
 rw [this, List.length_append]; rfl
theorem row_app2 {L a : List Rng} {r : Rng} (h : L = a ++ [r]) : some (Blk.row 34 2 (a.length + 1) (rngsF a ++ rngF r)) = some (Blk.row 34 2 L.length (rngsF L)) := by
 rw [h, rngsF_snoc, List.length_append]; rfl
theorem row_app3 {L pre : List Rng} {x r : Rng} (h : L = pre ++ [x] ++ [r]) : some (Blk.row 34 2 (pre.length + 1 + 1) (rngsF (pre ++ [x]) ++ rngF r)) = some (Blk.row 34 2 L.length (rngsF L)) := by
 rw [h, rngsF_snoc (pre ++ [x]) r, List.length_append, List.length_append]; rfl
set_option maxRecDepth 100000 in
set_option maxHeartbeats 1600000 in
theorem joined_s (l : List Rng) (hb : LoOk l) (hh : HiOk l) (h60 : l.length < 1000000) : Summ Tryz.prog GG 121 [.sl l.length (rngsF l)] (.sl (joinedV l).length (rngsF (joinedV l))) := by
 have hsl := sortRng_len l
 have hlo : LoOk (sortRng l) := fun r hr => hb r ((sortRng_perm l).mem_iff.1 hr)
 have hhi : HiOk (sortRng l) := fun r hr => hh r ((sortRng_perm l).mem_iff.1 hr)
 have HS : Summ Tryz.prog GG 226 [.fn 298 [.pt [.sl l.length (rngsF l)] 0], .fn 228 []] (.sl (sortRng l).length (rngsF (sortRng l))) := by
  rw [hsl]; exact sortedFunc_s l hb h60
 refine summW Tryz.func121 rfl rfl 52 rfl (by simp) (fun M0 => ?_)
 repeat (first
 | (apply s_a TY; exact rfl)
 | apply w_seq
 | apply w_region
 | apply s_nil
 | apply t_norm
 | apply w_block
 | (apply s_k (values_s l); exact rfl)
 | (apply s_k (HS); exact rfl))
 apply w_gh (gh_own 3 34 2 rfl rfl)
 apply w_loop (fun k : Nat => ⟨(Ab.upd (Ab.upd (Ab.upd (Ab.upd (fun _ => .bot) 3 (.ow 0)) 10 (.f (.sl (sortRng l).length (rngsF (sortRng l))))) 11 (.f (iv (sortRng l).length))) 12 (.f (iv (k : Nat)))), (Ab.upd (fun _ => none) 0 (some (.row 34 2 (mgK (sortRng l) k).length (rngsF (mgK (sortRng l) k))))), 1⟩) (fun k => k <= (sortRng l).length) (fun k => (sortRng l).length - k) 0 (Nat.zero_le _) (gh_le ⟨le_upd rfl trivial (le_upd rfl trivial (le_upd rfl trivial (le_upd rfl rfl (le_nil _)))), le_hupd rfl trivial (le_h0 _ _)⟩)
 intro k hk
 by_cases hc : k < (sortRng l).length
 · have hs := mgK_succ hc
   have hlk := mgK_len (sortRng l) k
   have hhk := mgK_hi hhi k
   have h1 := hlo _ (List.getElem_mem hc)
   have h2 := hhi _ (List.getElem_mem hc)
   rcases List.eq_nil_or_concat (mgK (sortRng l) k) with e | ⟨pre, x, e⟩
   · rw [e, mrg_nil] at hs
     rw [e]
     have hn0 : ([] : List Rng).length = 0 := rfl
     repeat (first
 | (apply s_a TY; exact rfl)
 | (apply s_t; exact rfl; omega)
 | (apply s_f; exact rfl; omega)
 | apply w_seq
 | apply w_region
 | (apply w_draw (id := 7) 12 rfl (by kernel_rfl))
 | apply s_nil
 | apply t_norm
 | apply k_norm
 | apply w_block
 | apply w_skip
 | (apply w_condT; exact rfl; exact rfl)
 | (apply w_condF; exact rfl; exact rfl)
 | (apply s_s; exact rfl)
 | (apply s_c TY; exact rfl; (first | omega | exact ⟨by omega, by (((with_reducible apply rngsF_ne); omega))⟩))
 | (apply s_m TY; exact rfl; (((with_reducible apply rngsF_sub); omega)); exact rfl)
 | (apply s_alloc TY; exact rfl; exact rfl; exact rfl)
 | (apply s_store TY; (iterate 6 exact rfl))
 | (apply s_append TY; (iterate 9 exact rfl); (unfold maxLen; omega); omega))
     exact ⟨k + 1, by omega, by omega, gh_le ⟨le_upd rfl trivial (le_upd rfl trivial (le_upd rfl trivial (le_upd rfl rfl (le_nil _)))), le_hupd ((rowR _ _ hs).symm) trivial (le_h0 _ _)⟩⟩
   · rw [List.concat_eq_append] at e
     rw [e, mrg_snoc] at hs
     rw [e] at hlk hhk ⊢
     have h3 := hhk x (by simp)
     have hpl : (pre ++ [x]).length = pre.length + 1 := by simp
     have hat : (rngsF (pre ++ [x]))[(((pre.length + 1 : Nat) : Int) - 1).toNat * 2 + 1]? = some (iv x.hi) := by
      rw [show (((pre.length + 1 : Nat) : Int) - 1).toNat = pre.length by omega, rngsF_f1 (show pre.length < (pre ++ [x]).length by omega)]
      simp
     rw [hpl]
     by_cases hj : (sortRng l)[k].lo <= x.hi + 1
     · rw [if_pos hj] at hs
       have hrl : (rngsF (pre ++ [x])).length = (pre.length + 1) * 2 := by rw [rngsF_len, hpl]
       repeat (first
 | (apply s_storeR TY; (iterate 5 exact rfl); (show _ + 1 <= _; omega))
 | (apply s_a TY; exact rfl)
 | (apply s_t; exact rfl; (first | assumption | omega))
 | apply w_seq
 | apply w_region
 | (apply w_draw (id := 7) 12 rfl (by kernel_rfl))
 | (apply w_draw (id := 8) 12 rfl (by kernel_rfl))
 | apply s_nil
 | apply t_norm
 | apply t_exit
 | apply k_hit
 | apply w_block
 | apply w_exit
 | apply w_skip
 | (apply w_condT; exact rfl; exact rfl)
 | (apply s_c TY; exact rfl; (first | omega | exact ⟨by omega, by (((with_reducible apply rngsF_ne); omega))⟩))
 | (apply s_z TY; exact rfl; omega)
 | (apply s_m TY; exact rfl; (((with_reducible apply rngsF_sub); omega)); exact rfl)
 | (apply s_r TY; exact rfl; with_reducible assumption)
 | (apply s_alloc TY; exact rfl; exact rfl; exact rfl)
 | (apply s_store TY; (iterate 6 exact rfl)))
       exact ⟨k + 1, by omega, by omega, gh_le ⟨le_upd rfl trivial (le_upd rfl trivial (le_upd rfl trivial (le_upd rfl rfl (le_nil _)))), le_hupd ((rngs_setHi pre x (show (((pre.length + 1 : Nat) : Int) - 1).toNat = pre.length by omega) _ hs)) trivial (le_h0 _ _)⟩⟩
     · rw [if_neg hj] at hs
       repeat (first
 | (apply s_a TY; exact rfl)
 | (apply s_t; exact rfl; omega)
 | (apply s_f; exact rfl; assumption)
 | apply w_seq
 | apply w_region
 | (apply w_draw (id := 7) 12 rfl (by kernel_rfl))
 | apply s_nil
 | apply t_norm
 | apply k_norm
 | apply w_block
 | apply w_skip
 | (apply w_condT; exact rfl; exact rfl)
 | (apply w_condF; exact rfl; exact rfl)
 | (apply s_c TY; exact rfl; (first | omega | exact ⟨by omega, by (((with_reducible apply rngsF_ne); omega))⟩))
 | (apply s_z TY; exact rfl; omega)
 | (apply s_m TY; exact rfl; (((with_reducible apply rngsF_sub); omega)); exact rfl)
 | (apply s_r TY; exact rfl; with_reducible assumption)
 | (apply s_alloc TY; exact rfl; exact rfl; exact rfl)
 | (apply s_store TY; (iterate 6 exact rfl))
 | (apply s_append TY; (iterate 9 exact rfl); (unfold maxLen; omega); omega))
       exact ⟨k + 1, by omega, by omega, gh_le ⟨le_upd rfl trivial (le_upd rfl trivial (le_upd rfl trivial (le_upd rfl rfl (le_nil _)))), le_hupd (row_app3 hs) trivial (le_h0 _ _)⟩⟩
 · have hke : k = (sortRng l).length := by omega
   subst hke
   rw [mgK_all]
   repeat (first
 | (apply s_a TY; exact rfl)
 | (apply s_f; exact rfl; omega)
 | apply w_seq
 | apply w_region
 | apply s_nil
 | apply t_norm
 | apply t_exit
 | apply k_hit
 | apply w_exit
 | apply w_ret
 | (apply w_condF; exact rfl; exact rfl))
   exact lv_ret (ret_gh (gh_row 0 rfl) (ret1 rfl (res_tmp rfl)))
end Go.Proofs.YtbkdjlahhcofmaaGreatDoor
