/- Laws on which the proofs of this seat stand. No condition. -/
import Derived.Test.YtbkdjlahhcofmaaGreatDoorTpTrW4
import Derived.Shelf.Spec.SlicesGrow
import Derived.Shelf.SlSortCmp.NoneTotal
import Derived.Lib.SliceRun
namespace Go.Proofs.YtbkdjlahhcofmaaGreatDoor
open Go Go.RowKit Go.Proofs Go.Shelf Go.Ab
structure SetOk (s : Setup) : Prop where
 pos : 1 <= s.rules.length
 len : s.rules.length <= 4
 rule : ∀ k (hk : k < s.rules.length), ruleErr s.rules[k] = 0
 before : 0 <= s.before /\ s.before <= 1000000
 after : 0 <= s.after /\ s.after <= 1000000
 dead : 0 <= s.dead /\ s.dead <= 1000000
theorem setOk_of {s : Setup} (h : (setupChk s).2 = 0) : SetOk s := by
 have hn : ¬ s.rules.length = 0 := fun hn => by unfold setupChk at h; rw [if_pos hn] at h; cases h
 have h4 : ¬ 4 < s.rules.length := fun h3 => by unfold setupChk at h; rw [if_neg hn, if_pos h3] at h; cases h
 unfold setupChk at h
 rw [if_neg hn, if_neg h4] at h
 rcases eachE_cases s.rules.length (fun i => ruleErr (s.rules.getD i default)) with ⟨he, hz⟩ | ⟨q, _, _, hne, he⟩
 · rw [he] at h
   simp only [ne_eq, not_true_eq_false, if_false] at h
   by_cases hb : ¬ (0 <= s.before /\ s.before <= 1000000) \/ ¬ (0 <= s.after /\ s.after <= 1000000) \/ ¬ (0 <= s.dead /\ s.dead <= 1000000)
   · rw [if_pos hb] at h; cases h
   · exact ⟨by omega, by omega, fun k hk => by have := hz k hk; rwa [getD_at hk] at this, by omega, by omega, by omega⟩
 · rw [he, if_pos hne] at h; exact absurd h hne
theorem minA_mem {P : Int -> Prop} {acc : Option Int} {z e : Int} (ha : ∀ x, acc = some x -> P x) (hz : P z) (h : minA acc z = some e) : P e := by
 unfold minA at h
 split at h
 · cases h; exact hz
 · split at h
   · cases h; exact hz
   · cases h; exact ha _ rfl
theorem endA_mem {P : Int -> Prop} {h : List Hit} : ∀ {l : List Nat} {acc : Option Int} {e : Int}, (∀ x, acc = some x -> P x) -> (∀ k, k ∈ l -> P (h.getD k default).tm) -> endA h acc l = some e -> P e
 | [], _, e, ha, _, he => ha e he
 | k :: l, _, _, ha, hl, he => endA_mem (l := l) (fun _ hx => minA_mem ha (hl k (List.mem_cons_self ..)) hx) (fun q hq => hl q (List.mem_cons_of_mem _ hq)) he
theorem accW_mem {r : Rule} {h : List Hit} {a : Nat} (ha : a < h.length) : ∀ {q : Nat} {e : Int}, accW r h a q = some e -> ∃ k, k < h.length /\ e = (h.getD k default).tm
 | 0, e, he => by cases he
 | q + 1, e, he => endA_mem (P := fun e => ∃ k, k < h.length /\ e = (h.getD k default).tm) (fun x hx => accW_mem ha hx) (fun k hk => ⟨k, layL_lt ha hk, rfl⟩) he
theorem fireL_mem {nr : Hit -> Bool} {t0 w : Int} : ∀ {l : List Hit} {left e : Int}, fireL nr t0 w left l = some e -> ∃ x, x ∈ l /\ e = x.tm
 | [], _, _, h => by cases h
 | x :: l, left, e, h => by
   unfold fireL at h
   by_cases h1 : w < x.tm - t0
   · rw [if_pos h1] at h; cases h
   · rw [if_neg h1] at h
     generalize (if nr x = true then left - 1 else left) = lf at h
     by_cases h2 : lf = 0
     · rw [if_pos h2] at h; cases h; exact ⟨x, List.mem_cons_self .., rfl⟩
     · rw [if_neg h2] at h
       obtain ⟨y, hy, he⟩ := fireL_mem h
       exact ⟨y, List.mem_cons_of_mem _ hy, he⟩
theorem fireV_mem {l : List Site} {r : Rule} {h : List Hit} {a : Nat} {e : Int} (ha : a < h.length) (he : fireV l r h a = some e) : ∃ k, k < h.length /\ e = (h.getD k default).tm := by
 unfold fireV at he
 split at he
 · exact accW_mem ha he
 · obtain ⟨x, hx, e⟩ := fireL_mem he
   obtain ⟨k, hk, hkx⟩ := List.getElem_of_mem (List.mem_of_mem_drop hx)
   exact ⟨k, hk, by rw [e, getD_at hk, hkx]⟩
theorem firesV_mem {l : List Site} {r : Rule} {h : List Hit} {n : Nat} {f : Fire} (hf : f ∈ firesV l r h n) : ∃ i e, i < n /\ fireV l r h i = some e /\ f = ⟨i, (h.getD i default).tm, e⟩ := by
 unfold firesV at hf
 obtain ⟨i, hi, hm⟩ := List.mem_filterMap.1 hf
 cases he : fireV l r h i with
 | none => rw [he] at hm; cases hm
 | some e => rw [he] at hm; simp at hm; exact ⟨i, e, List.mem_range.1 hi, he, hm.symm⟩
theorem firesV_bd {l : List Site} {r : Rule} {h : List Hit} (ho : HitsOk l h) {n : Nat} (hn : n <= h.length) {f : Fire} (hf : f ∈ firesV l r h n) : (0 <= f.lo /\ f.lo <= 1000000000000) /\ (0 <= f.hi /\ f.hi <= 1000000000000) := by
 obtain ⟨i, e, hi, he, rfl⟩ := firesV_mem hf
 obtain ⟨k, hk, rfl⟩ := fireV_mem (by omega) he
 have a := (ho.hit i (by omega)).tm
 have b := (ho.hit k hk).tm
 rw [getD_at (show i < h.length by omega), getD_at hk]
 exact ⟨a, b⟩
def winF (s : Setup) (f : Fire) : Rng := ⟨f.lo - s.before, f.hi + s.after⟩
def winsR (l : List Site) (s : Setup) (h : List Hit) (r : Rule) : List Rng := (firesV l r h h.length).map (winF s)
def singleV (l : List Site) (s : Setup) (h : List Hit) : List Rng := s.rules.flatMap (winsR l s h)
def singK (l : List Site) (s : Setup) (h : List Hit) (k : Nat) : List Rng := (s.rules.take k).flatMap (winsR l s h)
theorem singK_succ {l : List Site} {s : Setup} {h : List Hit} {k : Nat} (hk : k < s.rules.length) : singK l s h (k + 1) = singK l s h k ++ winsR l s h s.rules[k] := by
 unfold singK; rw [List.take_succ_eq_append_getElem hk, List.flatMap_append]; simp
theorem winsR_len (l : List Site) (s : Setup) (h : List Hit) (r : Rule) : (winsR l s h r).length <= h.length := by
 unfold winsR; rw [List.length_map]; exact firesV_len l r h h.length
theorem singK_len (l : List Site) (s : Setup) (h : List Hit) : ∀ k, (singK l s h k).length <= k * h.length
 | 0 => by simp [singK]
 | k + 1 => by
   by_cases hk : k < s.rules.length
   · rw [singK_succ hk, List.length_append, Nat.add_mul]
     have := singK_len l s h k
     have := winsR_len l s h s.rules[k]
     omega
   · have : singK l s h (k + 1) = singK l s h k := by unfold singK; rw [List.take_of_length_le (by omega), List.take_of_length_le (by omega)]
     rw [this, Nat.add_mul]; have := singK_len l s h k; omega
theorem singK_all (l : List Site) (s : Setup) (h : List Hit) : singK l s h s.rules.length = singleV l s h := by unfold singK singleV; rw [List.take_length]
theorem singleV_bd {l : List Site} {s : Setup} {h : List Hit} (hs : SetOk s) (ho : HitsOk l h) {w : Rng} (hw : w ∈ singleV l s h) : (-1000000 <= w.lo /\ w.lo <= 1000000000000) /\ (0 <= w.hi /\ w.hi <= 1000001000000) := by
 obtain ⟨r, _, hr⟩ := List.mem_flatMap.1 hw
 obtain ⟨f, hf, rfl⟩ := List.mem_map.1 hr
 have := firesV_bd ho (Nat.le_refl _) hf
 have b := hs.before
 have c := hs.after
 unfold winF
 simp only
 omega
def hitsInN (h : List Hit) (w : Rng) (n : Nat) : List Int := natsL ((List.range n).filter fun i => withinB (h.getD i default).tm w.lo w.hi)
def hitsInV (h : List Hit) (w : Rng) : List Int := hitsInN h w h.length
theorem hitsInN_succ (h : List Hit) (w : Rng) (n : Nat) : hitsInN h w (n + 1) = hitsInN h w n ++ (if withinB (h.getD n default).tm w.lo w.hi = true then [(n : Int)] else []) := by
 unfold hitsInN natsL
 rw [List.range_succ, List.filter_append, List.map_append]
 congr 1
 cases e : withinB (h.getD n default).tm w.lo w.hi with
 | true => simp only [List.filter, e, if_true]; rfl
 | false => simp only [List.filter, e]; rfl
theorem hitsInN_len (h : List Hit) (w : Rng) (n : Nat) : (hitsInN h w n).length <= n := by
 unfold hitsInN natsL
 rw [List.length_map]
 exact Nat.le_trans (List.length_filter_le _ _) (by simp)
theorem rowI (a b : List Int) (h : a = b) : some (Blk.row 3 1 a.length (intsF a)) = some (Blk.row 3 1 b.length (intsF b)) := by rw [h]
theorem rowI_app {L a : List Int} {z : Int} (h : L = a ++ [z]) : some (Blk.row 3 1 (a.length + 1) (intsF a ++ [iv z])) = some (Blk.row 3 1 L.length (intsF L)) := by
 rw [h, intsF_snoc, List.length_append]; rfl
set_option maxRecDepth 100000 in
set_option maxHeartbeats 1600000 in
theorem hitsIn_s (h : List Hit) (w : Rng) (hh : h.length <= 1000000) : Summ Tryz.prog GG 120 [.sl h.length (hitsF h), .agg (rngF w)] (.sl (hitsInV h w).length (intsF (hitsInV h w))) := by
 unfold hitsInV
 refine summW Tryz.func120 rfl rfl 28 rfl (by simp) (fun M0 => ?_)
 repeat (first
 | (apply s_a TY; exact rfl)
 | apply w_seq
 | apply w_region
 | apply s_nil
 | apply t_norm
 | apply w_block)
 apply w_gh (gh_own 5 3 1 rfl rfl)
 apply w_loop (fun k : Nat => ⟨(Ab.upd (Ab.upd (Ab.upd (Ab.upd (Ab.upd (Ab.upd (fun _ => .bot) 0 (.f (.sl h.length (hitsF h)))) 3 (.f (.pt (rngF w) 0))) 5 (.ow 0)) 8 (.f (.sl h.length (hitsF h)))) 9 (.f (iv h.length))) 10 (.f (iv (k : Nat)))), (Ab.upd (fun _ => none) 0 (some (.row 3 1 (hitsInN h w k).length (intsF (hitsInN h w k))))), 1⟩) (fun k => k <= h.length) (fun k => h.length - k) 0 (Nat.zero_le _) (gh_le ⟨le_upd rfl trivial (le_upd rfl trivial (le_upd rfl trivial (le_upd rfl rfl (le_upd rfl trivial (le_upd rfl trivial (le_nil _)))))), le_hupd rfl trivial (le_h0 _ _)⟩)
 intro k hk
 have hln := hitsInN_len h w k
 by_cases hc : k < h.length
 · have hs := hitsInN_succ h w k
   have HW := twithin_s h[k].tm w.lo w.hi
   rw [getD_at hc] at hs
   cases hv : withinB h[k].tm w.lo w.hi with
   | true =>
     rw [hv] at hs HW
     rw [if_pos rfl] at hs
     repeat (first
 | (apply s_a TY; exact rfl)
 | (apply s_t; exact rfl; omega)
 | apply w_seq
 | apply w_region
 | apply s_nil
 | apply t_norm
 | apply k_norm
 | apply w_block
 | apply w_skip
 | (apply w_condT; exact rfl; exact rfl)
 | (apply s_k (HW); exact rfl)
 | (apply s_c TY; exact rfl; (first | omega | exact ⟨by omega, by (((with_reducible apply hitsF_ne); omega))⟩))
 | (apply s_m TY; exact rfl; (((with_reducible apply hitsF_sub); omega)); exact rfl)
 | (apply s_alloc TY; exact rfl; exact rfl; exact rfl)
 | (apply s_store TY; (iterate 6 exact rfl))
 | (apply s_append TY; (iterate 9 exact rfl); (unfold maxLen; omega); omega))
     exact ⟨k + 1, by omega, by omega, gh_le ⟨le_upd rfl trivial (le_upd rfl trivial (le_upd rfl trivial (le_upd rfl rfl (le_upd rfl trivial (le_upd rfl trivial (le_nil _)))))), le_hupd (rowI_app hs) trivial (le_h0 _ _)⟩⟩
   | false =>
     rw [hv] at hs HW
     rw [if_neg (by decide), List.append_nil] at hs
     repeat (first
 | (apply s_a TY; exact rfl)
 | (apply s_t; exact rfl; omega)
 | apply w_seq
 | apply w_region
 | apply s_nil
 | apply t_norm
 | apply k_norm
 | apply w_block
 | apply w_skip
 | (apply w_condT; exact rfl; exact rfl)
 | (apply w_condF; exact rfl; exact rfl)
 | (apply s_k (HW); exact rfl)
 | (apply s_c TY; exact rfl; (first | omega | exact ⟨by omega, by (((with_reducible apply hitsF_ne); omega))⟩))
 | (apply s_m TY; exact rfl; (((with_reducible apply hitsF_sub); omega)); exact rfl)
 | (apply s_alloc TY; exact rfl; exact rfl; exact rfl)
 | (apply s_store TY; (iterate 6 exact rfl)))
     exact ⟨k + 1, by omega, by omega, gh_le ⟨le_upd rfl trivial (le_upd rfl trivial (le_upd rfl trivial (le_upd rfl rfl (le_upd rfl trivial (le_upd rfl trivial (le_nil _)))))), le_hupd (rowI _ _ hs.symm) trivial (le_h0 _ _)⟩⟩
 · have hke : k = h.length := by omega
   subst hke
   repeat (first
 | (apply s_a TY; exact rfl)
 | (apply s_f; exact rfl; omega)
 | apply w_seq
 | apply w_region
 | apply s_nil
 | apply t_norm
 | apply t_exit
 | apply k_hit
 | apply w_exit
 | apply w_ret
 | (apply w_condF; exact rfl; exact rfl))
   exact lv_ret (ret_gh (gh_row 0 rfl) (ret1 rfl (res_tmp rfl)))
set_option maxRecDepth 100000 in
set_option maxHeartbeats 1600000 in
theorem single_s (l : List Site) (s : Setup) (h : List Hit) (hs : SetOk s) (hl0 : ArrOk l) (ho : HitsOk l h) : Summ Tryz.prog GG 116 [readoutV l s, .sl h.length (hitsF h)] (.sl (singleV l s h).length (rngsF (singleV l s h))) := by
 have h40 := ho.len
 have hs4 := hs.len
 have hsb := hs.before
 have hsa := hs.after
 unfold readoutV setL
 refine summW Tryz.func116 rfl rfl 49 rfl (by simp) (fun M0 => ?_)
 repeat (first
 | (apply s_a TY; exact rfl)
 | apply w_seq
 | apply w_region
 | apply s_nil
 | apply t_norm
 | apply w_block)
 apply w_gh (gh_own 5 34 2 rfl rfl)
 apply w_loop (fun k : Nat => ⟨(Ab.upd (Ab.upd (Ab.upd (Ab.upd (Ab.upd (Ab.upd (fun _ => .bot) 1 (.f (.sl h.length (hitsF h)))) 2 (.f (.pt [.sl l.length (sitesF l), .mp (mapS l l.length), .sl s.rules.length (rulesF s.rules), iv s.before, iv s.after, iv s.dead] 0))) 5 (.ow 0)) 12 (.f (.sl s.rules.length (rulesF s.rules)))) 13 (.f (iv s.rules.length))) 14 (.f (iv (k : Nat)))), (Ab.upd (fun _ => none) 0 (some (.row 34 2 (singK l s h k).length (rngsF (singK l s h k))))), 1⟩) (fun k => k <= s.rules.length) (fun k => s.rules.length - k) 0 (Nat.zero_le _) (gh_le ⟨le_upd rfl trivial (le_upd rfl trivial (le_upd rfl trivial (le_upd rfl rfl (le_upd rfl trivial (le_upd rfl trivial (le_nil _)))))), le_hupd rfl trivial (le_h0 _ _)⟩)
 intro k hk
 by_cases hc : k < s.rules.length
 · have HF := fires_s l s.rules[k] h (hs.rule k hc) hl0 ho
   have hsk := singK_len l s h k
   have hfl := firesV_len l s.rules[k] h h.length
   have hks : k * h.length <= 4 * h.length := Nat.mul_le_mul_right _ (by omega)
   repeat (first
 | (apply s_a TY; exact rfl)
 | (apply s_t; exact rfl; omega)
 | apply w_seq
 | apply w_region
 | apply s_nil
 | apply t_norm
 | apply w_block
 | apply w_skip
 | (apply w_condT; exact rfl; exact rfl)
 | (apply s_k (HF); exact rfl)
 | (apply s_c TY; exact rfl; (exact ⟨by omega, by (((with_reducible apply rulesF_ne); omega))⟩))
 | (apply s_m TY; exact rfl; (((with_reducible apply rulesF_sub); omega)); exact rfl)
 | (apply s_alloc TY; exact rfl; exact rfl; exact rfl)
 | (apply s_store TY; (iterate 6 exact rfl)))
   apply w_loop (fun j : Nat => ⟨(Ab.upd (Ab.upd (Ab.upd (Ab.upd (Ab.upd (Ab.upd (Ab.upd (Ab.upd (Ab.upd (fun _ => .bot) 1 (.f (.sl h.length (hitsF h)))) 2 (.f (.pt [.sl l.length (sitesF l), .mp (mapS l l.length), .sl s.rules.length (rulesF s.rules), iv s.before, iv s.after, iv s.dead] 0))) 5 (.ow 0)) 12 (.f (.sl s.rules.length (rulesF s.rules)))) 13 (.f (iv s.rules.length))) 14 (.f (iv (k : Nat)))) 22 (.f (.sl (firesV l s.rules[k] h h.length).length (firesF (firesV l s.rules[k] h h.length))))) 23 (.f (iv (firesV l s.rules[k] h h.length).length))) 24 (.f (iv (j : Nat)))), (Ab.upd (fun _ => none) 0 (some (.row 34 2 (singK l s h k ++ ((firesV l s.rules[k] h h.length).take j).map (winF s)).length (rngsF (singK l s h k ++ ((firesV l s.rules[k] h h.length).take j).map (winF s)))))), 1⟩) (fun j => j <= (firesV l s.rules[k] h h.length).length) (fun j => (firesV l s.rules[k] h h.length).length - j) 0 (Nat.zero_le _) (gh_le ⟨le_upd rfl trivial (le_upd rfl trivial (le_upd rfl trivial (le_upd rfl trivial (le_upd rfl trivial (le_upd rfl trivial (le_upd rfl rfl (le_upd rfl trivial (le_upd rfl trivial (le_nil _))))))))), le_hupd (rowR _ _ (by simp)) trivial (le_h0 _ _)⟩)
   intro j hj
   by_cases hd : j < (firesV l s.rules[k] h h.length).length
   · have hfb := firesV_bd (r := s.rules[k]) ho (Nat.le_refl _) (List.getElem_mem hd)
     have hol : (singK l s h k ++ ((firesV l s.rules[k] h h.length).take j).map (winF s)).length <= 1000 := by rw [List.length_append, List.length_map, List.length_take]; omega
     have htk : (singK l s h k ++ ((firesV l s.rules[k] h h.length).take (j + 1)).map (winF s)) = (singK l s h k ++ ((firesV l s.rules[k] h h.length).take j).map (winF s)) ++ [winF s (firesV l s.rules[k] h h.length)[j]] := by rw [List.take_succ_eq_append_getElem hd, List.map_append, List.append_assoc]; rfl
     repeat (first
 | (apply s_a TY; exact rfl)
 | (apply s_t; exact rfl; omega)
 | apply w_seq
 | apply w_region
 | apply s_nil
 | apply t_norm
 | apply k_norm
 | apply w_block
 | apply w_skip
 | (apply w_condT; exact rfl; exact rfl)
 | (apply s_c TY; exact rfl; (first | omega | exact ⟨by omega, by (((with_reducible apply firesF_ne); omega))⟩))
 | (apply s_m TY; exact rfl; (((with_reducible apply firesF_sub); omega)); exact rfl)
 | (apply s_alloc TY; exact rfl; exact rfl; exact rfl)
 | (apply s_store TY; (iterate 6 exact rfl))
 | (apply s_append TY; (iterate 9 exact rfl); (unfold maxLen; omega); omega))
     exact ⟨j + 1, by omega, by omega, gh_le ⟨le_upd rfl trivial (le_upd rfl trivial (le_upd rfl trivial (le_upd rfl trivial (le_upd rfl trivial (le_upd rfl trivial (le_upd rfl rfl (le_upd rfl trivial (le_upd rfl trivial (le_nil _))))))))), le_hupd (row_app2 htk) trivial (le_h0 _ _)⟩⟩
   · have hje : j = (firesV l s.rules[k] h h.length).length := by omega
     subst hje
     have hse : singK l s h (k + 1) = (singK l s h k ++ ((firesV l s.rules[k] h h.length).take (firesV l s.rules[k] h h.length).length).map (winF s)) := by rw [singK_succ hc, List.take_length]; rfl
     repeat (first
 | (apply s_a TY; exact rfl)
 | (apply s_f; exact rfl; omega)
 | apply w_seq
 | apply w_region
 | apply s_nil
 | apply t_norm
 | apply t_exit
 | apply k_hit
 | apply k_norm
 | apply w_exit
 | (apply w_condF; exact rfl; exact rfl)
 | (apply s_c TY; exact rfl; omega))
     exact ⟨k + 1, by omega, by omega, gh_le ⟨le_upd rfl trivial (le_upd rfl trivial (le_upd rfl trivial (le_upd rfl rfl (le_upd rfl trivial (le_upd rfl trivial (le_nil _)))))), le_hupd (rowR _ _ hse.symm) trivial (le_h0 _ _)⟩⟩
 · have hke : k = s.rules.length := by omega
   subst hke
   rw [singK_all]
   repeat (first
 | (apply s_a TY; exact rfl)
 | (apply s_f; exact rfl; omega)
 | apply w_seq
 | apply w_region
 | apply s_nil
 | apply t_norm
 | apply t_exit
 | apply k_hit
 | apply w_exit
 | apply w_ret
 | (apply w_condF; exact rfl; exact rfl))
   exact lv_ret (ret_gh (gh_row 0 rfl) (ret1 rfl (res_tmp rfl)))
def windowsV (l : List Site) (s : Setup) (h : List Hit) : List Rng := joinedV (singleV l s h)
theorem single_lo {l : List Site} {s : Setup} {h : List Hit} (hs : SetOk s) (ho : HitsOk l h) : LoOk (singleV l s h) := fun r hr => by have := singleV_bd hs ho hr; omega
theorem single_hi {l : List Site} {s : Setup} {h : List Hit} (hs : SetOk s) (ho : HitsOk l h) : HiOk (singleV l s h) := fun r hr => by have := singleV_bd hs ho hr; omega
theorem single_len {l : List Site} {s : Setup} {h : List Hit} (hs : SetOk s) (ho : HitsOk l h) : (singleV l s h).length <= 160 := by
 have a := singK_len l s h s.rules.length
 rw [singK_all] at a
 have b := hs.len
 have c := ho.len
 have : s.rules.length * h.length <= 4 * 40 := Nat.mul_le_mul b c
 omega
theorem mergeV_len (l : List Rng) : (mergeV l).length <= l.length := by rw [<- mgK_all]; exact mgK_len l _
theorem joinedV_len (l : List Rng) : (joinedV l).length <= l.length := by
 unfold joinedV
 have := mergeV_len (sortRng l)
 rwa [sortRng_len] at this
def evOf (h : List Hit) (w : Rng) : Ev := ⟨w.lo, w.hi, hitsInV h w⟩
def eventsV (l : List Site) (s : Setup) (h : List Hit) : List Ev := (windowsV l s h).map (evOf h)
def evK (l : List Site) (s : Setup) (h : List Hit) (k : Nat) : List Ev := ((windowsV l s h).take k).map (evOf h)
theorem evK_succ {l : List Site} {s : Setup} {h : List Hit} {k : Nat} (hk : k < (windowsV l s h).length) : evK l s h (k + 1) = evK l s h k ++ [evOf h (windowsV l s h)[k]] := by
 unfold evK; rw [List.take_succ_eq_append_getElem hk, List.map_append]; rfl
theorem evK_len (l : List Site) (s : Setup) (h : List Hit) (k : Nat) : (evK l s h k).length <= k := by unfold evK; rw [List.length_map, List.length_take]; omega
theorem evK_all (l : List Site) (s : Setup) (h : List Hit) : evK l s h (windowsV l s h).length = eventsV l s h := by unfold evK eventsV; rw [List.take_length]
set_option maxRecDepth 100000 in
theorem windows_s (l : List Site) (s : Setup) (h : List Hit) (hs : SetOk s) (hl0 : ArrOk l) (ho : HitsOk l h) : Summ Tryz.prog GG 224 [readoutV l s, .sl h.length (hitsF h)] (.sl (windowsV l s h).length (rngsF (windowsV l s h))) := by
 have h1 := single_len hs ho
 have HS := single_s l s h hs hl0 ho
 have HJ := joined_s (singleV l s h) (single_lo hs ho) (single_hi hs ho) (by omega)
 refine summW Tryz.func224 rfl rfl 9 rfl (by simp) (fun M0 => ?_)
 repeat (first
 | (apply s_a TY; exact rfl)
 | apply w_seq
 | apply w_region
 | apply s_nil
 | apply t_norm
 | apply w_ret
 | (apply s_k (HS); exact rfl)
 | (apply s_k (HJ); exact rfl))
 exact lv_ret (ret1 rfl (res_tmp rfl))
theorem rowEv_app {L a : List Ev} {w : Rng} {h : List Hit} (e : L = a ++ [evOf h w]) : some (Blk.row 72 3 (a.length + 1) (evsF a ++ [iv w.lo, iv w.hi, .sl (hitsInV h w).length (intsF (hitsInV h w))])) = some (Blk.row 72 3 L.length (evsF L)) := by
 rw [e, evsF_snoc, List.length_append]; rfl
set_option maxRecDepth 100000 in
set_option maxHeartbeats 1600000 in
theorem events_s (l : List Site) (s : Setup) (h : List Hit) (hs : SetOk s) (hl0 : ArrOk l) (ho : HitsOk l h) : Summ Tryz.prog GG 115 [readoutV l s, .sl h.length (hitsF h)] (.sl (eventsV l s h).length (evsF (eventsV l s h))) := by
 have h40 := ho.len
 have h1 := single_len hs ho
 have h2 : (windowsV l s h).length <= 160 := Nat.le_trans (joinedV_len _) h1
 have HW := windows_s l s h hs hl0 ho
 refine summW Tryz.func115 rfl rfl 26 rfl (by simp) (fun M0 => ?_)
 repeat (first
 | (apply s_a TY; exact rfl)
 | apply w_seq
 | apply w_region
 | apply s_nil
 | apply t_norm
 | apply w_block
 | (apply s_k (HW); exact rfl))
 apply w_gh (gh_own 5 72 3 rfl rfl)
 apply w_loop (fun k : Nat => ⟨(Ab.upd (Ab.upd (Ab.upd (Ab.upd (Ab.upd (fun _ => .bot) 1 (.f (.sl h.length (hitsF h)))) 5 (.ow 0)) 10 (.f (.sl (windowsV l s h).length (rngsF (windowsV l s h))))) 11 (.f (iv (windowsV l s h).length))) 12 (.f (iv (k : Nat)))), (Ab.upd (fun _ => none) 0 (some (.row 72 3 (evK l s h k).length (evsF (evK l s h k))))), 1⟩) (fun k => k <= (windowsV l s h).length) (fun k => (windowsV l s h).length - k) 0 (Nat.zero_le _) (gh_le ⟨le_upd rfl trivial (le_upd rfl trivial (le_upd rfl trivial (le_upd rfl rfl (le_upd rfl trivial (le_nil _))))), le_hupd rfl trivial (le_h0 _ _)⟩)
 intro k hk
 have hln := evK_len l s h k
 by_cases hc : k < (windowsV l s h).length
 · have hsu := evK_succ hc
   have HI := hitsIn_s h (windowsV l s h)[k] (by omega)
   repeat (first
 | (apply s_a TY; exact rfl)
 | (apply s_t; exact rfl; omega)
 | apply w_seq
 | apply w_region
 | (apply w_draw (id := 5) 7 rfl (by kernel_rfl))
 | apply s_nil
 | apply t_norm
 | apply k_norm
 | apply w_block
 | apply w_skip
 | (apply w_condT; exact rfl; exact rfl)
 | (apply s_k (HI); exact rfl)
 | (apply s_c TY; exact rfl; (first | omega | exact ⟨by omega, by (((with_reducible apply rngsF_ne); omega))⟩))
 | (apply s_m TY; exact rfl; (((with_reducible apply rngsF_sub); omega)); exact rfl)
 | (apply s_alloc TY; exact rfl; exact rfl; exact rfl)
 | (apply s_store TY; (iterate 6 exact rfl))
 | (apply s_append TY; (iterate 9 exact rfl); (unfold maxLen; omega); omega))
   exact ⟨k + 1, by omega, by omega, gh_le ⟨le_upd rfl trivial (le_upd rfl trivial (le_upd rfl trivial (le_upd rfl rfl (le_upd rfl trivial (le_nil _))))), le_hupd (rowEv_app hsu) trivial (le_h0 _ _)⟩⟩
 · have hke : k = (windowsV l s h).length := by omega
   subst hke
   rw [evK_all]
   repeat (first
 | (apply s_a TY; exact rfl)
 | (apply s_f; exact rfl; omega)
 | apply w_seq
 | apply w_region
 | apply s_nil
 | apply t_norm
 | apply t_exit
 | apply k_hit
 | apply w_exit
 | apply w_ret
 | (apply w_condF; exact rfl; exact rfl))
   exact lv_ret (ret_gh (gh_row 0 rfl) (ret1 rfl (res_tmp rfl)))
theorem setErr_parts {l : List Site} {s : Setup} {h : List Hit} (e : setErr l s h = 0) : (arrChk l).2 = 0 /\ (setupChk s).2 = 0 /\ (hitsChk l h).2 = 0 := by
 unfold setErr at e
 have h1 : (arrChk l).2 = 0 := Classical.byContradiction fun h1 => by rw [if_pos h1] at e; exact h1 e
 rw [if_neg (by simpa using h1)] at e
 have h2 : (setupChk s).2 = 0 := Classical.byContradiction fun h2 => by rw [if_pos h2] at e; exact h2 e
 rw [if_neg (by simpa using h2)] at e
 exact ⟨h1, h2, e⟩
set_option maxRecDepth 100000 in
theorem EventsOf_ok (l : List Site) (s : Setup) (h : List Hit) (hl : l.length <= 1000000) (hsl : s.rules.length <= 1000000) (hh : h.length <= 1000000) (e : setErr l s h = 0) : Summ Tryz.prog GG 23 [arrF l, setF s, .sl h.length (hitsF h)] (.tup [.sl (eventsV l s h).length (evsF (eventsV l s h)), iv 0]) := by
 obtain ⟨e1, e2, e3⟩ := setErr_parts e
 have hl0 := arrOk_of e1
 have hs := setOk_of e2
 have ho := hitsOk_of hl0 e3
 have HO := openSetup_ok l s h hl hsl hh e
 have HE := events_s l s h hs hl0 ho
 refine summW Tryz.func23 rfl rfl 23 rfl (by simp) (fun M0 => ?_)
 repeat (first
 | (apply s_a TY; exact rfl)
 | (apply s_t; exact rfl; omega)
 | apply w_seq
 | apply w_region
 | apply s_nil
 | apply t_norm
 | apply w_ret
 | apply w_skip
 | (apply w_condF; exact rfl; exact rfl)
 | (apply s_k (HO); exact rfl)
 | (apply s_k (HE); exact rfl)
 | (apply s_alloc TY; exact rfl; exact rfl; exact rfl)
 | (apply s_store TY; (iterate 6 exact rfl)))
 exact lv_ret (ret2 rfl (res_tmp rfl) (res_tmp rfl))
theorem stood_rng : Tryz.prog.stoodInHeld 34 = false := by kernel_rfl
theorem fields_rng : Tryz.prog.fieldsOf 34 = #[{ name := "Lo", type := 3, offset := 0, embedded := false, tag := "", pkgPath := "", byteOffset := 0 }, { name := "Hi", type := 3, offset := 1, embedded := false, tag := "", pkgPath := "", byteOffset := 8 }] := by kernel_rfl
theorem equalIn_rng (d : Nat) (a b : Rng) (W : World) : (Op.equalIn (d + 2) 34 (.agg #[.int .i64 a.lo, .int .i64 a.hi]) (.agg #[.int .i64 b.lo, .int .i64 b.hi])).run Tryz.prog W = .ok (decide (a = b)) W := by
 rw [run_equalIn_agg W (d + 1) 34 _ _ (by rw [fields_rng]; exact Tryz.underlying34) stood_rng, fields_rng]
 have e : decide (a = b) = (a.lo == b.lo && a.hi == b.hi) := by
  cases a; cases b; simp [Rng.mk.injEq]
  try simp [Bool.and_assoc]
  try rfl
 rw [e]
 cases h0 : a.lo == b.lo <;> cases h1 : a.hi == b.hi <;> simp [Op.eqFields, part, run_equalIn_int W d 3 _ _ _ _ Tryz.underlying3, h0, h1]
theorem guard_rng : Tryz.prog.eqGuardType Tryz.prog.depth 34 = false := by kernel_rfl
theorem ne_rng {x y : Operand} {a b : Rng} {c : Bool} (h : decide (a = b) = !c) : ∀ w, (do eqGuard .neq 34 x y (.agg #[.int .i64 a.lo, .int .i64 a.hi]) (.agg #[.int .i64 b.lo, .int .i64 b.hi]); binOp .neq 34 (.agg #[.int .i64 a.lo, .int .i64 a.hi]) (.agg #[.int .i64 b.lo, .int .i64 b.hi]) : Sem Value).run Tryz.prog w = .ok (.bool c) w := fun w => by
 have h1 := equalIn_rng 9998 a b w
 rw [h] at h1
 first
 | (simp [eqGuard, run_neq_struct, h1]; done)
 | simp [eqGuard, guard_rng, run_neq_struct, h1]
theorem stood_hit : Tryz.prog.stoodInHeld 50 = false := by kernel_rfl
theorem fields_hit : Tryz.prog.fieldsOf 50 = #[{ name := "At", type := 3, offset := 0, embedded := false, tag := "", pkgPath := "", byteOffset := 0 }, { name := "Line", type := 3, offset := 1, embedded := false, tag := "", pkgPath := "", byteOffset := 8 }, { name := "Sensor", type := 3, offset := 2, embedded := false, tag := "", pkgPath := "", byteOffset := 16 }] := by kernel_rfl
theorem equalIn_hit (d : Nat) (a b : Hit) (W : World) : (Op.equalIn (d + 2) 50 (.agg #[.int .i64 a.tm, .int .i64 a.line, .int .i64 a.sensor]) (.agg #[.int .i64 b.tm, .int .i64 b.line, .int .i64 b.sensor])).run Tryz.prog W = .ok (decide (a = b)) W := by
 rw [run_equalIn_agg W (d + 1) 50 _ _ (by rw [fields_hit]; exact Tryz.underlying50) stood_hit, fields_hit]
 have e : decide (a = b) = (a.tm == b.tm && a.line == b.line && a.sensor == b.sensor) := by
  cases a; cases b; simp [Hit.mk.injEq]
  try simp [Bool.and_assoc]
  try rfl
 rw [e]
 cases h0 : a.tm == b.tm <;> cases h1 : a.line == b.line <;> cases h2 : a.sensor == b.sensor <;> simp [Op.eqFields, part, run_equalIn_int W d 3 _ _ _ _ Tryz.underlying3, h0, h1, h2]
theorem guard_hit : Tryz.prog.eqGuardType Tryz.prog.depth 50 = false := by kernel_rfl
theorem ne_hit {x y : Operand} {a b : Hit} {c : Bool} (h : decide (a = b) = !c) : ∀ w, (do eqGuard .neq 50 x y (.agg #[.int .i64 a.tm, .int .i64 a.line, .int .i64 a.sensor]) (.agg #[.int .i64 b.tm, .int .i64 b.line, .int .i64 b.sensor]); binOp .neq 50 (.agg #[.int .i64 a.tm, .int .i64 a.line, .int .i64 a.sensor]) (.agg #[.int .i64 b.tm, .int .i64 b.line, .int .i64 b.sensor]) : Sem Value).run Tryz.prog w = .ok (.bool c) w := fun w => by
 have h1 := equalIn_hit 9998 a b w
 rw [h] at h1
 first
 | (simp [eqGuard, run_neq_struct, h1]; done)
 | simp [eqGuard, guard_hit, run_neq_struct, h1]
set_option maxRecDepth 100000 in
set_option maxHeartbeats 1600000 in
theorem SameHits_s (a b : List Hit) (ha : a.length <= 1000000) (_hb : b.length <= 1000000) : Summ Tryz.prog GG 26 [.sl a.length (hitsF a), .sl b.length (hitsF b)] (bv (decide (a = b))) := by
 by_cases hl : a.length = b.length
 · refine summW Tryz.func26 rfl rfl 26 rfl (by simp) (fun M0 => ?_)
   repeat (first
 | (apply s_a TY; exact rfl)
 | (apply s_t; exact rfl; omega)
 | apply w_seq
 | apply w_region
 | apply s_nil
 | apply t_norm
 | apply w_block
 | apply w_skip
 | (apply w_condF; exact rfl; exact rfl))
   apply w_loop (fun k : Nat => ⟨(Ab.upd (Ab.upd (Ab.upd (fun _ => .bot) 0 (.f (.sl a.length (hitsF a)))) 1 (.f (.sl b.length (hitsF b)))) 5 (.f (iv (k : Nat)))), (fun _ => none), 0⟩) (fun k => k <= a.length /\ a.take k = b.take k) (fun k => a.length - k) 0 (⟨Nat.zero_le _, by simp⟩) (gh_le ⟨le_upd rfl trivial (le_upd rfl trivial (le_upd rfl trivial (le_nil _))), le_h0 _ _⟩)
   intro k ⟨hk, ht⟩
   by_cases hc : k < a.length
   · have hcb : k < b.length := by omega
     by_cases he : a[k] = b[k]
     · have hd : decide (a[k] = b[k]) = !false := by simp [he]
       repeat (first
 | (apply s_bind; (iterate 6 exact rfl); exact ne_hit (by assumption))
 | (apply s_a TY; exact rfl)
 | (apply s_t; exact rfl; omega)
 | apply w_seq
 | apply w_region
 | (apply w_draw (id := 6) 8 rfl (by kernel_rfl))
 | apply s_nil
 | apply t_norm
 | apply k_norm
 | apply w_block
 | apply w_skip
 | (apply w_condT; exact rfl; exact rfl)
 | (apply w_condF; exact rfl; exact rfl)
 | (apply s_c TY; exact rfl; (first | omega | exact ⟨by omega, by (((with_reducible apply hitsF_ne); omega))⟩))
 | (apply s_m TY; exact rfl; (((with_reducible apply hitsF_sub); omega)); exact rfl))
       exact ⟨k + 1, ⟨by omega, take_eq_succ hc hcb ht he⟩, by omega, gh_le ⟨le_upd rfl trivial (le_upd rfl trivial (le_upd rfl trivial (le_nil _))), le_h0 _ _⟩⟩
     · have hd : decide (a[k] = b[k]) = !true := by simp [he]
       have hne : ¬ a = b := fun e => he (by simp [e])
       rw [decide_eq_false hne]
       repeat (first
 | (apply s_bind; (iterate 6 exact rfl); exact ne_hit (by assumption))
 | (apply s_a TY; exact rfl)
 | (apply s_t; exact rfl; omega)
 | apply w_seq
 | apply w_region
 | (apply w_draw (id := 6) 8 rfl (by kernel_rfl))
 | apply s_nil
 | apply t_norm
 | apply t_ret
 | apply k_ret
 | apply w_block
 | apply w_ret
 | apply w_skip
 | (apply w_condT; exact rfl; exact rfl)
 | (apply s_c TY; exact rfl; (exact ⟨by omega, by (((with_reducible apply hitsF_ne); omega))⟩))
 | (apply s_m TY; exact rfl; (((with_reducible apply hitsF_sub); omega)); exact rfl))
       exact lv_ret (ret1 rfl (res_tmp rfl))
   · rw [decide_eq_true (take_all_eq hl (by omega) ht)]
     repeat (first
 | (apply s_a TY; exact rfl)
 | (apply s_f; exact rfl; omega)
 | apply w_seq
 | apply w_region
 | apply s_nil
 | apply t_norm
 | apply t_exit
 | apply k_hit
 | apply w_exit
 | apply w_ret
 | (apply w_condF; exact rfl; exact rfl))
     exact lv_ret (ret1 rfl (res_tmp rfl))
 · have hne : ¬ a = b := fun e => hl (by rw [e])
   rw [decide_eq_false hne]
   refine summW Tryz.func26 rfl rfl 26 rfl (by simp) (fun M0 => ?_)
   repeat (first
 | (apply s_a TY; exact rfl)
 | (apply s_f; exact rfl; omega)
 | apply w_seq
 | apply w_region
 | apply s_nil
 | apply t_norm
 | apply t_ret
 | apply w_ret
 | (apply w_condT; exact rfl; exact rfl))
   exact lv_ret (ret1 rfl (res_tmp rfl))
set_option maxRecDepth 100000 in
set_option maxHeartbeats 1600000 in
theorem SameEvents_s (a b : List Ev) (ha : a.length <= 1000000) (_hb : b.length <= 1000000) (h1 : ∀ x, x ∈ a -> x.hits.length <= 1000000) (h2 : ∀ x, x ∈ b -> x.hits.length <= 1000000) : Summ Tryz.prog GG 98 [.sl a.length (evsF a), .sl b.length (evsF b)] (bv (decide (a = b))) := by
 by_cases hl : a.length = b.length
 · refine summW Tryz.func98 rfl rfl 42 rfl (by simp) (fun M0 => ?_)
   repeat (first
 | (apply s_a TY; exact rfl)
 | (apply s_t; exact rfl; omega)
 | apply w_seq
 | apply w_region
 | apply s_nil
 | apply t_norm
 | apply w_block
 | apply w_skip
 | (apply w_condF; exact rfl; exact rfl))
   apply w_loop (fun k : Nat => ⟨(Ab.upd (Ab.upd (Ab.upd (fun _ => .bot) 0 (.f (.sl a.length (evsF a)))) 1 (.f (.sl b.length (evsF b)))) 5 (.f (iv (k : Nat)))), (fun _ => none), 0⟩) (fun k => k <= a.length /\ a.take k = b.take k) (fun k => a.length - k) 0 (⟨Nat.zero_le _, by simp⟩) (gh_le ⟨le_upd rfl trivial (le_upd rfl trivial (le_upd rfl trivial (le_nil _))), le_h0 _ _⟩)
   intro k ⟨hk, ht⟩
   by_cases hc : k < a.length
   · have hcb : k < b.length := by omega
     have hwa : ((evsF a).drop (k * 3 + 0)).take 2 = [iv a[k].lo, iv a[k].hi] := by rw [Nat.add_zero, evsF_drop, List.drop_eq_getElem_cons hc]; rfl
     have hwb : ((evsF b).drop (k * 3 + 0)).take 2 = [iv b[k].lo, iv b[k].hi] := by rw [Nat.add_zero, evsF_drop, List.drop_eq_getElem_cons hcb]; rfl
     have h1a := h1 a[k] (List.getElem_mem hc)
     have h1b := h2 b[k] (List.getElem_mem hcb)
     by_cases hr : (⟨a[k].lo, a[k].hi⟩ : Rng) = ⟨b[k].lo, b[k].hi⟩
     · have hd : decide ((⟨a[k].lo, a[k].hi⟩ : Rng) = ⟨b[k].lo, b[k].hi⟩) = !false := by rw [decide_eq_true hr]; rfl
       have HI := Ints_s a[k].hits b[k].hits h1a h1b
       by_cases hh : a[k].hits = b[k].hits
       · have he : a[k] = b[k] := by
          generalize a[k] = x at hr hh ⊢
          generalize b[k] = y at hr hh ⊢
          cases x; cases y
          simp only [Rng.mk.injEq] at hr
          simp only at hh
          rw [hr.1, hr.2, hh]
         rw [decide_eq_true hh] at HI
         repeat (first
 | (apply s_bind; (iterate 6 exact rfl); exact ne_rng (by assumption))
 | (apply s_a TY; exact rfl)
 | (apply s_t; exact rfl; omega)
 | apply w_seq
 | apply w_region
 | (apply w_draw (id := 6) 22 rfl (by kernel_rfl))
 | apply s_nil
 | apply t_norm
 | apply k_norm
 | apply w_block
 | apply w_skip
 | (apply w_condT; exact rfl; exact rfl)
 | (apply w_condF; exact rfl; exact rfl)
 | (apply s_k (HI); exact rfl)
 | (apply s_c TY; exact rfl; (first | omega | exact ⟨by omega, by (((with_reducible apply evsF_ne); omega))⟩))
 | (apply s_l TY; exact rfl; (((with_reducible apply evsF_f2); omega)))
 | (apply s_m TY; exact rfl; (with_reducible assumption); exact rfl))
         exact ⟨k + 1, ⟨by omega, take_eq_succ hc hcb ht he⟩, by omega, gh_le ⟨le_upd rfl trivial (le_upd rfl trivial (le_upd rfl trivial (le_nil _))), le_h0 _ _⟩⟩
       · have hne : ¬ a = b := fun e => hh (by simp [e])
         rw [decide_eq_false hh] at HI
         rw [decide_eq_false hne]
         repeat (first
 | (apply s_bind; (iterate 6 exact rfl); exact ne_rng (by assumption))
 | (apply s_a TY; exact rfl)
 | (apply s_t; exact rfl; omega)
 | apply w_seq
 | apply w_region
 | (apply w_draw (id := 6) 22 rfl (by kernel_rfl))
 | apply s_nil
 | apply t_norm
 | apply t_ret
 | apply k_ret
 | apply w_block
 | apply w_ret
 | apply w_skip
 | (apply w_condT; exact rfl; exact rfl)
 | (apply s_k (HI); exact rfl)
 | (apply s_c TY; exact rfl; (exact ⟨by omega, by (((with_reducible apply evsF_ne); omega))⟩))
 | (apply s_l TY; exact rfl; (((with_reducible apply evsF_f2); omega)))
 | (apply s_m TY; exact rfl; (with_reducible assumption); exact rfl))
         exact lv_ret (ret1 rfl (res_tmp rfl))
     · have hd : decide ((⟨a[k].lo, a[k].hi⟩ : Rng) = ⟨b[k].lo, b[k].hi⟩) = !true := by rw [decide_eq_false hr]; rfl
       have hne : ¬ a = b := fun e => hr (by simp [e])
       rw [decide_eq_false hne]
       repeat (first
 | (apply s_bind; (iterate 6 exact rfl); exact ne_rng (by assumption))
 | (apply s_a TY; exact rfl)
 | (apply s_t; exact rfl; omega)
 | apply w_seq
 | apply w_region
 | (apply w_draw (id := 6) 22 rfl (by kernel_rfl))
 | apply s_nil
 | apply t_norm
 | apply t_ret
 | apply k_ret
 | apply w_block
 | apply w_ret
 | apply w_skip
 | (apply w_condT; exact rfl; exact rfl)
 | (apply s_s; exact rfl)
 | (apply s_c TY; exact rfl; (exact ⟨by omega, by (((with_reducible apply evsF_ne); omega))⟩))
 | (apply s_m TY; exact rfl; (with_reducible assumption); exact rfl))
       exact lv_ret (ret1 rfl (res_tmp rfl))
   · rw [decide_eq_true (take_all_eq hl (by omega) ht)]
     repeat (first
 | (apply s_a TY; exact rfl)
 | (apply s_f; exact rfl; omega)
 | apply w_seq
 | apply w_region
 | apply s_nil
 | apply t_norm
 | apply t_exit
 | apply k_hit
 | apply w_exit
 | apply w_ret
 | (apply w_condF; exact rfl; exact rfl))
     exact lv_ret (ret1 rfl (res_tmp rfl))
 · have hne : ¬ a = b := fun e => hl (by rw [e])
   rw [decide_eq_false hne]
   refine summW Tryz.func98 rfl rfl 42 rfl (by simp) (fun M0 => ?_)
   repeat (first
 | (apply s_a TY; exact rfl)
 | (apply s_f; exact rfl; omega)
 | apply w_seq
 | apply w_region
 | apply s_nil
 | apply t_norm
 | apply t_ret
 | apply w_ret
 | (apply w_condT; exact rfl; exact rfl))
   exact lv_ret (ret1 rfl (res_tmp rfl))
def wA (ws : List Rng) (i : Nat) : Int := if (-2000000000000 <= (ws.getD i default).lo /\ (ws.getD i default).lo <= 2000000000000) /\ (-2000000000000 <= (ws.getD i default).hi /\ (ws.getD i default).hi <= 2000000000000) then 0 else 2
def wB (ws : List Rng) (i : Nat) : Int := if (ws.getD i default).lo <= (ws.getD i default).hi /\ (i = 0 \/ (ws.getD (i - 1) default).hi < (ws.getD i default).lo) then 0 else 9
def lerrK (ws : List Rng) (e : Int) : Nat -> Int
 | 0 => e
 | i + 1 => firstE [lerrK ws e i, wA ws i, wB ws i]
def runA (r : Rng) : Int := if (0 <= r.lo /\ r.lo <= 1000000000000) /\ (0 <= r.hi /\ r.hi <= 1000000000000) then 0 else 2
def runB (r : Rng) : Int := if r.lo <= r.hi then 0 else 9
def lenE (n : Nat) : Int := if n <= 40 then 0 else 8
def liveErrV (s : Setup) (ws : List Rng) (r : Rng) : Int := firstE [lerrK ws (firstE [(setupChk s).2, lenE ws.length]) ws.length, runA r, runB r]
def liveStep (s : Setup) (r : Rng) (p : Int × Int) (w : Rng) : Int × Int :=
 if max p.2 (w.hi + 1) <= min r.hi (w.hi + s.dead) then (p.1 - (min r.hi (w.hi + s.dead) - max p.2 (w.hi + 1) + 1), min r.hi (w.hi + s.dead) + 1) else p
def liveK (s : Setup) (ws : List Rng) (r : Rng) : Nat -> Int × Int
 | 0 => (r.hi - r.lo + 1, r.lo)
 | k + 1 => liveStep s r (liveK s ws r k) (ws.getD k default)
def liveV (s : Setup) (ws : List Rng) (r : Rng) : Int := (liveK s ws r ws.length).1
theorem firstE3_zero {a b c : Int} (h : firstE [a, b, c] = 0) : a = 0 /\ b = 0 /\ c = 0 := by
 simp only [firstE] at h
 split at h
 · split at h
   · split at h
     · exact ⟨by assumption, by assumption, by assumption⟩
     · exact absurd h (by assumption)
   · exact absurd h (by assumption)
 · exact absurd h (by assumption)
theorem firstE2_zero {a b : Int} (h : firstE [a, b] = 0) : a = 0 /\ b = 0 := by
 simp only [firstE] at h
 split at h
 · split at h
   · exact ⟨by assumption, by assumption⟩
   · exact absurd h (by assumption)
 · exact absurd h (by assumption)
theorem lerrK_zero {ws : List Rng} {e : Int} : ∀ {n : Nat}, lerrK ws e n = 0 -> e = 0 /\ ∀ i, i < n -> wA ws i = 0 /\ wB ws i = 0
 | 0, h => ⟨h, fun i hi => by omega⟩
 | n + 1, h => by
   obtain ⟨h1, h2, h3⟩ := firstE3_zero h
   obtain ⟨h4, h5⟩ := lerrK_zero h1
   refine ⟨h4, fun i hi => ?_⟩
   by_cases e : i = n
   · subst e; exact ⟨h2, h3⟩
   · exact h5 i (by omega)
theorem wA_zero {ws : List Rng} {i : Nat} (hi : i < ws.length) (h : wA ws i = 0) : (-2000000000000 <= ws[i].lo /\ ws[i].lo <= 2000000000000) /\ (-2000000000000 <= ws[i].hi /\ ws[i].hi <= 2000000000000) := by
 unfold wA at h
 rw [getD_at hi] at h
 by_cases c : (-2000000000000 <= ws[i].lo /\ ws[i].lo <= 2000000000000) /\ (-2000000000000 <= ws[i].hi /\ ws[i].hi <= 2000000000000)
 · exact c
 · rw [if_neg c] at h; cases h
theorem liveErr_parts {s : Setup} {ws : List Rng} {r : Rng} (h : liveErrV s ws r = 0) : (setupChk s).2 = 0 /\ ws.length <= 40 /\ (∀ i, i < ws.length -> wA ws i = 0 /\ wB ws i = 0) /\ ((0 <= r.lo /\ r.lo <= 1000000000000) /\ (0 <= r.hi /\ r.hi <= 1000000000000)) /\ r.lo <= r.hi := by
 obtain ⟨h1, h2, h3⟩ := firstE3_zero h
 obtain ⟨h4, h5⟩ := lerrK_zero h1
 obtain ⟨h6, h7⟩ := firstE2_zero h4
 refine ⟨h6, ?_, h5, ?_, ?_⟩
 · unfold lenE at h7
   by_cases c : ws.length <= 40
   · exact c
   · rw [if_neg c] at h7; cases h7
 · unfold runA at h2
   by_cases c : (0 <= r.lo /\ r.lo <= 1000000000000) /\ (0 <= r.hi /\ r.hi <= 1000000000000)
   · exact c
   · rw [if_neg c] at h2; cases h2
 · unfold runB at h3
   by_cases c : r.lo <= r.hi
   · exact c
   · rw [if_neg c] at h3; cases h3
theorem liveStep_bd {s : Setup} {r : Rng} {p : Int × Int} {w : Rng} (h : (r.lo <= p.2 /\ p.2 <= r.hi + 1) /\ (r.hi + 1 - p.2 <= p.1 /\ p.1 <= r.hi - r.lo + 1)) : (r.lo <= (liveStep s r p w).2 /\ (liveStep s r p w).2 <= r.hi + 1) /\ (r.hi + 1 - (liveStep s r p w).2 <= (liveStep s r p w).1 /\ (liveStep s r p w).1 <= r.hi - r.lo + 1) := by
 unfold liveStep
 split
 · simp only; omega
 · exact h
theorem liveK_bd {s : Setup} {ws : List Rng} {r : Rng} (hr : r.lo <= r.hi) : ∀ k, (r.lo <= (liveK s ws r k).2 /\ (liveK s ws r k).2 <= r.hi + 1) /\ (r.hi + 1 - (liveK s ws r k).2 <= (liveK s ws r k).1 /\ (liveK s ws r k).1 <= r.hi - r.lo + 1)
 | 0 => by simp only [liveK]; omega
 | k + 1 => liveStep_bd (liveK_bd hr k)
set_option maxRecDepth 100000 in
set_option maxHeartbeats 6400000 in
theorem LiveIn_s (s : Setup) (ws : List Rng) (r : Rng) (hsl : s.rules.length <= 1000000) (hw : ws.length <= 1000000) : Summ Tryz.prog GG 29 [setF s, .sl ws.length (rngsF ws), .agg (rngF r)] (.tup [iv (if liveErrV s ws r = 0 then liveV s ws r else 0), iv (liveErrV s ws r)]) := by
 unfold liveV
 have HU : Summ Tryz.prog GG 106 [.v (.bool (decide (((ws.length : Nat) : Int) <= 40))), iv 8] (iv (lenE ws.length)) := by
  unfold lenE
  by_cases hL : ws.length <= 40
  · rw [if_pos hL, decide_eq_true (by omega)]; exact tunless_T 8
  · rw [if_neg hL, decide_eq_false (by omega)]; exact tunless_F 8
 have H1 := tfirst2_s (setupChk s).2 (lenE ws.length)
 refine summW Tryz.func29 rfl rfl 135 rfl (by simp) (fun M0 => ?_)
 repeat (first
 | (apply s_leq; exact rfl; exact rfl; exact rfl)
 | (apply s_a TY; exact rfl)
 | apply w_seq
 | apply w_region
 | apply s_nil
 | apply t_norm
 | apply w_block
 | (apply s_k (HU); exact rfl)
 | (apply s_k (H1); exact rfl)
 | (apply s_k1 (CheckSetup_s _); exact rfl; assumption))
 apply w_loop (fun k : Nat => ⟨(Ab.upd (Ab.upd (Ab.upd (Ab.upd (Ab.upd (Ab.upd (Ab.upd (fun _ => .bot) 1 (.f (.sl ws.length (rngsF ws)))) 3 (.f (.pt (setL s) 0))) 5 (.f (.pt (rngF r) 0))) 9 (.f (iv (lerrK ws (firstE [(setupChk s).2, lenE ws.length]) k)))) 31 (.f (.sl ws.length (rngsF ws)))) 32 (.f (iv ws.length))) 33 (.f (iv (k : Nat)))), (fun _ => none), 0⟩) (fun k => k <= ws.length) (fun k => ws.length - k) 0 (Nat.zero_le _) (gh_le ⟨le_upd rfl trivial (le_upd rfl trivial (le_upd rfl trivial (le_upd rfl trivial (le_upd rfl trivial (le_upd rfl trivial (le_upd rfl trivial (le_nil _))))))), le_h0 _ _⟩)
 intro k hk
 by_cases hc : k < ws.length
 · have hp : k - 1 < ws.length := by omega
   have hat : (rngsF ws)[(max 0 ((k : Int) - 1)).toNat * 2 + 1]? = some (iv ws[k - 1].hi) := by
    rw [show (max 0 ((k : Int) - 1)).toNat = k - 1 by omega]; exact rngsF_f1 hp
   by_cases hA : ws[k].lo <= ws[k].hi
   · by_cases hB : k = 0
     · by_cases hD : -2000000000000 <= ws[k].lo /\ ws[k].lo <= 2000000000000
       · by_cases hE : -2000000000000 <= ws[k].hi /\ ws[k].hi <= 2000000000000
         · have hwA : wA ws k = 0 := by unfold wA; rw [getD_at hc]; exact if_pos (by omega)
           have hwB : wB ws k = 0 := by unfold wB; rw [getD_at hc, getD_at hp]; exact if_pos (by omega)
           have hl : lerrK ws (firstE [(setupChk s).2, lenE ws.length]) (k + 1) = firstE [lerrK ws (firstE [(setupChk s).2, lenE ws.length]) k, 0, 0] := by rw [lerrK, hwA, hwB]
           repeat (first
 | (apply s_a TY; exact rfl)
 | (apply s_t; exact rfl; (first | assumption | omega))
 | apply w_seq
 | apply w_region
 | (apply w_draw (id := 6) 18 rfl (by kernel_rfl))
 | apply s_nil
 | apply t_norm
 | apply k_norm
 | apply w_block
 | apply w_skip
 | (apply w_condT; exact rfl; exact rfl)
 | (apply s_k (tfirst3_s _ _ _); exact rfl)
 | (apply s_k (tunless_T _); exact rfl)
 | (apply s_k2 (isSized_T _ _); exact rfl; assumption; omega)
 | (apply s_s; exact rfl)
 | (apply s_c TY; exact rfl; (first | omega | exact ⟨by omega, by (((with_reducible apply rngsF_ne); omega))⟩))
 | (apply s_m TY; exact rfl; (((with_reducible apply rngsF_sub); omega)); exact rfl)
 | (apply s_alloc TY; exact rfl; exact rfl; exact rfl)
 | (apply s_store TY; (iterate 6 exact rfl)))
           exact ⟨k + 1, by omega, by omega, gh_le ⟨le_upd rfl trivial (le_upd rfl trivial (le_upd rfl trivial (le_upd (congrArg (fun z : Int => AV.f (iv z)) hl) trivial (le_upd rfl trivial (le_upd rfl trivial (le_upd rfl trivial (le_nil _))))))), le_h0 _ _⟩⟩
         · have hwA : wA ws k = 2 := by unfold wA; rw [getD_at hc]; exact if_neg (by omega)
           have hwB : wB ws k = 0 := by unfold wB; rw [getD_at hc, getD_at hp]; exact if_pos (by omega)
           have hl : lerrK ws (firstE [(setupChk s).2, lenE ws.length]) (k + 1) = firstE [lerrK ws (firstE [(setupChk s).2, lenE ws.length]) k, 2, 0] := by rw [lerrK, hwA, hwB]
           repeat (first
 | (apply s_a TY; exact rfl)
 | (apply s_t; exact rfl; (first | assumption | omega))
 | apply w_seq
 | apply w_region
 | (apply w_draw (id := 6) 18 rfl (by kernel_rfl))
 | apply s_nil
 | apply t_norm
 | apply k_norm
 | apply w_block
 | apply w_skip
 | (apply w_condT; exact rfl; exact rfl)
 | (apply s_k (tfirst3_s _ _ _); exact rfl)
 | (apply s_k (tunless_T _); exact rfl)
 | (apply s_k (tunless_F _); exact rfl)
 | (apply s_k2 (isSized_T _ _); exact rfl; assumption; omega)
 | (apply s_k2 (isSized_F _ _); exact rfl; assumption; omega)
 | (apply s_s; exact rfl)
 | (apply s_c TY; exact rfl; (first | omega | exact ⟨by omega, by (((with_reducible apply rngsF_ne); omega))⟩))
 | (apply s_m TY; exact rfl; (((with_reducible apply rngsF_sub); omega)); exact rfl)
 | (apply s_alloc TY; exact rfl; exact rfl; exact rfl)
 | (apply s_store TY; (iterate 6 exact rfl)))
           exact ⟨k + 1, by omega, by omega, gh_le ⟨le_upd rfl trivial (le_upd rfl trivial (le_upd rfl trivial (le_upd (congrArg (fun z : Int => AV.f (iv z)) hl) trivial (le_upd rfl trivial (le_upd rfl trivial (le_upd rfl trivial (le_nil _))))))), le_h0 _ _⟩⟩
       · have hwA : wA ws k = 2 := by unfold wA; rw [getD_at hc]; exact if_neg (by omega)
         have hwB : wB ws k = 0 := by unfold wB; rw [getD_at hc, getD_at hp]; exact if_pos (by omega)
         have hl : lerrK ws (firstE [(setupChk s).2, lenE ws.length]) (k + 1) = firstE [lerrK ws (firstE [(setupChk s).2, lenE ws.length]) k, 2, 0] := by rw [lerrK, hwA, hwB]
         repeat (first
 | (apply s_a TY; exact rfl)
 | (apply s_t; exact rfl; (first | assumption | omega))
 | apply w_seq
 | apply w_region
 | (apply w_draw (id := 6) 18 rfl (by kernel_rfl))
 | apply s_nil
 | apply t_norm
 | apply k_norm
 | apply w_block
 | apply w_skip
 | (apply w_condT; exact rfl; exact rfl)
 | (apply s_k (tfirst3_s _ _ _); exact rfl)
 | (apply s_k (tunless_T _); exact rfl)
 | (apply s_k (tunless_F _); exact rfl)
 | (apply s_k2 (isSized_F _ _); exact rfl; assumption; omega)
 | (apply s_s; exact rfl)
 | (apply s_c TY; exact rfl; (first | omega | exact ⟨by omega, by (((with_reducible apply rngsF_ne); omega))⟩))
 | (apply s_m TY; exact rfl; (((with_reducible apply rngsF_sub); omega)); exact rfl)
 | (apply s_alloc TY; exact rfl; exact rfl; exact rfl)
 | (apply s_store TY; (iterate 6 exact rfl)))
         exact ⟨k + 1, by omega, by omega, gh_le ⟨le_upd rfl trivial (le_upd rfl trivial (le_upd rfl trivial (le_upd (congrArg (fun z : Int => AV.f (iv z)) hl) trivial (le_upd rfl trivial (le_upd rfl trivial (le_upd rfl trivial (le_nil _))))))), le_h0 _ _⟩⟩
     · by_cases hC : ws[k - 1].hi < ws[k].lo
       · by_cases hD : -2000000000000 <= ws[k].lo /\ ws[k].lo <= 2000000000000
         · by_cases hE : -2000000000000 <= ws[k].hi /\ ws[k].hi <= 2000000000000
           · have hwA : wA ws k = 0 := by unfold wA; rw [getD_at hc]; exact if_pos (by omega)
             have hwB : wB ws k = 0 := by unfold wB; rw [getD_at hc, getD_at hp]; exact if_pos (by omega)
             have hl : lerrK ws (firstE [(setupChk s).2, lenE ws.length]) (k + 1) = firstE [lerrK ws (firstE [(setupChk s).2, lenE ws.length]) k, 0, 0] := by rw [lerrK, hwA, hwB]
             repeat (first
 | (apply s_a TY; exact rfl)
 | (apply s_t; exact rfl; (first | assumption | omega))
 | (apply s_f; exact rfl; omega)
 | apply w_seq
 | apply w_region
 | (apply w_draw (id := 6) 18 rfl (by kernel_rfl))
 | apply s_nil
 | apply t_norm
 | apply k_norm
 | apply w_block
 | apply w_skip
 | (apply w_condT; exact rfl; exact rfl)
 | (apply s_k (tfirst3_s _ _ _); exact rfl)
 | (apply s_k (tunless_T _); exact rfl)
 | (apply s_k2 (isSized_T _ _); exact rfl; assumption; omega)
 | (apply s_c TY; exact rfl; (first | omega | exact ⟨by omega, by (((with_reducible apply rngsF_ne); omega))⟩))
 | (apply s_z TY; exact rfl; (exact ⟨by omega, by (((with_reducible apply rngsF_ne); omega))⟩))
 | (apply s_l TY; exact rfl; with_reducible assumption)
 | (apply s_m TY; exact rfl; (((with_reducible apply rngsF_sub); omega)); exact rfl)
 | (apply s_alloc TY; exact rfl; exact rfl; exact rfl)
 | (apply s_store TY; (iterate 6 exact rfl)))
             exact ⟨k + 1, by omega, by omega, gh_le ⟨le_upd rfl trivial (le_upd rfl trivial (le_upd rfl trivial (le_upd (congrArg (fun z : Int => AV.f (iv z)) hl) trivial (le_upd rfl trivial (le_upd rfl trivial (le_upd rfl trivial (le_nil _))))))), le_h0 _ _⟩⟩
           · have hwA : wA ws k = 2 := by unfold wA; rw [getD_at hc]; exact if_neg (by omega)
             have hwB : wB ws k = 0 := by unfold wB; rw [getD_at hc, getD_at hp]; exact if_pos (by omega)
             have hl : lerrK ws (firstE [(setupChk s).2, lenE ws.length]) (k + 1) = firstE [lerrK ws (firstE [(setupChk s).2, lenE ws.length]) k, 2, 0] := by rw [lerrK, hwA, hwB]
             repeat (first
 | (apply s_a TY; exact rfl)
 | (apply s_t; exact rfl; (first | assumption | omega))
 | (apply s_f; exact rfl; omega)
 | apply w_seq
 | apply w_region
 | (apply w_draw (id := 6) 18 rfl (by kernel_rfl))
 | apply s_nil
 | apply t_norm
 | apply k_norm
 | apply w_block
 | apply w_skip
 | (apply w_condT; exact rfl; exact rfl)
 | (apply s_k (tfirst3_s _ _ _); exact rfl)
 | (apply s_k (tunless_T _); exact rfl)
 | (apply s_k (tunless_F _); exact rfl)
 | (apply s_k2 (isSized_T _ _); exact rfl; assumption; omega)
 | (apply s_k2 (isSized_F _ _); exact rfl; assumption; omega)
 | (apply s_c TY; exact rfl; (first | omega | exact ⟨by omega, by (((with_reducible apply rngsF_ne); omega))⟩))
 | (apply s_z TY; exact rfl; (exact ⟨by omega, by (((with_reducible apply rngsF_ne); omega))⟩))
 | (apply s_l TY; exact rfl; with_reducible assumption)
 | (apply s_m TY; exact rfl; (((with_reducible apply rngsF_sub); omega)); exact rfl)
 | (apply s_alloc TY; exact rfl; exact rfl; exact rfl)
 | (apply s_store TY; (iterate 6 exact rfl)))
             exact ⟨k + 1, by omega, by omega, gh_le ⟨le_upd rfl trivial (le_upd rfl trivial (le_upd rfl trivial (le_upd (congrArg (fun z : Int => AV.f (iv z)) hl) trivial (le_upd rfl trivial (le_upd rfl trivial (le_upd rfl trivial (le_nil _))))))), le_h0 _ _⟩⟩
         · have hwA : wA ws k = 2 := by unfold wA; rw [getD_at hc]; exact if_neg (by omega)
           have hwB : wB ws k = 0 := by unfold wB; rw [getD_at hc, getD_at hp]; exact if_pos (by omega)
           have hl : lerrK ws (firstE [(setupChk s).2, lenE ws.length]) (k + 1) = firstE [lerrK ws (firstE [(setupChk s).2, lenE ws.length]) k, 2, 0] := by rw [lerrK, hwA, hwB]
           repeat (first
 | (apply s_a TY; exact rfl)
 | (apply s_t; exact rfl; (first | assumption | omega))
 | (apply s_f; exact rfl; omega)
 | apply w_seq
 | apply w_region
 | (apply w_draw (id := 6) 18 rfl (by kernel_rfl))
 | apply s_nil
 | apply t_norm
 | apply k_norm
 | apply w_block
 | apply w_skip
 | (apply w_condT; exact rfl; exact rfl)
 | (apply s_k (tfirst3_s _ _ _); exact rfl)
 | (apply s_k (tunless_T _); exact rfl)
 | (apply s_k (tunless_F _); exact rfl)
 | (apply s_k2 (isSized_F _ _); exact rfl; assumption; omega)
 | (apply s_s; exact rfl)
 | (apply s_c TY; exact rfl; (first | omega | exact ⟨by omega, by (((with_reducible apply rngsF_ne); omega))⟩))
 | (apply s_z TY; exact rfl; (exact ⟨by omega, by (((with_reducible apply rngsF_ne); omega))⟩))
 | (apply s_l TY; exact rfl; with_reducible assumption)
 | (apply s_m TY; exact rfl; (((with_reducible apply rngsF_sub); omega)); exact rfl)
 | (apply s_alloc TY; exact rfl; exact rfl; exact rfl)
 | (apply s_store TY; (iterate 6 exact rfl)))
           exact ⟨k + 1, by omega, by omega, gh_le ⟨le_upd rfl trivial (le_upd rfl trivial (le_upd rfl trivial (le_upd (congrArg (fun z : Int => AV.f (iv z)) hl) trivial (le_upd rfl trivial (le_upd rfl trivial (le_upd rfl trivial (le_nil _))))))), le_h0 _ _⟩⟩
       · by_cases hD : -2000000000000 <= ws[k].lo /\ ws[k].lo <= 2000000000000
         · by_cases hE : -2000000000000 <= ws[k].hi /\ ws[k].hi <= 2000000000000
           · have hwA : wA ws k = 0 := by unfold wA; rw [getD_at hc]; exact if_pos (by omega)
             have hwB : wB ws k = 9 := by unfold wB; rw [getD_at hc, getD_at hp]; exact if_neg (by omega)
             have hl : lerrK ws (firstE [(setupChk s).2, lenE ws.length]) (k + 1) = firstE [lerrK ws (firstE [(setupChk s).2, lenE ws.length]) k, 0, 9] := by rw [lerrK, hwA, hwB]
             repeat (first
 | (apply s_a TY; exact rfl)
 | (apply s_t; exact rfl; (first | assumption | omega))
 | (apply s_f; exact rfl; (first | assumption | omega))
 | apply w_seq
 | apply w_region
 | (apply w_draw (id := 6) 18 rfl (by kernel_rfl))
 | apply s_nil
 | apply t_norm
 | apply k_norm
 | apply w_block
 | apply w_skip
 | (apply w_condT; exact rfl; exact rfl)
 | (apply s_k (tfirst3_s _ _ _); exact rfl)
 | (apply s_k (tunless_T _); exact rfl)
 | (apply s_k (tunless_F _); exact rfl)
 | (apply s_k2 (isSized_T _ _); exact rfl; assumption; omega)
 | (apply s_c TY; exact rfl; (first | omega | exact ⟨by omega, by (((with_reducible apply rngsF_ne); omega))⟩))
 | (apply s_z TY; exact rfl; (exact ⟨by omega, by (((with_reducible apply rngsF_ne); omega))⟩))
 | (apply s_l TY; exact rfl; with_reducible assumption)
 | (apply s_m TY; exact rfl; (((with_reducible apply rngsF_sub); omega)); exact rfl)
 | (apply s_alloc TY; exact rfl; exact rfl; exact rfl)
 | (apply s_store TY; (iterate 6 exact rfl)))
             exact ⟨k + 1, by omega, by omega, gh_le ⟨le_upd rfl trivial (le_upd rfl trivial (le_upd rfl trivial (le_upd (congrArg (fun z : Int => AV.f (iv z)) hl) trivial (le_upd rfl trivial (le_upd rfl trivial (le_upd rfl trivial (le_nil _))))))), le_h0 _ _⟩⟩
           · have hwA : wA ws k = 2 := by unfold wA; rw [getD_at hc]; exact if_neg (by omega)
             have hwB : wB ws k = 9 := by unfold wB; rw [getD_at hc, getD_at hp]; exact if_neg (by omega)
             have hl : lerrK ws (firstE [(setupChk s).2, lenE ws.length]) (k + 1) = firstE [lerrK ws (firstE [(setupChk s).2, lenE ws.length]) k, 2, 9] := by rw [lerrK, hwA, hwB]
             repeat (first
 | (apply s_a TY; exact rfl)
 | (apply s_t; exact rfl; (first | assumption | omega))
 | (apply s_f; exact rfl; (first | assumption | omega))
 | apply w_seq
 | apply w_region
 | (apply w_draw (id := 6) 18 rfl (by kernel_rfl))
 | apply s_nil
 | apply t_norm
 | apply k_norm
 | apply w_block
 | apply w_skip
 | (apply w_condT; exact rfl; exact rfl)
 | (apply s_k (tfirst3_s _ _ _); exact rfl)
 | (apply s_k (tunless_F _); exact rfl)
 | (apply s_k2 (isSized_T _ _); exact rfl; assumption; omega)
 | (apply s_k2 (isSized_F _ _); exact rfl; assumption; omega)
 | (apply s_c TY; exact rfl; (first | omega | exact ⟨by omega, by (((with_reducible apply rngsF_ne); omega))⟩))
 | (apply s_z TY; exact rfl; (exact ⟨by omega, by (((with_reducible apply rngsF_ne); omega))⟩))
 | (apply s_l TY; exact rfl; with_reducible assumption)
 | (apply s_m TY; exact rfl; (((with_reducible apply rngsF_sub); omega)); exact rfl)
 | (apply s_alloc TY; exact rfl; exact rfl; exact rfl)
 | (apply s_store TY; (iterate 6 exact rfl)))
             exact ⟨k + 1, by omega, by omega, gh_le ⟨le_upd rfl trivial (le_upd rfl trivial (le_upd rfl trivial (le_upd (congrArg (fun z : Int => AV.f (iv z)) hl) trivial (le_upd rfl trivial (le_upd rfl trivial (le_upd rfl trivial (le_nil _))))))), le_h0 _ _⟩⟩
         · have hwA : wA ws k = 2 := by unfold wA; rw [getD_at hc]; exact if_neg (by omega)
           have hwB : wB ws k = 9 := by unfold wB; rw [getD_at hc, getD_at hp]; exact if_neg (by omega)
           have hl : lerrK ws (firstE [(setupChk s).2, lenE ws.length]) (k + 1) = firstE [lerrK ws (firstE [(setupChk s).2, lenE ws.length]) k, 2, 9] := by rw [lerrK, hwA, hwB]
           repeat (first
 | (apply s_a TY; exact rfl)
 | (apply s_t; exact rfl; (first | assumption | omega))
 | (apply s_f; exact rfl; (first | assumption | omega))
 | apply w_seq
 | apply w_region
 | (apply w_draw (id := 6) 18 rfl (by kernel_rfl))
 | apply s_nil
 | apply t_norm
 | apply k_norm
 | apply w_block
 | apply w_skip
 | (apply w_condT; exact rfl; exact rfl)
 | (apply s_k (tfirst3_s _ _ _); exact rfl)
 | (apply s_k (tunless_F _); exact rfl)
 | (apply s_k2 (isSized_F _ _); exact rfl; assumption; omega)
 | (apply s_s; exact rfl)
 | (apply s_c TY; exact rfl; (first | omega | exact ⟨by omega, by (((with_reducible apply rngsF_ne); omega))⟩))
 | (apply s_z TY; exact rfl; (exact ⟨by omega, by (((with_reducible apply rngsF_ne); omega))⟩))
 | (apply s_l TY; exact rfl; with_reducible assumption)
 | (apply s_m TY; exact rfl; (((with_reducible apply rngsF_sub); omega)); exact rfl)
 | (apply s_alloc TY; exact rfl; exact rfl; exact rfl)
 | (apply s_store TY; (iterate 6 exact rfl)))
           exact ⟨k + 1, by omega, by omega, gh_le ⟨le_upd rfl trivial (le_upd rfl trivial (le_upd rfl trivial (le_upd (congrArg (fun z : Int => AV.f (iv z)) hl) trivial (le_upd rfl trivial (le_upd rfl trivial (le_upd rfl trivial (le_nil _))))))), le_h0 _ _⟩⟩
   · by_cases hD : -2000000000000 <= ws[k].lo /\ ws[k].lo <= 2000000000000
     · by_cases hE : -2000000000000 <= ws[k].hi /\ ws[k].hi <= 2000000000000
       · have hwA : wA ws k = 0 := by unfold wA; rw [getD_at hc]; exact if_pos (by omega)
         have hwB : wB ws k = 9 := by unfold wB; rw [getD_at hc, getD_at hp]; exact if_neg (by omega)
         have hl : lerrK ws (firstE [(setupChk s).2, lenE ws.length]) (k + 1) = firstE [lerrK ws (firstE [(setupChk s).2, lenE ws.length]) k, 0, 9] := by rw [lerrK, hwA, hwB]
         repeat (first
 | (apply s_a TY; exact rfl)
 | (apply s_t; exact rfl; omega)
 | (apply s_f; exact rfl; assumption)
 | apply w_seq
 | apply w_region
 | (apply w_draw (id := 6) 18 rfl (by kernel_rfl))
 | apply s_nil
 | apply t_norm
 | apply k_norm
 | apply w_block
 | apply w_skip
 | (apply w_condT; exact rfl; exact rfl)
 | (apply s_k (tfirst3_s _ _ _); exact rfl)
 | (apply s_k (tunless_T _); exact rfl)
 | (apply s_k (tunless_F _); exact rfl)
 | (apply s_k2 (isSized_T _ _); exact rfl; assumption; omega)
 | (apply s_s; exact rfl)
 | (apply s_c TY; exact rfl; (first | omega | exact ⟨by omega, by (((with_reducible apply rngsF_ne); omega))⟩))
 | (apply s_m TY; exact rfl; (((with_reducible apply rngsF_sub); omega)); exact rfl)
 | (apply s_alloc TY; exact rfl; exact rfl; exact rfl)
 | (apply s_store TY; (iterate 6 exact rfl)))
         exact ⟨k + 1, by omega, by omega, gh_le ⟨le_upd rfl trivial (le_upd rfl trivial (le_upd rfl trivial (le_upd (congrArg (fun z : Int => AV.f (iv z)) hl) trivial (le_upd rfl trivial (le_upd rfl trivial (le_upd rfl trivial (le_nil _))))))), le_h0 _ _⟩⟩
       · have hwA : wA ws k = 2 := by unfold wA; rw [getD_at hc]; exact if_neg (by omega)
         have hwB : wB ws k = 9 := by unfold wB; rw [getD_at hc, getD_at hp]; exact if_neg (by omega)
         have hl : lerrK ws (firstE [(setupChk s).2, lenE ws.length]) (k + 1) = firstE [lerrK ws (firstE [(setupChk s).2, lenE ws.length]) k, 2, 9] := by rw [lerrK, hwA, hwB]
         repeat (first
 | (apply s_a TY; exact rfl)
 | (apply s_t; exact rfl; omega)
 | (apply s_f; exact rfl; assumption)
 | apply w_seq
 | apply w_region
 | (apply w_draw (id := 6) 18 rfl (by kernel_rfl))
 | apply s_nil
 | apply t_norm
 | apply k_norm
 | apply w_block
 | apply w_skip
 | (apply w_condT; exact rfl; exact rfl)
 | (apply s_k (tfirst3_s _ _ _); exact rfl)
 | (apply s_k (tunless_F _); exact rfl)
 | (apply s_k2 (isSized_T _ _); exact rfl; assumption; omega)
 | (apply s_k2 (isSized_F _ _); exact rfl; assumption; omega)
 | (apply s_s; exact rfl)
 | (apply s_c TY; exact rfl; (first | omega | exact ⟨by omega, by (((with_reducible apply rngsF_ne); omega))⟩))
 | (apply s_m TY; exact rfl; (((with_reducible apply rngsF_sub); omega)); exact rfl)
 | (apply s_alloc TY; exact rfl; exact rfl; exact rfl)
 | (apply s_store TY; (iterate 6 exact rfl)))
         exact ⟨k + 1, by omega, by omega, gh_le ⟨le_upd rfl trivial (le_upd rfl trivial (le_upd rfl trivial (le_upd (congrArg (fun z : Int => AV.f (iv z)) hl) trivial (le_upd rfl trivial (le_upd rfl trivial (le_upd rfl trivial (le_nil _))))))), le_h0 _ _⟩⟩
     · have hwA : wA ws k = 2 := by unfold wA; rw [getD_at hc]; exact if_neg (by omega)
       have hwB : wB ws k = 9 := by unfold wB; rw [getD_at hc, getD_at hp]; exact if_neg (by omega)
       have hl : lerrK ws (firstE [(setupChk s).2, lenE ws.length]) (k + 1) = firstE [lerrK ws (firstE [(setupChk s).2, lenE ws.length]) k, 2, 9] := by rw [lerrK, hwA, hwB]
       repeat (first
 | (apply s_a TY; exact rfl)
 | (apply s_t; exact rfl; omega)
 | (apply s_f; exact rfl; assumption)
 | apply w_seq
 | apply w_region
 | (apply w_draw (id := 6) 18 rfl (by kernel_rfl))
 | apply s_nil
 | apply t_norm
 | apply k_norm
 | apply w_block
 | apply w_skip
 | (apply w_condT; exact rfl; exact rfl)
 | (apply s_k (tfirst3_s _ _ _); exact rfl)
 | (apply s_k (tunless_F _); exact rfl)
 | (apply s_k2 (isSized_F _ _); exact rfl; assumption; omega)
 | (apply s_s; exact rfl)
 | (apply s_c TY; exact rfl; (first | omega | exact ⟨by omega, by (((with_reducible apply rngsF_ne); omega))⟩))
 | (apply s_m TY; exact rfl; (((with_reducible apply rngsF_sub); omega)); exact rfl)
 | (apply s_alloc TY; exact rfl; exact rfl; exact rfl)
 | (apply s_store TY; (iterate 6 exact rfl)))
       exact ⟨k + 1, by omega, by omega, gh_le ⟨le_upd rfl trivial (le_upd rfl trivial (le_upd rfl trivial (le_upd (congrArg (fun z : Int => AV.f (iv z)) hl) trivial (le_upd rfl trivial (le_upd rfl trivial (le_upd rfl trivial (le_nil _))))))), le_h0 _ _⟩⟩
 · have hke : k = ws.length := by omega
   subst hke
   by_cases hF : 0 <= r.lo /\ r.lo <= 1000000000000
   · by_cases hG : 0 <= r.hi /\ r.hi <= 1000000000000
     · by_cases hH : r.lo <= r.hi
       · have hrA : runA r = 0 := by unfold runA; exact if_pos (by omega)
         have hrB : runB r = 0 := by unfold runB; exact if_pos (by omega)
         have hv : liveErrV s ws r = firstE [lerrK ws (firstE [(setupChk s).2, lenE ws.length]) ws.length, 0, 0] := by unfold liveErrV; rw [hrA, hrB]
         by_cases h0 : liveErrV s ws r = 0
         · rw [if_pos h0, h0]
           rw [hv] at h0
           have h0' := h0
           rw [<- hv] at h0
           obtain ⟨z1, z2, z3, z4, z5⟩ := liveErr_parts h0
           have hs := setOk_of z1
           have hdd := hs.dead
           repeat (first
 | (apply s_a TY; exact rfl)
 | (apply s_t; exact rfl; assumption)
 | (apply s_f; exact rfl; omega)
 | apply w_seq
 | apply w_region
 | (apply w_draw (id := 9) 16 rfl (by kernel_rfl))
 | apply s_nil
 | apply t_norm
 | apply t_exit
 | apply k_hit
 | apply w_block
 | apply w_exit
 | apply w_skip
 | (apply w_condF; exact rfl; exact rfl)
 | (apply s_k (tfirst3_s _ _ _); exact rfl)
 | (apply s_k (tunless_T _); exact rfl)
 | (apply s_k1 (isTick_T _); exact rfl; assumption)
 | (apply s_c TY; exact rfl; omega))
           apply w_loop (fun k : Nat => ⟨(Ab.upd (Ab.upd (Ab.upd (Ab.upd (Ab.upd (Ab.upd (Ab.upd (fun _ => .bot) 3 (.f (.pt (setL s) 0))) 5 (.f (.pt (rngF r) 0))) 13 (.f (iv (liveK s ws r k).1))) 14 (.f (iv (liveK s ws r k).2))) 103 (.f (.sl ws.length (rngsF ws)))) 104 (.f (iv ws.length))) 105 (.f (iv (k : Nat)))), (fun _ => none), 0⟩) (fun k => k <= ws.length) (fun k => ws.length - k) 0 (Nat.zero_le _) (gh_le ⟨le_upd rfl trivial (le_upd rfl trivial (le_upd rfl trivial (le_upd rfl trivial (le_upd rfl trivial (le_upd rfl trivial (le_upd rfl trivial (le_nil _))))))), le_h0 _ _⟩)
           intro k hk
           have hbd := liveK_bd (s := s) (ws := ws) z5 k
           by_cases hc : k < ws.length
           · have hwz := wA_zero hc (z3 k hc).1
             by_cases hm : max (liveK s ws r k).2 (ws[k].hi + 1) <= min r.hi (ws[k].hi + s.dead)
             · have hl : liveK s ws r (k + 1) = ((liveK s ws r k).1 - (min r.hi (ws[k].hi + s.dead) - max (liveK s ws r k).2 (ws[k].hi + 1) + 1), min r.hi (ws[k].hi + s.dead) + 1) := by rw [liveK, getD_at hc, liveStep, if_pos hm]
               repeat (first
 | (apply s_a TY; exact rfl)
 | (apply s_t; exact rfl; (first | assumption | omega))
 | apply w_seq
 | apply w_region
 | (apply w_draw (id := 17) 14 rfl (by kernel_rfl))
 | apply s_nil
 | apply t_norm
 | apply k_norm
 | apply w_block
 | apply w_skip
 | (apply w_condT; exact rfl; exact rfl)
 | (apply s_c TY; exact rfl; (first | omega | exact ⟨by omega, by (((with_reducible apply rngsF_ne); omega))⟩))
 | (apply s_m TY; exact rfl; (((with_reducible apply rngsF_sub); omega)); exact rfl)
 | (apply s_alloc TY; exact rfl; exact rfl; exact rfl)
 | (apply s_store TY; (iterate 6 exact rfl)))
               exact ⟨k + 1, by omega, by omega, gh_le ⟨le_upd rfl trivial (le_upd rfl trivial (le_upd rfl trivial (le_upd (congrArg (fun z : Int × Int => AV.f (iv z.2)) hl) trivial (le_upd (congrArg (fun z : Int × Int => AV.f (iv z.1)) hl) trivial (le_upd rfl trivial (le_upd rfl trivial (le_nil _))))))), le_h0 _ _⟩⟩
             · have hl : liveK s ws r (k + 1) = liveK s ws r k := by rw [liveK, getD_at hc, liveStep, if_neg hm]
               repeat (first
 | (apply s_a TY; exact rfl)
 | (apply s_t; exact rfl; omega)
 | (apply s_f; exact rfl; assumption)
 | apply w_seq
 | apply w_region
 | (apply w_draw (id := 17) 14 rfl (by kernel_rfl))
 | apply s_nil
 | apply t_norm
 | apply k_norm
 | apply w_block
 | apply w_skip
 | (apply w_condT; exact rfl; exact rfl)
 | (apply w_condF; exact rfl; exact rfl)
 | (apply s_c TY; exact rfl; (first | omega | exact ⟨by omega, by (((with_reducible apply rngsF_ne); omega))⟩))
 | (apply s_m TY; exact rfl; (((with_reducible apply rngsF_sub); omega)); exact rfl)
 | (apply s_alloc TY; exact rfl; exact rfl; exact rfl)
 | (apply s_store TY; (iterate 6 exact rfl)))
               exact ⟨k + 1, by omega, by omega, gh_le ⟨le_upd rfl trivial (le_upd rfl trivial (le_upd rfl trivial (le_upd (congrArg (fun z : Int × Int => AV.f (iv z.2)) hl) trivial (le_upd (congrArg (fun z : Int × Int => AV.f (iv z.1)) hl) trivial (le_upd rfl trivial (le_upd rfl trivial (le_nil _))))))), le_h0 _ _⟩⟩
           · have hke : k = ws.length := by omega
             subst hke
             repeat (first
 | (apply s_a TY; exact rfl)
 | (apply s_f; exact rfl; omega)
 | apply w_seq
 | apply w_region
 | apply s_nil
 | apply t_norm
 | apply t_exit
 | apply k_hit
 | apply w_exit
 | apply w_ret
 | (apply w_condF; exact rfl; exact rfl))
             exact lv_ret (ret2 rfl (res_tmp rfl) (res_tmp rfl))
         · rw [if_neg h0]
           have h0' := h0
           rw [hv] at h0' ⊢
           repeat (first
 | (apply s_a TY; exact rfl)
 | (apply s_t; exact rfl; assumption)
 | (apply s_f; exact rfl; (first | assumption | omega))
 | apply w_seq
 | apply w_region
 | (apply w_draw (id := 9) 16 rfl (by kernel_rfl))
 | apply s_nil
 | apply t_norm
 | apply t_exit
 | apply t_ret
 | apply k_hit
 | apply w_exit
 | apply w_ret
 | (apply w_condT; exact rfl; exact rfl)
 | (apply w_condF; exact rfl; exact rfl)
 | (apply s_k (tfirst3_s _ _ _); exact rfl)
 | (apply s_k (tunless_T _); exact rfl)
 | (apply s_k1 (isTick_T _); exact rfl; assumption))
           exact lv_ret (ret2 rfl (res_tmp rfl) (res_tmp rfl))
       · have hrA : runA r = 0 := by unfold runA; exact if_pos (by omega)
         have hrB : runB r = 9 := by unfold runB; exact if_neg (by omega)
         have hv : liveErrV s ws r = firstE [lerrK ws (firstE [(setupChk s).2, lenE ws.length]) ws.length, 0, 9] := by unfold liveErrV; rw [hrA, hrB]
         by_cases h0 : liveErrV s ws r = 0
         · rw [if_pos h0, h0]
           rw [hv] at h0
           have h0' := h0
           rw [<- hv] at h0
           exact absurd (firstE3_zero h0').2 (by decide)
         · rw [if_neg h0]
           have h0' := h0
           rw [hv] at h0' ⊢
           repeat (first
 | (apply s_a TY; exact rfl)
 | (apply s_f; exact rfl; (first | assumption | omega))
 | apply w_seq
 | apply w_region
 | (apply w_draw (id := 9) 16 rfl (by kernel_rfl))
 | apply s_nil
 | apply t_norm
 | apply t_exit
 | apply t_ret
 | apply k_hit
 | apply w_exit
 | apply w_ret
 | (apply w_condT; exact rfl; exact rfl)
 | (apply w_condF; exact rfl; exact rfl)
 | (apply s_k (tfirst3_s _ _ _); exact rfl)
 | (apply s_k (tunless_T _); exact rfl)
 | (apply s_k (tunless_F _); exact rfl)
 | (apply s_k1 (isTick_T _); exact rfl; assumption))
           exact lv_ret (ret2 rfl (res_tmp rfl) (res_tmp rfl))
     · by_cases hH : r.lo <= r.hi
       · have hrA : runA r = 2 := by unfold runA; exact if_neg (by omega)
         have hrB : runB r = 0 := by unfold runB; exact if_pos (by omega)
         have hv : liveErrV s ws r = firstE [lerrK ws (firstE [(setupChk s).2, lenE ws.length]) ws.length, 2, 0] := by unfold liveErrV; rw [hrA, hrB]
         by_cases h0 : liveErrV s ws r = 0
         · rw [if_pos h0, h0]
           rw [hv] at h0
           have h0' := h0
           rw [<- hv] at h0
           exact absurd (firstE3_zero h0').2 (by decide)
         · rw [if_neg h0]
           have h0' := h0
           rw [hv] at h0' ⊢
           repeat (first
 | (apply s_a TY; exact rfl)
 | (apply s_t; exact rfl; assumption)
 | (apply s_f; exact rfl; (first | assumption | omega))
 | apply w_seq
 | apply w_region
 | (apply w_draw (id := 9) 16 rfl (by kernel_rfl))
 | apply s_nil
 | apply t_norm
 | apply t_exit
 | apply t_ret
 | apply k_hit
 | apply w_exit
 | apply w_ret
 | (apply w_condT; exact rfl; exact rfl)
 | (apply w_condF; exact rfl; exact rfl)
 | (apply s_k (tfirst3_s _ _ _); exact rfl)
 | (apply s_k (tunless_T _); exact rfl)
 | (apply s_k (tunless_F _); exact rfl)
 | (apply s_k1 (isTick_T _); exact rfl; assumption)
 | (apply s_k1 (isTick_F _); exact rfl; assumption))
           exact lv_ret (ret2 rfl (res_tmp rfl) (res_tmp rfl))
       · have hrA : runA r = 2 := by unfold runA; exact if_neg (by omega)
         have hrB : runB r = 9 := by unfold runB; exact if_neg (by omega)
         have hv : liveErrV s ws r = firstE [lerrK ws (firstE [(setupChk s).2, lenE ws.length]) ws.length, 2, 9] := by unfold liveErrV; rw [hrA, hrB]
         by_cases h0 : liveErrV s ws r = 0
         · rw [if_pos h0, h0]
           rw [hv] at h0
           have h0' := h0
           rw [<- hv] at h0
           exact absurd (firstE3_zero h0').2 (by decide)
         · rw [if_neg h0]
           have h0' := h0
           rw [hv] at h0' ⊢
           repeat (first
 | (apply s_a TY; exact rfl)
 | (apply s_f; exact rfl; (first | assumption | omega))
 | apply w_seq
 | apply w_region
 | (apply w_draw (id := 9) 16 rfl (by kernel_rfl))
 | apply s_nil
 | apply t_norm
 | apply t_exit
 | apply t_ret
 | apply k_hit
 | apply w_exit
 | apply w_ret
 | (apply w_condT; exact rfl; exact rfl)
 | (apply w_condF; exact rfl; exact rfl)
 | (apply s_k (tfirst3_s _ _ _); exact rfl)
 | (apply s_k (tunless_F _); exact rfl)
 | (apply s_k1 (isTick_T _); exact rfl; assumption)
 | (apply s_k1 (isTick_F _); exact rfl; assumption))
           exact lv_ret (ret2 rfl (res_tmp rfl) (res_tmp rfl))
   · by_cases hH : r.lo <= r.hi
     · have hrA : runA r = 2 := by unfold runA; exact if_neg (by omega)
       have hrB : runB r = 0 := by unfold runB; exact if_pos (by omega)
       have hv : liveErrV s ws r = firstE [lerrK ws (firstE [(setupChk s).2, lenE ws.length]) ws.length, 2, 0] := by unfold liveErrV; rw [hrA, hrB]
       by_cases h0 : liveErrV s ws r = 0
       · rw [if_pos h0, h0]
         rw [hv] at h0
         have h0' := h0
         rw [<- hv] at h0
         exact absurd (firstE3_zero h0').2 (by decide)
       · rw [if_neg h0]
         have h0' := h0
         rw [hv] at h0' ⊢
         repeat (first
 | (apply s_a TY; exact rfl)
 | (apply s_t; exact rfl; assumption)
 | (apply s_f; exact rfl; (first | assumption | omega))
 | apply w_seq
 | apply w_region
 | (apply w_draw (id := 9) 16 rfl (by kernel_rfl))
 | apply s_nil
 | apply t_norm
 | apply t_exit
 | apply t_ret
 | apply k_hit
 | apply w_exit
 | apply w_ret
 | (apply w_condT; exact rfl; exact rfl)
 | (apply w_condF; exact rfl; exact rfl)
 | (apply s_k (tfirst3_s _ _ _); exact rfl)
 | (apply s_k (tunless_T _); exact rfl)
 | (apply s_k (tunless_F _); exact rfl)
 | (apply s_k1 (isTick_F _); exact rfl; assumption)
 | (apply s_s; exact rfl))
         exact lv_ret (ret2 rfl (res_tmp rfl) (res_tmp rfl))
     · have hrA : runA r = 2 := by unfold runA; exact if_neg (by omega)
       have hrB : runB r = 9 := by unfold runB; exact if_neg (by omega)
       have hv : liveErrV s ws r = firstE [lerrK ws (firstE [(setupChk s).2, lenE ws.length]) ws.length, 2, 9] := by unfold liveErrV; rw [hrA, hrB]
       by_cases h0 : liveErrV s ws r = 0
       · rw [if_pos h0, h0]
         rw [hv] at h0
         have h0' := h0
         rw [<- hv] at h0
         exact absurd (firstE3_zero h0').2 (by decide)
       · rw [if_neg h0]
         have h0' := h0
         rw [hv] at h0' ⊢
         repeat (first
 | (apply s_a TY; exact rfl)
 | (apply s_f; exact rfl; (first | assumption | omega))
 | apply w_seq
 | apply w_region
 | (apply w_draw (id := 9) 16 rfl (by kernel_rfl))
 | apply s_nil
 | apply t_norm
 | apply t_exit
 | apply t_ret
 | apply k_hit
 | apply w_exit
 | apply w_ret
 | (apply w_condT; exact rfl; exact rfl)
 | (apply w_condF; exact rfl; exact rfl)
 | (apply s_k (tfirst3_s _ _ _); exact rfl)
 | (apply s_k (tunless_F _); exact rfl)
 | (apply s_k1 (isTick_F _); exact rfl; assumption)
 | (apply s_s; exact rfl))
         exact lv_ret (ret2 rfl (res_tmp rfl) (res_tmp rfl))
end Go.Proofs.YtbkdjlahhcofmaaGreatDoor
namespace Go.Ab
open Go Go.RowKit Go.Shelf Go.Proofs Go.Lib
end Go.Ab
namespace Go.Proofs.YtbkdjlahhcofmaaGreatDoor
open Go.Proofs Go.Shelf
open Go Go.RowKit Go.Proofs Go.Shelf Go.Ab
theorem hits_pw {l : List Site} {h : List Hit} (ho : HitsOk l h) : h.Pairwise before := by
 rw [List.pairwise_iff_getElem]
 intro i j hi hj hij
 obtain ⟨d, rfl⟩ : ∃ d, j = i + 1 + d := ⟨j - (i + 1), by omega⟩
 induction d with
 | zero => exact ho.next i hj
 | succ d ih => exact before_trans (ih (by omega) (by omega)) (ho.next (i + 1 + d) hj)
theorem hitsOk_sub {l : List Site} {h h' : List Hit} (ho : HitsOk l h) (hs : h'.Sublist h) : HitsOk l h' := by
 have hp := (hits_pw ho).sublist hs
 rw [List.pairwise_iff_getElem] at hp
 refine ⟨Nat.le_trans hs.length_le ho.len, fun i hi => ?_, fun i hi => hp i (i + 1) (by omega) hi (by omega)⟩
 obtain ⟨j, hj, e⟩ := List.getElem_of_mem (hs.subset (List.getElem_mem hi))
 rw [<- e]; exact ho.hit j hj
def exA : List Site := [⟨1, 1, 0, 0, 0⟩, ⟨1, 2, 0, 0, -17⟩, ⟨1, 3, 0, 0, -34⟩, ⟨2, 1, 100, 0, 0⟩]
def exH : List Hit := [⟨100, 1, 1⟩, ⟨110, 1, 2⟩, ⟨130, 1, 3⟩, ⟨135, 2, 1⟩, ⟨500, 2, 1⟩]
def exS : Setup := ⟨[⟨0, 3, 30, 0, 0⟩], 10, 20, 100⟩
theorem ex3 : setErr exA exS exH = 0 := by decide
theorem sortRng_id {l : List Rng} (hb : LoOk l) (h : l.Pairwise fun x y => x.lo <= y.lo) (hu : ∀ x, x ∈ l -> ∀ y, y ∈ l -> x.lo = y.lo -> x = y) : sortRng l = l := by
 refine List.Perm.eq_of_pairwise (le := fun x y => x.lo <= y.lo) (fun a b ha hb' h1 h2 => ?_) (sortRng_pw l hb) h (sortRng_perm l)
 exact hu a ((sortRng_perm l).mem_iff.1 ha) b hb' (by omega)
theorem ex8 : sortRng [⟨90, 150⟩, ⟨100, 155⟩] = [⟨90, 150⟩, ⟨100, 155⟩] := sortRng_id (by unfold LoOk; decide) (by decide) (by decide)
theorem ex7 : singleV exA exS exH = [⟨90, 150⟩, ⟨100, 155⟩] := by decide
theorem ex9 : eventsV exA exS exH = [⟨90, 155, [0, 1, 2, 3]⟩] := by
 unfold eventsV windowsV joinedV
 rw [ex7, ex8]
 decide
theorem ex13 : liveErrV exS [⟨90, 155⟩] ⟨0, 299⟩ = 0 := by decide
theorem ex14 : liveV exS [⟨90, 155⟩] ⟨0, 299⟩ = 200 := by decide
set_option maxRecDepth 100000 in
theorem exA_s : Summ Tryz.prog GG 95 [] (arrF exA) := by
 refine summW Tryz.func95 rfl rfl 7 rfl (by simp) (fun M0 => ?_)
 repeat (first
 | (apply s_a TY; exact rfl)
 | apply w_seq
 | apply w_region
 | apply s_nil
 | apply t_norm
 | apply w_ret
 | (apply s_alloc TY; exact rfl; exact rfl; exact rfl)
 | (apply s_store TY; (iterate 6 exact rfl)))
 exact lv_ret (ret1 rfl (res_bxs TY rfl rfl rfl rfl rfl))
set_option maxRecDepth 100000 in
theorem exS_s : Summ Tryz.prog GG 96 [] (setF exS) := by
 refine summW Tryz.func96 rfl rfl 4 rfl (by simp) (fun M0 => ?_)
 repeat (first
 | (apply s_a TY; exact rfl)
 | apply w_seq
 | apply w_region
 | apply s_nil
 | apply t_norm
 | apply w_ret
 | (apply s_alloc TY; exact rfl; exact rfl; exact rfl)
 | (apply s_store TY; (iterate 6 exact rfl)))
 exact lv_ret (ret1 rfl (res_bxs TY rfl rfl rfl rfl rfl))
set_option maxRecDepth 100000 in
theorem exH_s : Summ Tryz.prog GG 97 [] (.sl exH.length (hitsF exH)) := by
 refine summW Tryz.func97 rfl rfl 7 rfl (by simp) (fun M0 => ?_)
 repeat (first
 | (apply s_a TY; exact rfl)
 | apply w_seq
 | apply w_region
 | apply s_nil
 | apply t_norm
 | apply w_ret)
 exact lv_ret (ret1 rfl (res_tmp rfl))
def lErrV (ws : List Rng) (r : Rng) : Int := firstE [lerrK ws (lenE ws.length) ws.length, runA r, runB r]
theorem lerrK_e (ws : List Rng) {e : Int} (h : e ≠ 0) : ∀ n, lerrK ws e n = e
 | 0 => rfl
 | n + 1 => by rw [lerrK, lerrK_e ws h n, firstE_hd h]
theorem lerrK_z (ws : List Rng) : ∀ n, (∀ i, i < n -> wA ws i = 0 /\ wB ws i = 0) -> lerrK ws 0 n = 0
 | 0, _ => rfl
 | n + 1, h => by rw [lerrK, lerrK_z ws n (fun i hi => h i (by omega)), (h n (by omega)).1, (h n (by omega)).2]; rfl
theorem lerrK_at (ws : List Rng) {k : Nat} {x : Int} (hz : ∀ i, i < k -> wA ws i = 0 /\ wB ws i = 0) (e : firstE [0, wA ws k, wB ws k] = x) (hx : x ≠ 0) : ∀ m, lerrK ws 0 (k + 1 + m) = x
 | 0 => by rw [Nat.add_zero, lerrK, lerrK_z ws k hz, e]
 | m + 1 => by rw [<- Nat.add_assoc, lerrK, lerrK_at ws hz e hx m, firstE_hd hx]
theorem lErr_len {ws : List Rng} {r : Rng} (h : ¬ ws.length <= 40) : lErrV ws r = 8 := by
 unfold lErrV lenE
 rw [if_neg h, lerrK_e ws (by decide), firstE_hd (by decide)]
theorem lErr_at {ws : List Rng} {r : Rng} {k : Nat} {x : Int} (hl : ws.length <= 40) (hk : k < ws.length) (hz : ∀ i, i < k -> wA ws i = 0 /\ wB ws i = 0) (e : firstE [0, wA ws k, wB ws k] = x) (hx : x ≠ 0) : lErrV ws r = x := by
 obtain ⟨m, hm⟩ : ∃ m, ws.length = k + 1 + m := ⟨ws.length - k - 1, by omega⟩
 unfold lErrV lenE
 rw [if_pos hl, hm, lerrK_at ws hz e hx m, firstE_hd hx]
theorem lErr_run {ws : List Rng} {r : Rng} (hl : ws.length <= 40) (hz : ∀ i, i < ws.length -> wA ws i = 0 /\ wB ws i = 0) : lErrV ws r = firstE [0, runA r, runB r] := by
 unfold lErrV lenE
 rw [if_pos hl, lerrK_z ws _ hz]
theorem liveErr_b {s : Setup} {ws : List Rng} {r : Rng} (h : (setupChk s).2 = 0) : liveErrV s ws r = lErrV ws r := by
 unfold liveErrV lErrV
 rw [h, firstE_tl]
 unfold firstE
 unfold lenE
 split
 · rfl
 · rfl
def lightB (r : Rule) : Bool := decide (r.kind ≠ 3) || decide (r.count <= 6) || decide (40 < r.count)
def fewRulesB (s : Setup) : Bool := decide (s.rules.length <= 6) && !anyP s.rules.length fun i => !lightB (s.rules.getD i default)
def fewB (n : Int) : Bool := decide (n <= 14) || (decide (40 < n) && decide (n <= 42))
set_option maxRecDepth 100000 in
set_option maxHeartbeats 3200000 in
theorem LiveErr_s (ws : List Rng) (r : Rng) : Summ Tryz.prog GG 15 [.sl ws.length (rngsF ws), .agg (rngF r)] (iv (lErrV ws r)) := by
 by_cases h40 : ws.length <= 40
 · refine summW Tryz.func15 rfl rfl 65 rfl (by simp) (fun M0 => ?_)
   repeat (first
 | (apply s_a TY; exact rfl)
 | (apply s_f; exact rfl; omega)
 | apply w_seq
 | apply w_region
 | apply s_nil
 | apply t_norm
 | apply w_block
 | apply w_skip
 | (apply w_condF; exact rfl; exact rfl))
   apply w_loop (fun k : Nat => ⟨(Ab.upd (Ab.upd (Ab.upd (fun _ => .bot) 0 (.f (.sl ws.length (rngsF ws)))) 3 (.f (.pt (rngF r) 0))) 5 (.f (iv (k : Nat)))), (fun _ => none), 0⟩) (fun k => k <= ws.length /\ ∀ i, i < k -> wA ws i = 0 /\ wB ws i = 0) (fun k => ws.length - k) 0 (⟨Nat.zero_le _, fun j h => absurd h (Nat.not_lt_zero j)⟩) (gh_le ⟨le_upd rfl trivial (le_upd rfl trivial (le_upd rfl trivial (le_nil _))), le_h0 _ _⟩)
   intro k ⟨hk, hz⟩
   by_cases hc : k < ws.length
   · have hp : k - 1 < ws.length := by omega
     have hat : (rngsF ws)[((k : Int) - 1).toNat * 2 + 1]? = some (iv ws[k - 1].hi) := by
      rw [show ((k : Int) - 1).toNat = k - 1 by omega]; exact rngsF_f1 hp
     by_cases hD : -2000000000000 <= ws[k].lo /\ ws[k].lo <= 2000000000000
     · by_cases hE : -2000000000000 <= ws[k].hi /\ ws[k].hi <= 2000000000000
       · by_cases hA : ws[k].lo <= ws[k].hi
         · by_cases hB : k = 0
           · have hwA : wA ws k = 0 := by unfold wA; rw [getD_at hc]; exact if_pos (by omega)
             have hwB : wB ws k = 0 := by unfold wB; rw [getD_at hc, getD_at hp]; exact if_pos (by omega)
             repeat (first
 | (apply s_a TY; exact rfl)
 | (apply s_t; exact rfl; omega)
 | (apply s_f; exact rfl; omega)
 | apply w_seq
 | apply w_region
 | (apply w_draw (id := 9) 17 rfl (by kernel_rfl))
 | apply s_nil
 | apply t_norm
 | apply k_norm
 | apply w_block
 | apply w_skip
 | (apply w_condT; exact rfl; exact rfl)
 | (apply w_condF; exact rfl; exact rfl)
 | (apply s_k1 (bwithin_T _ _ _); exact rfl; assumption)
 | (apply s_s; exact rfl)
 | (apply s_c TY; exact rfl; (first | omega | exact ⟨by omega, by (((with_reducible apply rngsF_ne); omega))⟩))
 | (apply s_m TY; exact rfl; (((with_reducible apply rngsF_sub); omega)); exact rfl)
 | (apply s_alloc TY; exact rfl; exact rfl; exact rfl)
 | (apply s_store TY; (iterate 6 exact rfl)))
             exact ⟨k + 1, ⟨by omega, fun i hi => by
              by_cases e : i = k
              · subst e; exact ⟨hwA, hwB⟩
              · exact hz i (by omega)⟩, by omega, gh_le ⟨le_upd rfl trivial (le_upd rfl trivial (le_upd rfl trivial (le_nil _))), le_h0 _ _⟩⟩
           · by_cases hC : ws[k - 1].hi < ws[k].lo
             · have hwA : wA ws k = 0 := by unfold wA; rw [getD_at hc]; exact if_pos (by omega)
               have hwB : wB ws k = 0 := by unfold wB; rw [getD_at hc, getD_at hp]; exact if_pos (by omega)
               repeat (first
 | (apply s_a TY; exact rfl)
 | (apply s_t; exact rfl; omega)
 | (apply s_f; exact rfl; omega)
 | apply w_seq
 | apply w_region
 | (apply w_draw (id := 9) 17 rfl (by kernel_rfl))
 | apply s_nil
 | apply t_norm
 | apply k_norm
 | apply w_block
 | apply w_skip
 | (apply w_condT; exact rfl; exact rfl)
 | (apply w_condF; exact rfl; exact rfl)
 | (apply s_k1 (bwithin_T _ _ _); exact rfl; assumption)
 | (apply s_c TY; exact rfl; (first | omega | exact ⟨by omega, by (((with_reducible apply rngsF_ne); omega))⟩))
 | (apply s_z TY; exact rfl; (exact ⟨by omega, by (((with_reducible apply rngsF_ne); omega))⟩))
 | (apply s_l TY; exact rfl; with_reducible assumption)
 | (apply s_m TY; exact rfl; (((with_reducible apply rngsF_sub); omega)); exact rfl)
 | (apply s_alloc TY; exact rfl; exact rfl; exact rfl)
 | (apply s_store TY; (iterate 6 exact rfl)))
               exact ⟨k + 1, ⟨by omega, fun i hi => by
                by_cases e : i = k
                · subst e; exact ⟨hwA, hwB⟩
                · exact hz i (by omega)⟩, by omega, gh_le ⟨le_upd rfl trivial (le_upd rfl trivial (le_upd rfl trivial (le_nil _))), le_h0 _ _⟩⟩
             · have hwA : wA ws k = 0 := by unfold wA; rw [getD_at hc]; exact if_pos (by omega)
               have hwB : wB ws k = 9 := by unfold wB; rw [getD_at hc, getD_at hp]; exact if_neg (by omega)
               rw [lErr_at h40 hc hz (show firstE [0, wA ws k, wB ws k] = 9 by rw [hwA, hwB]; rfl) (by decide)]
               repeat (first
 | (apply s_a TY; exact rfl)
 | (apply s_t; exact rfl; omega)
 | (apply s_f; exact rfl; omega)
 | apply w_seq
 | apply w_region
 | (apply w_draw (id := 9) 17 rfl (by kernel_rfl))
 | apply s_nil
 | apply t_norm
 | apply t_ret
 | apply k_ret
 | apply w_block
 | apply w_ret
 | apply w_skip
 | (apply w_condT; exact rfl; exact rfl)
 | (apply w_condF; exact rfl; exact rfl)
 | (apply s_k1 (bwithin_T _ _ _); exact rfl; assumption)
 | (apply s_c TY; exact rfl; (first | omega | exact ⟨by omega, by (((with_reducible apply rngsF_ne); omega))⟩))
 | (apply s_z TY; exact rfl; (exact ⟨by omega, by (((with_reducible apply rngsF_ne); omega))⟩))
 | (apply s_l TY; exact rfl; with_reducible assumption)
 | (apply s_m TY; exact rfl; (((with_reducible apply rngsF_sub); omega)); exact rfl)
 | (apply s_alloc TY; exact rfl; exact rfl; exact rfl)
 | (apply s_store TY; (iterate 6 exact rfl)))
               exact lv_ret (ret1 rfl (res_tmp rfl))
         · have hwA : wA ws k = 0 := by unfold wA; rw [getD_at hc]; exact if_pos (by omega)
           have hwB : wB ws k = 9 := by unfold wB; rw [getD_at hc, getD_at hp]; exact if_neg (by omega)
           rw [lErr_at h40 hc hz (show firstE [0, wA ws k, wB ws k] = 9 by rw [hwA, hwB]; rfl) (by decide)]
           repeat (first
 | (apply s_a TY; exact rfl)
 | (apply s_t; exact rfl; omega)
 | apply w_seq
 | apply w_region
 | (apply w_draw (id := 9) 17 rfl (by kernel_rfl))
 | apply s_nil
 | apply t_norm
 | apply t_ret
 | apply k_ret
 | apply w_block
 | apply w_ret
 | apply w_skip
 | (apply w_condT; exact rfl; exact rfl)
 | (apply w_condF; exact rfl; exact rfl)
 | (apply s_k1 (bwithin_T _ _ _); exact rfl; assumption)
 | (apply s_s; exact rfl)
 | (apply s_c TY; exact rfl; (exact ⟨by omega, by (((with_reducible apply rngsF_ne); omega))⟩))
 | (apply s_m TY; exact rfl; (((with_reducible apply rngsF_sub); omega)); exact rfl)
 | (apply s_alloc TY; exact rfl; exact rfl; exact rfl)
 | (apply s_store TY; (iterate 6 exact rfl)))
           exact lv_ret (ret1 rfl (res_tmp rfl))
       · have hwA : wA ws k = 2 := by unfold wA; rw [getD_at hc]; exact if_neg (by omega)
         rw [lErr_at h40 hc hz (show firstE [0, wA ws k, wB ws k] = 2 by rw [hwA]; rfl) (by decide)]
         repeat (first
 | (apply s_a TY; exact rfl)
 | (apply s_t; exact rfl; omega)
 | apply w_seq
 | apply w_region
 | apply s_nil
 | apply t_norm
 | apply t_ret
 | apply k_ret
 | apply w_block
 | apply w_ret
 | apply w_skip
 | (apply w_condT; exact rfl; exact rfl)
 | (apply s_k1 (bwithin_T _ _ _); exact rfl; assumption)
 | (apply s_k1 (bwithin_F _ _ _); exact rfl; assumption)
 | (apply s_c TY; exact rfl; (exact ⟨by omega, by (((with_reducible apply rngsF_ne); omega))⟩))
 | (apply s_m TY; exact rfl; (((with_reducible apply rngsF_sub); omega)); exact rfl)
 | (apply s_alloc TY; exact rfl; exact rfl; exact rfl)
 | (apply s_store TY; (iterate 6 exact rfl)))
         exact lv_ret (ret1 rfl (res_tmp rfl))
     · have hwA : wA ws k = 2 := by unfold wA; rw [getD_at hc]; exact if_neg (by omega)
       rw [lErr_at h40 hc hz (show firstE [0, wA ws k, wB ws k] = 2 by rw [hwA]; rfl) (by decide)]
       repeat (first
 | (apply s_a TY; exact rfl)
 | (apply s_t; exact rfl; omega)
 | apply w_seq
 | apply w_region
 | apply s_nil
 | apply t_norm
 | apply t_ret
 | apply k_ret
 | apply w_block
 | apply w_ret
 | apply w_skip
 | (apply w_condT; exact rfl; exact rfl)
 | (apply s_k1 (bwithin_F _ _ _); exact rfl; assumption)
 | (apply s_s; exact rfl)
 | (apply s_c TY; exact rfl; (exact ⟨by omega, by (((with_reducible apply rngsF_ne); omega))⟩))
 | (apply s_m TY; exact rfl; (((with_reducible apply rngsF_sub); omega)); exact rfl)
 | (apply s_alloc TY; exact rfl; exact rfl; exact rfl)
 | (apply s_store TY; (iterate 6 exact rfl)))
       exact lv_ret (ret1 rfl (res_tmp rfl))
   · have hke : k = ws.length := by omega
     by_cases hF : 0 <= r.lo /\ r.lo <= 1000000000000
     · by_cases hG : 0 <= r.hi /\ r.hi <= 1000000000000
       · by_cases hH : r.lo <= r.hi
         · have hrA : runA r = 0 := by unfold runA; exact if_pos (by omega)
           have hrB : runB r = 0 := by unfold runB; exact if_pos (by omega)
           rw [show lErrV ws r = 0 by rw [lErr_run h40 (fun i hi => hz i (by omega)), hrA, hrB]; rfl]
           repeat (first
 | (apply s_a TY; exact rfl)
 | (apply s_f; exact rfl; omega)
 | apply w_seq
 | apply w_region
 | apply s_nil
 | apply t_norm
 | apply t_exit
 | apply k_hit
 | apply w_exit
 | apply w_ret
 | apply w_skip
 | (apply w_condF; exact rfl; exact rfl)
 | (apply s_k1 (bIsTick_T _); exact rfl; assumption))
           exact lv_ret (ret1 rfl (res_tmp rfl))
         · have hrA : runA r = 0 := by unfold runA; exact if_pos (by omega)
           have hrB : runB r = 9 := by unfold runB; exact if_neg (by omega)
           rw [show lErrV ws r = 9 by rw [lErr_run h40 (fun i hi => hz i (by omega)), hrA, hrB]; rfl]
           repeat (first
 | (apply s_a TY; exact rfl)
 | (apply s_t; exact rfl; omega)
 | (apply s_f; exact rfl; omega)
 | apply w_seq
 | apply w_region
 | apply s_nil
 | apply t_norm
 | apply t_exit
 | apply t_ret
 | apply k_hit
 | apply w_exit
 | apply w_ret
 | apply w_skip
 | (apply w_condT; exact rfl; exact rfl)
 | (apply w_condF; exact rfl; exact rfl)
 | (apply s_k1 (bIsTick_T _); exact rfl; assumption))
           exact lv_ret (ret1 rfl (res_tmp rfl))
       · have hrA : runA r = 2 := by unfold runA; exact if_neg (by omega)
         rw [show lErrV ws r = 2 by rw [lErr_run h40 (fun i hi => hz i (by omega)), hrA]; rfl]
         repeat (first
 | (apply s_a TY; exact rfl)
 | (apply s_f; exact rfl; omega)
 | apply w_seq
 | apply w_region
 | apply s_nil
 | apply t_norm
 | apply t_exit
 | apply t_ret
 | apply k_hit
 | apply w_exit
 | apply w_ret
 | (apply w_condT; exact rfl; exact rfl)
 | (apply w_condF; exact rfl; exact rfl)
 | (apply s_k1 (bIsTick_T _); exact rfl; assumption)
 | (apply s_k1 (bIsTick_F _); exact rfl; assumption))
         exact lv_ret (ret1 rfl (res_tmp rfl))
     · have hrA : runA r = 2 := by unfold runA; exact if_neg (by omega)
       rw [show lErrV ws r = 2 by rw [lErr_run h40 (fun i hi => hz i (by omega)), hrA]; rfl]
       repeat (first
 | (apply s_a TY; exact rfl)
 | (apply s_f; exact rfl; omega)
 | apply w_seq
 | apply w_region
 | apply s_nil
 | apply t_norm
 | apply t_exit
 | apply t_ret
 | apply k_hit
 | apply w_exit
 | apply w_ret
 | (apply w_condT; exact rfl; exact rfl)
 | (apply w_condF; exact rfl; exact rfl)
 | (apply s_k1 (bIsTick_F _); exact rfl; assumption)
 | (apply s_s; exact rfl))
       exact lv_ret (ret1 rfl (res_tmp rfl))
 · rw [lErr_len h40]
   refine summW Tryz.func15 rfl rfl 65 rfl (by simp) (fun M0 => ?_)
   repeat (first
 | (apply s_a TY; exact rfl)
 | (apply s_t; exact rfl; omega)
 | apply w_seq
 | apply w_region
 | apply s_nil
 | apply t_norm
 | apply t_ret
 | apply w_ret
 | (apply w_condT; exact rfl; exact rfl))
   exact lv_ret (ret1 rfl (res_tmp rfl))
theorem light_s (r : Rule) : Summ Tryz.prog GG 100 [.agg (ruleF r)] (bv (lightB r)) := by
 by_cases h1 : r.kind = 3
 · by_cases h2 : r.count <= 6
   · rw [show lightB r = true by unfold lightB; rw [decide_eq_false (fun h => h h1), decide_eq_true h2]; rfl]
     refine summW Tryz.func100 rfl rfl 16 rfl (by simp) (fun M0 => ?_)
     repeat (first
 | (apply s_a TY; exact rfl)
 | (apply s_t; exact rfl; assumption)
 | apply w_seq
 | apply w_region
 | apply s_nil
 | apply t_norm
 | apply w_ret
 | (apply s_s; exact rfl))
     exact lv_ret (ret1 rfl (res_tmp rfl))
   · by_cases h3 : 40 < r.count
     · rw [show lightB r = true by unfold lightB; rw [decide_eq_false (fun h => h h1), decide_eq_false h2, decide_eq_true h3]; rfl]
       refine summW Tryz.func100 rfl rfl 16 rfl (by simp) (fun M0 => ?_)
       repeat (first
 | (apply s_a TY; exact rfl)
 | (apply s_t; exact rfl; assumption)
 | (apply s_f; exact rfl; assumption)
 | apply w_seq
 | apply w_region
 | apply s_nil
 | apply t_norm
 | apply w_ret)
       exact lv_ret (ret1 rfl (res_tmp rfl))
     · rw [show lightB r = false by unfold lightB; rw [decide_eq_false (fun h => h h1), decide_eq_false h2, decide_eq_false h3]; rfl]
       refine summW Tryz.func100 rfl rfl 16 rfl (by simp) (fun M0 => ?_)
       repeat (first
 | (apply s_a TY; exact rfl)
 | (apply s_t; exact rfl; assumption)
 | (apply s_f; exact rfl; assumption)
 | apply w_seq
 | apply w_region
 | apply s_nil
 | apply t_norm
 | apply w_ret)
       exact lv_ret (ret1 rfl (res_tmp rfl))
 · rw [show lightB r = true by unfold lightB; rw [decide_eq_true h1]; rfl]
   refine summW Tryz.func100 rfl rfl 16 rfl (by simp) (fun M0 => ?_)
   repeat (first
 | (apply s_a TY; exact rfl)
 | (apply s_f; exact rfl; assumption)
 | apply w_seq
 | apply w_region
 | apply s_nil
 | apply t_norm
 | apply w_ret
 | (apply s_s; exact rfl))
   exact lv_ret (ret1 rfl (res_tmp rfl))
theorem few_s (n : Int) : Summ Tryz.prog GG 99 [iv n] (bv (fewB n)) := by
 by_cases h1 : n <= 14
 · rw [show fewB n = true by unfold fewB; rw [decide_eq_true h1]; rfl]
   refine summW Tryz.func99 rfl rfl 13 rfl (by simp) (fun M0 => ?_)
   repeat (first
 | (apply s_a TY; exact rfl)
 | (apply s_t; exact rfl; assumption)
 | apply w_seq
 | apply w_region
 | apply s_nil
 | apply t_norm
 | apply w_ret
 | (apply s_s; exact rfl))
   exact lv_ret (ret1 rfl (res_tmp rfl))
 · by_cases h2 : 40 < n
   · by_cases h3 : n <= 42
     · rw [show fewB n = true by unfold fewB; rw [decide_eq_false h1, decide_eq_true h2, decide_eq_true h3]; rfl]
       refine summW Tryz.func99 rfl rfl 13 rfl (by simp) (fun M0 => ?_)
       repeat (first
 | (apply s_a TY; exact rfl)
 | (apply s_t; exact rfl; assumption)
 | (apply s_f; exact rfl; assumption)
 | apply w_seq
 | apply w_region
 | apply s_nil
 | apply t_norm
 | apply w_ret)
       exact lv_ret (ret1 rfl (res_tmp rfl))
     · rw [show fewB n = false by unfold fewB; rw [decide_eq_false h1, decide_eq_true h2, decide_eq_false h3]; rfl]
       refine summW Tryz.func99 rfl rfl 13 rfl (by simp) (fun M0 => ?_)
       repeat (first
 | (apply s_a TY; exact rfl)
 | (apply s_t; exact rfl; assumption)
 | (apply s_f; exact rfl; assumption)
 | apply w_seq
 | apply w_region
 | apply s_nil
 | apply t_norm
 | apply w_ret)
       exact lv_ret (ret1 rfl (res_tmp rfl))
   · rw [show fewB n = false by unfold fewB; rw [decide_eq_false h1, decide_eq_false h2]; rfl]
     refine summW Tryz.func99 rfl rfl 13 rfl (by simp) (fun M0 => ?_)
     repeat (first
 | (apply s_a TY; exact rfl)
 | (apply s_f; exact rfl; assumption)
 | apply w_seq
 | apply w_region
 | apply s_nil
 | apply t_norm
 | apply w_ret
 | (apply s_s; exact rfl))
     exact lv_ret (ret1 rfl (res_tmp rfl))
def FewB (l : List Site) (h : List Hit) : Bool := decide (l.length <= 32) && fewB h.length
set_option maxRecDepth 100000 in
theorem Few_s (l : List Site) (h : List Hit) : Summ Tryz.prog GG 11 [arrF l, .sl h.length (hitsF h)] (bv (FewB l h)) := by
 unfold FewB
 by_cases h1 : l.length <= 32
 · rw [decide_eq_true h1, Bool.true_and]
   have Hf := few_s (h.length : Nat)
   cases hf : fewB (h.length : Nat) with
   | true =>
     rw [hf] at Hf
     refine summW Tryz.func11 rfl rfl 14 rfl (by simp) (fun M0 => ?_)
     repeat (first
 | (apply s_a TY; exact rfl)
 | (apply s_t; exact rfl; omega)
 | apply w_seq
 | apply w_region
 | apply s_nil
 | apply t_norm
 | apply w_ret
 | (apply s_k (Hf); exact rfl))
     exact lv_ret (ret1 rfl (res_tmp rfl))
   | false =>
     rw [hf] at Hf
     refine summW Tryz.func11 rfl rfl 14 rfl (by simp) (fun M0 => ?_)
     repeat (first
 | (apply s_a TY; exact rfl)
 | (apply s_t; exact rfl; omega)
 | apply w_seq
 | apply w_region
 | apply s_nil
 | apply t_norm
 | apply w_ret
 | (apply s_k (Hf); exact rfl))
     exact lv_ret (ret1 rfl (res_tmp rfl))
 · rw [decide_eq_false h1, Bool.false_and]
   refine summW Tryz.func11 rfl rfl 14 rfl (by simp) (fun M0 => ?_)
   repeat (first
 | (apply s_a TY; exact rfl)
 | (apply s_f; exact rfl; omega)
 | apply w_seq
 | apply w_region
 | apply s_nil
 | apply t_norm
 | apply w_ret
 | (apply s_s; exact rfl))
   exact lv_ret (ret1 rfl (res_tmp rfl))
set_option maxRecDepth 100000 in
theorem FewRules_s (s : Setup) : Summ Tryz.prog GG 12 [setF s] (bv (fewRulesB s)) := by
 unfold fewRulesB
 by_cases h6 : s.rules.length <= 6
 · rw [decide_eq_true h6, Bool.true_and]
   rcases idxP_cases s.rules.length (fun i => !lightB (s.rules.getD i default)) with ⟨he, hz⟩ | ⟨q, hq, hz, hp, he⟩
   · rw [show anyP s.rules.length (fun i => !lightB (s.rules.getD i default)) = false from Bool.eq_false_iff.2 fun h => by have := (idxP_pos _ _).2 h; rw [he] at this; omega]
     refine summW Tryz.func12 rfl rfl 22 rfl (by simp) (fun M0 => ?_)
     repeat (first
 | (apply s_a TY; exact rfl)
 | (apply s_f; exact rfl; omega)
 | apply w_seq
 | apply w_region
 | apply s_nil
 | apply t_norm
 | apply w_block
 | apply w_skip
 | (apply w_condF; exact rfl; exact rfl))
     apply w_loop (fun k : Nat => ⟨(Ab.upd (Ab.upd (fun _ => .bot) 1 (.f (.pt (setL s) 0))) 3 (.f (iv (k : Nat)))), (fun _ => none), 0⟩) (fun k => k <= s.rules.length) (fun k => s.rules.length - k) 0 (Nat.zero_le _) (gh_le ⟨le_upd rfl trivial (le_upd rfl trivial (le_nil _)), le_h0 _ _⟩)
     intro k hk
     by_cases hc : k < s.rules.length
     · have HL := light_s s.rules[k]
       have hb := hz k hc
       rw [getD_at hc] at hb
       rw [show lightB s.rules[k] = true by cases hx : lightB s.rules[k] with | true => rfl | false => rw [hx] at hb; cases hb] at HL
       repeat (first
 | (apply s_a TY; exact rfl)
 | (apply s_t; exact rfl; omega)
 | apply w_seq
 | apply w_region
 | apply s_nil
 | apply t_norm
 | apply k_norm
 | apply w_block
 | apply w_skip
 | (apply w_condT; exact rfl; exact rfl)
 | (apply w_condF; exact rfl; exact rfl)
 | (apply s_k (HL); exact rfl)
 | (apply s_c TY; exact rfl; (first | omega | exact ⟨by omega, by (((with_reducible apply rulesF_ne); omega))⟩))
 | (apply s_m TY; exact rfl; (((with_reducible apply rulesF_sub); omega)); exact rfl))
       exact ⟨k + 1, by omega, by omega, gh_le ⟨le_upd rfl trivial (le_upd rfl trivial (le_nil _)), le_h0 _ _⟩⟩
     · repeat (first
 | (apply s_a TY; exact rfl)
 | (apply s_f; exact rfl; omega)
 | apply w_seq
 | apply w_region
 | apply s_nil
 | apply t_norm
 | apply t_exit
 | apply k_hit
 | apply w_exit
 | apply w_ret
 | (apply w_condF; exact rfl; exact rfl))
       exact lv_ret (ret1 rfl (res_tmp rfl))
   · rw [show anyP s.rules.length (fun i => !lightB (s.rules.getD i default)) = true from (idxP_pos _ _).1 (by rw [he]; omega)]
     refine summW Tryz.func12 rfl rfl 22 rfl (by simp) (fun M0 => ?_)
     repeat (first
 | (apply s_a TY; exact rfl)
 | (apply s_f; exact rfl; omega)
 | apply w_seq
 | apply w_region
 | apply s_nil
 | apply t_norm
 | apply w_block
 | apply w_skip
 | (apply w_condF; exact rfl; exact rfl))
     apply w_loop (fun k : Nat => ⟨(Ab.upd (Ab.upd (fun _ => .bot) 1 (.f (.pt (setL s) 0))) 3 (.f (iv (k : Nat)))), (fun _ => none), 0⟩) (fun k => k <= q) (fun k => q - k) 0 (Nat.zero_le _) (gh_le ⟨le_upd rfl trivial (le_upd rfl trivial (le_nil _)), le_h0 _ _⟩)
     intro k hk
     have hc : k < s.rules.length := by omega
     have HL := light_s s.rules[k]
     by_cases hkq : k = q
     · subst hkq
       rw [getD_at hc] at hp
       rw [show lightB s.rules[k] = false by cases hx : lightB s.rules[k] with | false => rfl | true => rw [hx] at hp; cases hp] at HL
       repeat (first
 | (apply s_a TY; exact rfl)
 | (apply s_t; exact rfl; omega)
 | apply w_seq
 | apply w_region
 | apply s_nil
 | apply t_norm
 | apply t_ret
 | apply k_ret
 | apply w_block
 | apply w_ret
 | apply w_skip
 | (apply w_condT; exact rfl; exact rfl)
 | (apply s_k (HL); exact rfl)
 | (apply s_c TY; exact rfl; (exact ⟨by omega, by (((with_reducible apply rulesF_ne); omega))⟩))
 | (apply s_m TY; exact rfl; (((with_reducible apply rulesF_sub); omega)); exact rfl))
       exact lv_ret (ret1 rfl (res_tmp rfl))
     · have hb := hz k (by omega)
       rw [getD_at hc] at hb
       rw [show lightB s.rules[k] = true by cases hx : lightB s.rules[k] with | true => rfl | false => rw [hx] at hb; cases hb] at HL
       repeat (first
 | (apply s_a TY; exact rfl)
 | (apply s_t; exact rfl; omega)
 | apply w_seq
 | apply w_region
 | apply s_nil
 | apply t_norm
 | apply k_norm
 | apply w_block
 | apply w_skip
 | (apply w_condT; exact rfl; exact rfl)
 | (apply w_condF; exact rfl; exact rfl)
 | (apply s_k (HL); exact rfl)
 | (apply s_c TY; exact rfl; (first | omega | exact ⟨by omega, by (((with_reducible apply rulesF_ne); omega))⟩))
 | (apply s_m TY; exact rfl; (((with_reducible apply rulesF_sub); omega)); exact rfl))
       exact ⟨k + 1, by omega, by omega, gh_le ⟨le_upd rfl trivial (le_upd rfl trivial (le_nil _)), le_h0 _ _⟩⟩
 · rw [decide_eq_false h6, Bool.false_and]
   refine summW Tryz.func12 rfl rfl 22 rfl (by simp) (fun M0 => ?_)
   repeat (first
 | (apply s_a TY; exact rfl)
 | (apply s_t; exact rfl; omega)
 | apply w_seq
 | apply w_region
 | apply s_nil
 | apply t_norm
 | apply t_ret
 | apply w_ret
 | (apply w_condT; exact rfl; exact rfl))
   exact lv_ret (ret1 rfl (res_tmp rfl))
theorem pw_snoc {α : Type} {R : α -> α -> Prop} {a : List α} {x : α} : (a ++ [x]).Pairwise R ↔ a.Pairwise R /\ ∀ y ∈ a, R y x := by
 rw [List.pairwise_append]
 constructor
 · rintro ⟨h1, _, h3⟩; exact ⟨h1, fun y hy => h3 y hy x (by simp)⟩
 · rintro ⟨h1, h3⟩; exact ⟨h1, by simp, fun y hy z hz => by simp at hz; subst hz; exact h3 y hy⟩
def Apart (o : List Rng) : Prop := (∀ x, x ∈ o -> x.lo <= x.hi) /\ o.Pairwise fun x y => x.hi + 1 < y.lo
def Covers (o : List Rng) (r : Rng) : Prop := ∃ x, x ∈ o /\ x.lo <= r.lo /\ r.hi <= x.hi
theorem mrg_good {S : Rng -> Prop} {o : List Rng} {r : Rng} (ha : Apart o) (hle : ∀ x, x ∈ o -> x.lo <= r.lo) (hr : r.lo <= r.hi) (hS : ∀ x, x ∈ o -> ∃ q, S q /\ q.lo = x.lo /\ q.hi <= x.hi) (hSr : S r) :
 Apart (mrg o r) /\ (∀ x, x ∈ mrg o r -> x.lo <= r.lo) /\ Covers (mrg o r) r /\ (∀ q, Covers o q -> Covers (mrg o r) q) /\ ∀ x, x ∈ mrg o r -> ∃ q, S q /\ q.lo = x.lo /\ q.hi <= x.hi := by
 rcases List.eq_nil_or_concat o with rfl | ⟨pre, x, rfl⟩
 · rw [mrg_nil]
   refine ⟨⟨fun y hy => ?_, by simp⟩, fun y hy => ?_, ⟨r, by simp, Int.le_refl _, Int.le_refl _⟩, (fun q ⟨y, hy, _⟩ => by cases hy), fun y hy => ?_⟩
   · simp at hy; subst hy; exact hr
   · simp at hy; subst hy; exact Int.le_refl _
   · simp at hy; subst hy; exact ⟨y, hSr, rfl, Int.le_refl _⟩
 · rw [List.concat_eq_append] at *
   rw [mrg_snoc]
   obtain ⟨h1, h2⟩ := ha
   obtain ⟨h3, h4⟩ := pw_snoc.1 h2
   have hx := h1 x (by simp)
   have hxr := hle x (by simp)
   by_cases c : r.lo <= x.hi + 1
   · rw [if_pos c]
     refine ⟨⟨fun y hy => ?_, pw_snoc.2 ⟨h3, fun y hy => h4 y hy⟩⟩, fun y hy => ?_, ⟨⟨x.lo, max x.hi r.hi⟩, by simp, hxr, by simp only; omega⟩, fun q ⟨y, hy, e1, e2⟩ => ?_, fun y hy => ?_⟩
     · rcases List.mem_append.1 hy with hy | hy
       · exact h1 y (by simp [hy])
       · simp at hy; subst hy; simp only; omega
     · rcases List.mem_append.1 hy with hy | hy
       · exact hle y (by simp [hy])
       · simp at hy; subst hy; exact hxr
     · rcases List.mem_append.1 hy with hy | hy
       · exact ⟨y, by simp [hy], e1, e2⟩
       · simp at hy; subst hy; exact ⟨⟨y.lo, max y.hi r.hi⟩, by simp, e1, by simp only; omega⟩
     · rcases List.mem_append.1 hy with hy | hy
       · exact hS y (by simp [hy])
       · simp at hy; subst hy
         obtain ⟨q, q1, q2, q3⟩ := hS x (by simp)
         exact ⟨q, q1, q2, by simp only; omega⟩
   · rw [if_neg c]
     refine ⟨⟨fun y hy => ?_, pw_snoc.2 ⟨h2, fun y hy => ?_⟩⟩, fun y hy => ?_, ⟨r, by simp, Int.le_refl _, Int.le_refl _⟩, fun q ⟨y, hy, e1, e2⟩ => ⟨y, List.mem_append_left _ hy, e1, e2⟩, fun y hy => ?_⟩
     · rcases List.mem_append.1 hy with hy | hy
       · exact h1 y hy
       · simp at hy; subst hy; exact hr
     · rcases List.mem_append.1 hy with hy | hy
       · have := h4 y hy; omega
       · simp at hy; subst hy; omega
     · rcases List.mem_append.1 hy with hy | hy
       · exact hle y hy
       · simp at hy; subst hy; exact Int.le_refl _
     · rcases List.mem_append.1 hy with hy | hy
       · exact hS y hy
       · simp at hy; subst hy; exact ⟨y, hSr, rfl, Int.le_refl _⟩
theorem merge_good {S : Rng -> Prop} : ∀ (L o : List Rng), Apart o -> (∀ x, x ∈ o -> ∀ r, r ∈ L -> x.lo <= r.lo) -> L.Pairwise (fun x y => x.lo <= y.lo) -> (∀ r, r ∈ L -> r.lo <= r.hi) -> (∀ x, x ∈ o -> ∃ q, S q /\ q.lo = x.lo /\ q.hi <= x.hi) -> (∀ r, r ∈ L -> S r) ->
 Apart (L.foldl mrg o) /\ (∀ q, Covers o q \/ q ∈ L -> Covers (L.foldl mrg o) q) /\ ∀ x, x ∈ L.foldl mrg o -> ∃ q, S q /\ q.lo = x.lo /\ q.hi <= x.hi
 | [], o, ha, _, _, _, hS, _ => ⟨ha, (fun q hq => by rcases hq with h | h; exact h; cases h), hS⟩
 | r :: L, o, ha, hle, hp, hl, hS, hL => by
   obtain ⟨p1, p2⟩ := List.pairwise_cons.1 hp
   obtain ⟨g1, g2, g3, g4, g5⟩ := mrg_good (S := S) ha (fun x hx => hle x hx r (List.mem_cons_self ..)) (hl r (List.mem_cons_self ..)) hS (hL r (List.mem_cons_self ..))
   obtain ⟨m1, m2, m3⟩ := merge_good (S := S) L (mrg o r) g1 (fun x hx q hq => by have := g2 x hx; have := p1 q hq; omega) p2 (fun q hq => hl q (List.mem_cons_of_mem _ hq)) g5 (fun q hq => hL q (List.mem_cons_of_mem _ hq))
   refine ⟨m1, fun q hq => ?_, m3⟩
   rcases hq with h | h
   · exact m2 q (.inl (g4 q h))
   · rcases List.mem_cons.1 h with rfl | h
     · exact m2 q (.inl g3)
     · exact m2 q (.inr h)
theorem joined_good {l : List Rng} (hb : LoOk l) (hl : ∀ r, r ∈ l -> r.lo <= r.hi) : Apart (joinedV l) /\ (∀ q, q ∈ l -> Covers (joinedV l) q) /\ ∀ x, x ∈ joinedV l -> ∃ q, q ∈ l /\ q.lo = x.lo /\ q.hi <= x.hi := by
 obtain ⟨m1, m2, m3⟩ := merge_good (S := fun q => q ∈ l) (sortRng l) [] ⟨by simp, List.Pairwise.nil⟩ (by simp) (sortRng_pw l hb) (fun r hr => hl r ((sortRng_perm l).mem_iff.1 hr)) (by simp) (fun r hr => (sortRng_perm l).mem_iff.1 hr)
 exact ⟨m1, fun q hq => m2 q (.inr ((sortRng_perm l).mem_iff.2 hq)), m3⟩
theorem layL_ge {r : Rule} {h : List Hit} {way : Int} {a : Nat} (hr : 0 <= r.reach) : ∀ {m k : Nat}, k ∈ layL r h way a m -> (h.getD a default).tm <= (h.getD k default).tm
 | 0, k, hk => by simp only [layL, List.mem_singleton] at hk; subst hk; exact Int.le_refl _
 | m + 1, k, hk => by
   simp only [layL, nextL, List.mem_filter] at hk
   obtain ⟨i, hi, hf⟩ := List.any_eq_true.1 hk.2
   have := layL_ge hr hi
   unfold folB withinB at hf
   simp only [Bool.and_eq_true, decide_eq_true_eq] at hf
   omega
theorem accW_ge {r : Rule} {h : List Hit} {a : Nat} (hr : 0 <= r.reach) : ∀ {q : Nat} {e : Int}, accW r h a q = some e -> (h.getD a default).tm <= e
 | 0, e, he => by cases he
 | q + 1, e, he => endA_mem (P := fun e => (h.getD a default).tm <= e) (fun x hx => accW_ge hr hx) (fun k hk => layL_ge hr hk) he
theorem fireV_ge {l : List Site} {r : Rule} {h : List Hit} {a : Nat} {e : Int} (hr : 0 <= r.reach) (ho : HitsOk l h) (ha : a < h.length) (he : fireV l r h a = some e) : (h.getD a default).tm <= e := by
 unfold fireV at he
 split at he
 · exact accW_ge hr he
 · obtain ⟨x, hx, rfl⟩ := fireL_mem he
   obtain ⟨k, hk, hkx⟩ := List.getElem_of_mem hx
   rw [List.getElem_drop] at hkx
   rw [getD_at ha, <- hkx]
   exact ho.tm a (a + k) (by omega) (by simp at hk; omega)
theorem fires_ge {l : List Site} {r : Rule} {h : List Hit} (hr : 0 <= r.reach) (ho : HitsOk l h) {f : Fire} (hf : f ∈ firesV l r h h.length) : f.lo <= f.hi := by
 obtain ⟨i, e, hi, he, rfl⟩ := firesV_mem hf
 exact fireV_ge hr ho hi he
theorem ruleOk_mem {s : Setup} (hs : SetOk s) {r : Rule} (hr : r ∈ s.rules) : ruleErr r = 0 := by
 obtain ⟨k, hk, rfl⟩ := List.getElem_of_mem hr
 exact hs.rule k hk
theorem single_le {l : List Site} {s : Setup} {h : List Hit} (hs : SetOk s) (ho : HitsOk l h) {w : Rng} (hw : w ∈ singleV l s h) : w.lo <= w.hi /\ ∃ k, k < h.length /\ w.lo <= (h.getD k default).tm /\ (h.getD k default).tm <= w.hi := by
 obtain ⟨r, hr, hw⟩ := List.mem_flatMap.1 hw
 obtain ⟨f, hf, rfl⟩ := List.mem_map.1 hw
 have h1 := fires_ge (ruleOk_of (ruleOk_mem hs hr)).2.2.2.1.1 ho hf
 obtain ⟨i, e, hi, he, rfl⟩ := firesV_mem hf
 have b := hs.before
 have c := hs.after
 simp only at h1
 unfold winF
 simp only
 exact ⟨by omega, i, hi, by omega, by omega⟩
structure WinOk (h : List Hit) (W : List Rng) : Prop where
 apart : Apart W
 hit : ∀ i (hi : i < W.length), ∃ k, k < h.length /\ W[i].lo <= (h.getD k default).tm /\ (h.getD k default).tm <= W[i].hi
 asc : ∀ i j, i <= j -> j < h.length -> (h.getD i default).tm <= (h.getD j default).tm
 bd : ∀ i (hi : i < W.length), W[i].hi <= 1152921504606846976 /\ -1152921504606846976 <= W[i].hi
theorem winOk_of {l : List Site} {s : Setup} {h : List Hit} (hs : SetOk s) (ho : HitsOk l h) : WinOk h (windowsV l s h) := by
 have hb := single_lo hs ho
 obtain ⟨j1, j2, j3⟩ := joined_good hb (fun r hr => (single_le hs ho hr).1)
 refine ⟨j1, fun i hi => ?_, fun i j hij hj => ?_, fun i hi => ?_⟩
 · unfold windowsV at hi ⊢
   obtain ⟨q, q1, q2, q3⟩ := j3 _ (List.getElem_mem hi)
   obtain ⟨_, k, hk, k1, k2⟩ := single_le hs ho q1
   exact ⟨k, hk, by omega, by omega⟩
 · rw [getD_at (show i < h.length by omega), getD_at hj]; exact ho.tm i j hij hj
 · have hh : HiOk (windowsV l s h) := by
    unfold windowsV joinedV
    rw [<- mgK_all]
    exact mgK_hi (fun r hr => single_hi hs ho r ((sortRng_perm _).mem_iff.1 hr)) _
   have := hh _ (List.getElem_mem hi)
   exact ⟨this.2, this.1⟩
theorem WinOk.lt {h : List Hit} {W : List Rng} (o : WinOk h W) {i j : Nat} (hij : i < j) (hj : j < W.length) : (W[i]'(by omega)).hi + 1 < W[j].lo := List.pairwise_iff_getElem.1 o.apart.2 i j (by omega) hj hij
theorem WinOk.le {h : List Hit} {W : List Rng} (o : WinOk h W) {i : Nat} (hi : i < W.length) : W[i].lo <= W[i].hi := o.apart.1 _ (List.getElem_mem hi)
theorem WinOk.ge {h : List Hit} {W : List Rng} (o : WinOk h W) : ∀ i (hi : i < W.length), ∃ k, i <= k /\ k < h.length /\ W[i].lo <= (h.getD k default).tm /\ (h.getD k default).tm <= W[i].hi
 | 0, hi => by obtain ⟨k, h1, h2⟩ := o.hit 0 hi; exact ⟨k, Nat.zero_le _, h1, h2⟩
 | i + 1, hi => by
   obtain ⟨k, k1, k2, k3, k4⟩ := o.ge i (by omega)
   obtain ⟨q, q1, q2, q3⟩ := o.hit (i + 1) hi
   have hlt := o.lt (show i < i + 1 by omega) hi
   refine ⟨q, ?_, q1, q2, q3⟩
   by_cases hq : q <= k
   · have := o.asc q k hq k2; omega
   · omega
theorem WinOk.len {h : List Hit} {W : List Rng} (o : WinOk h W) : W.length <= h.length := by
 by_cases e : W.length = 0
 · omega
 · obtain ⟨k, k1, k2, _⟩ := o.ge (W.length - 1) (by omega)
   omega
def inW (h : List Hit) (W : List Rng) (k i : Nat) : Bool := withinB (h.getD k default).tm (W.getD i default).lo (W.getD i default).hi
theorem inW_iff {h : List Hit} {W : List Rng} {k i : Nat} (hi : i < W.length) : inW h W k i = true ↔ W[i].lo <= (h.getD k default).tm /\ (h.getD k default).tm <= W[i].hi := by
 unfold inW withinB
 rw [getD_at hi]
 simp
theorem WinOk.one {h : List Hit} {W : List Rng} (o : WinOk h W) {k i j : Nat} (hi : i < W.length) (hj : j < W.length) (h1 : inW h W k i = true) (h2 : inW h W k j = true) : i = j := by
 rw [inW_iff hi] at h1
 rw [inW_iff hj] at h2
 rcases Nat.lt_trichotomy i j with e | e | e
 · have := o.lt e hj; omega
 · exact e
 · have := o.lt e hi; omega
def townK (h : List Hit) (W : List Rng) (n k : Nat) : Int := idxP n (inW h W k) + 1
def ownM (h : List Hit) (W : List Rng) (n : Nat) (done : List Nat) : List Int := (List.range h.length).map fun k => if k ∈ done then (n : Int) + 1 else townK h W n k
def hN (h : List Hit) (w : Rng) : List Nat := (List.range h.length).filter fun i => withinB (h.getD i default).tm w.lo w.hi
theorem hitsInV_hN (h : List Hit) (w : Rng) : hitsInV h w = natsL (hN h w) := rfl
theorem hN_len (h : List Hit) (w : Rng) : (hN h w).length <= h.length := Nat.le_trans (List.length_filter_le _ _) (by simp)
theorem ownK_in {h : List Hit} {W : List Rng} (o : WinOk h W) {n k i : Nat} (hi : i < n) (hn : n <= W.length) (h1 : inW h W k i = true) : townK h W n k = (i : Int) + 1 := by
 unfold townK
 rw [idxP_at hi (fun j hj => ?_) h1]
 cases e : inW h W k j with
 | false => rfl
 | true => have := o.one (by omega) (by omega) h1 e; omega
theorem fire_win {l : List Site} {s : Setup} {h : List Hit} (hs : SetOk s) (ho : HitsOk l h) {r : Rule} (hr : r ∈ s.rules) {f : Fire} (hf : f ∈ firesV l r h h.length) :
 ∃ j, ∃ (hj : j < (windowsV l s h).length), (windowsV l s h)[j].lo <= f.lo - s.before /\ f.hi + s.after <= (windowsV l s h)[j].hi /\ ∀ k, f.lo <= (h.getD k default).tm -> (h.getD k default).tm <= f.hi -> townK h (windowsV l s h) (windowsV l s h).length k = (j : Int) + 1 := by
 obtain ⟨j1, j2, j3⟩ := joined_good (single_lo hs ho) (fun r hr => (single_le hs ho hr).1)
 obtain ⟨x, hx, x1, x2⟩ := j2 (winF s f) (List.mem_flatMap.2 ⟨r, hr, List.mem_map.2 ⟨f, hf, rfl⟩⟩)
 obtain ⟨j, hj, rfl⟩ := List.getElem_of_mem hx
 unfold winF at x1 x2
 simp only at x1 x2
 have b := hs.before
 have c := hs.after
 refine ⟨j, hj, x1, x2, fun k k1 k2 => ownK_in (winOk_of hs ho) hj (Nat.le_refl _) ((inW_iff hj).2 ?_)⟩
 show (joinedV (singleV l s h))[j].lo <= _ /\ _ <= (joinedV (singleV l s h))[j].hi
 exact ⟨by omega, by omega⟩
theorem fireL_many {nr : Hit -> Bool} {t0 w : Int} (hn : ∀ x, nr x = true) : ∀ (L : List Hit) (k : Nat) (hk : k < L.length), (∀ j (hj : j < L.length), j <= k -> L[j].tm - t0 <= w) -> fireL nr t0 w ((k : Int) + 1) L = some L[k].tm
 | [], _, hk, _ => by cases hk
 | x :: L, 0, _, hw => by
   unfold fireL
   have := hw 0 (by simp) (Nat.le_refl _)
   simp only [List.getElem_cons_zero] at this
   rw [if_neg (by omega), if_pos (hn x), if_pos (by omega)]
   rfl
 | x :: L, k + 1, hk, hw => by
   unfold fireL
   have := hw 0 (by simp) (Nat.zero_le _)
   simp only [List.getElem_cons_zero] at this
   rw [if_neg (by omega), if_pos (hn x), if_neg (by omega), show ((k + 1 : Nat) : Int) + 1 - 1 = (k : Int) + 1 by omega]
   exact fireL_many hn L k (by simpa using hk) fun j hj hjk => by
    have := hw (j + 1) (by simp; omega) (by omega)
    simpa using this
theorem fire_many {l : List Site} {r : Rule} {h : List Hit} (ho : HitsOk l h) (hk : r.kind = 0) {c i : Nat} (hc : r.count = (c : Int)) (h1 : 1 <= c) (hi : i + c <= h.length) (hw : (h.getD (i + c - 1) default).tm - (h.getD i default).tm <= r.window) : fireV l r h i = some (h.getD (i + c - 1) default).tm := by
 unfold fireV
 rw [if_neg (by omega), hc, show ((c : Nat) : Int) = ((c - 1 : Nat) : Int) + 1 by omega]
 have hb : c - 1 < (h.drop i).length := by rw [List.length_drop]; omega
 rw [fireL_many (fun x => by unfold nearB; rw [if_neg (by omega), if_neg (by omega)]) (h.drop i) (c - 1) hb (fun j hj hjc => ?_)]
 · rw [List.getElem_drop, getD_at (show i + c - 1 < h.length by omega)]
   congr 2
   congr 1
   omega
 · rw [List.getElem_drop]
   rw [getD_at (show i + c - 1 < h.length by omega)] at hw
   have := ho.tm (i + j) (i + c - 1) (by omega) (by omega)
   omega
def EndP (r : Rule) (h : List Hit) (way : Int) (a m : Nat) (x : Int) : Prop := ∃ k, k ∈ layL r h way a m /\ x = (h.getD k default).tm
def IsMinO (P : Int -> Prop) : Option Int -> Prop
 | none => ∀ x, ¬ P x
 | some e => P e /\ ∀ x, P x -> e <= x
theorem endA_spec {h : List Hit} : ∀ (l : List Nat) (acc : Option Int) (P : Int -> Prop), IsMinO P acc -> IsMinO (fun x => P x \/ ∃ k, k ∈ l /\ x = (h.getD k default).tm) (endA h acc l)
 | [], none, P, hP => fun x hx => by
   rcases hx with hx | ⟨k, hk, _⟩
   · exact hP x hx
   · cases hk
 | [], some e, P, hP => ⟨.inl hP.1, fun x hx => by
  rcases hx with hx | ⟨k, hk, _⟩
  · exact hP.2 x hx
  · cases hk⟩
 | q :: l, acc, P, hP => by
   have h1 : IsMinO (fun x => P x \/ x = (h.getD q default).tm) (minA acc (h.getD q default).tm) := by
    unfold minA
    split
    · exact ⟨.inr rfl, fun x hx => hx.elim (fun hx => absurd hx (hP x)) (fun hx => by omega)⟩
    · rename_i e
      split
      · exact ⟨.inr rfl, fun x hx => hx.elim (fun hx => by have := hP.2 x hx; omega) (fun hx => by omega)⟩
      · exact ⟨.inl hP.1, fun x hx => hx.elim (hP.2 x) (fun hx => by omega)⟩
   have h2 := endA_spec (h := h) l (minA acc (h.getD q default).tm) _ h1
   have hiff : ∀ x, ((P x \/ x = (h.getD q default).tm) \/ ∃ k, k ∈ l /\ x = (h.getD k default).tm) ↔ (P x \/ ∃ k, k ∈ q :: l /\ x = (h.getD k default).tm) := fun x => by
    constructor
    · rintro ((hx | hx) | ⟨k, hk, hx⟩)
      · exact .inl hx
      · exact .inr ⟨q, List.mem_cons_self .., hx⟩
      · exact .inr ⟨k, List.mem_cons_of_mem _ hk, hx⟩
    · rintro (hx | ⟨k, hk, hx⟩)
      · exact .inl (.inl hx)
      · rcases List.mem_cons.1 hk with rfl | hk
        · exact .inl (.inr hx)
        · exact .inr ⟨k, hk, hx⟩
   rw [show endA h acc (q :: l) = endA h (minA acc (h.getD q default).tm) l from rfl]
   cases he : endA h (minA acc (h.getD q default).tm) l with
   | none => rw [he] at h2; exact fun x hx => h2 x ((hiff x).2 hx)
   | some e => rw [he] at h2; exact ⟨(hiff e).1 h2.1, fun x hx => h2.2 x ((hiff x).2 hx)⟩
theorem hits_tm {l : List Site} {h : List Hit} (ho : HitsOk l h) : h.Pairwise fun x y => x.tm <= y.tm := List.pairwise_iff_getElem.2 fun i j hi hj hij => ho.tm i j (by omega) hj
theorem drop_tm {l : List Site} {h : List Hit} (ho : HitsOk l h) (a : Nat) : (h.drop a).Pairwise fun x y => x.tm <= y.tm := (hits_tm ho).sublist (List.drop_sublist _ _)
def cntE (nr : Hit -> Bool) (e : Int) (L : List Hit) : Nat := (L.filter fun x => nr x && decide (x.tm <= e)).length
theorem cntE_cons (nr : Hit -> Bool) (e : Int) (x : Hit) (L : List Hit) : cntE nr e (x :: L) = cntE nr e L + (if nr x = true /\ x.tm <= e then 1 else 0) := by
 unfold cntE
 rw [List.filter_cons]
 by_cases h : nr x = true /\ x.tm <= e
 · rw [if_pos (by simp [h.1, h.2]), if_pos h, List.length_cons]
 · rw [if_neg (by simpa using h), if_neg h]; rfl
theorem cntE_zero {nr : Hit -> Bool} {e : Int} {L : List Hit} (h : ∀ y, y ∈ L -> e < y.tm) : cntE nr e L = 0 := by
 unfold cntE
 rw [List.length_eq_zero_iff, List.filter_eq_nil_iff]
 intro y hy
 have := h y hy
 simp; intro _; omega
theorem cntE_sub {nr : Hit -> Bool} {e : Int} {L M : List Hit} (h : L.Sublist M) : cntE nr e L <= cntE nr e M := (h.filter _).length_le
theorem fireL_cnt {nr : Hit -> Bool} {t0 w : Int} : ∀ (L : List Hit) (left e : Int), 1 <= left -> L.Pairwise (fun x y => x.tm <= y.tm) -> fireL nr t0 w left L = some e -> left <= (cntE nr e L : Int) /\ e - t0 <= w
 | [], left, e, _, _, h => by simp [fireL] at h
 | x :: L, left, e, hl, hp, h => by
   obtain ⟨p1, p2⟩ := List.pairwise_cons.1 hp
   have hxe : x.tm <= e := by
    obtain ⟨y, hy, rfl⟩ := fireL_mem h
    rcases List.mem_cons.1 hy with rfl | hy
    · exact Int.le_refl _
    · exact p1 y hy
   rw [fireL] at h
   by_cases hw : w < x.tm - t0
   · rw [if_pos hw] at h; cases h
   rw [if_neg hw] at h
   rw [cntE_cons]
   by_cases hn : nr x = true
   · rw [if_pos ⟨hn, hxe⟩]
     rw [if_pos hn] at h
     by_cases h0 : left - 1 = 0
     · rw [if_pos h0] at h; cases h; omega
     · rw [if_neg h0] at h
       have := fireL_cnt L (left - 1) e (by omega) p2 h
       omega
   · rw [if_neg hn, if_neg (by omega)] at h
     have := fireL_cnt L left e hl p2 h
     omega
theorem cnt_fireL {nr : Hit -> Bool} {t0 w : Int} : ∀ (L : List Hit) (left e : Int), 1 <= left -> L.Pairwise (fun x y => x.tm <= y.tm) -> left <= (cntE nr e L : Int) -> e - t0 <= w -> ∃ e', fireL nr t0 w left L = some e' /\ e' <= e
 | [], left, e, hl, _, h, _ => by simp [cntE] at h; omega
 | x :: L, left, e, hl, hp, h, hw => by
   obtain ⟨p1, p2⟩ := List.pairwise_cons.1 hp
   by_cases hxe : x.tm <= e
   · rw [cntE_cons] at h
     rw [fireL, if_neg (by omega)]
     by_cases hn : nr x = true
     · rw [if_pos ⟨hn, hxe⟩] at h
       rw [if_pos hn]
       by_cases h0 : left - 1 = 0
       · rw [if_pos h0]; exact ⟨_, rfl, hxe⟩
       · rw [if_neg h0]; exact cnt_fireL L (left - 1) e (by omega) p2 (by omega) hw
     · rw [if_neg (fun q => hn q.1)] at h
       rw [if_neg hn, if_neg (by omega)]
       exact cnt_fireL L left e hl p2 (by omega) hw
   · rw [cntE_zero (fun y hy => by
    rcases List.mem_cons.1 hy with rfl | hy
    · omega
    · have := p1 y hy; omega)] at h
     omega
def Asc (h : List Hit) : Prop := h.Pairwise before
theorem HitsOk.asc {l : List Site} {h : List Hit} (o : HitsOk l h) : Asc h := List.pairwise_iff_getElem.2 fun i j _ hj hij => o.lt j i hj hij
theorem sub_of_asc : ∀ (M L : List Hit), Asc L -> Asc M -> (∀ x, x ∈ L -> x ∈ M) -> L.Sublist M
 | M, [], _, _, _ => List.nil_sublist _
 | [], x :: L, _, _, h => by have := h x (List.mem_cons_self ..); cases this
 | y :: M, x :: L, hL, hM, h => by
   obtain ⟨l1, l2⟩ := List.pairwise_cons.1 hL
   obtain ⟨m1, m2⟩ := List.pairwise_cons.1 hM
   rcases List.mem_cons.1 (h x (List.mem_cons_self ..)) with rfl | hx
   · refine List.Sublist.cons_cons _ (sub_of_asc M L l2 m2 fun z hz => ?_)
     rcases List.mem_cons.1 (h z (List.mem_cons_of_mem _ hz)) with rfl | hz2
     · exact absurd (l1 _ hz) before_irr
     · exact hz2
   · refine List.Sublist.cons _ (sub_of_asc M (x :: L) hL m2 fun z hz => ?_)
     rcases List.mem_cons.1 (h z hz) with rfl | hz2
     · rcases List.mem_cons.1 hz with rfl | hz3
       · exact absurd (m1 _ hx) before_irr
       · exact absurd (before_trans (m1 _ hx) (l1 _ hz3)) before_irr
     · exact hz2
theorem asc_uniq {L M : List Hit} (hL : Asc L) (hM : Asc M) (h : ∀ x, x ∈ L ↔ x ∈ M) : L = M :=
 (sub_of_asc M L hL hM fun x hx => (h x).1 hx).eq_of_length_le (sub_of_asc L M hM hL fun x hx => (h x).2 hx).length_le
theorem mem_idx {g : List Hit} {x : Hit} (h : x ∈ g) : ∃ b, b < g.length /\ g.getD b default = x := by
 obtain ⟨b, hb, rfl⟩ := List.getElem_of_mem h
 exact ⟨b, hb, by simp [List.getD_eq_getElem?_getD, List.getElem?_eq_getElem hb]⟩
theorem getD_e {h : List Hit} {a : Nat} (ha : a < h.length) : h.getD a default = h[a] := by simp [List.getD_eq_getElem?_getD, List.getElem?_eq_getElem ha]
theorem getD_mem {h : List Hit} {a : Nat} (ha : a < h.length) : h.getD a default ∈ h := by
 rw [List.getD_eq_getElem?_getD, List.getElem?_eq_getElem ha]; exact List.getElem_mem ha
theorem drop_sub {l : List Site} {h g : List Hit} {M : Int} (oh : HitsOk l h) (og : HitsOk l g) (hsub : ∀ x, x ∈ h -> x.tm <= M -> x ∈ g) {a b : Nat} (ha : a < h.length) (hb : b < g.length) (e : g.getD b default = h.getD a default) : ((h.drop a).filter fun x => decide (x.tm <= M)).Sublist (g.drop b) := by
 have ea : h.getD a default = h[a] := by simp [List.getD_eq_getElem?_getD, List.getElem?_eq_getElem ha]
 have eb : g.getD b default = g[b] := by simp [List.getD_eq_getElem?_getD, List.getElem?_eq_getElem hb]
 refine sub_of_asc _ _ (oh.asc.sublist (List.filter_sublist.trans (List.drop_sublist _ _))) (og.asc.sublist (List.drop_sublist _ _)) fun x hx => ?_
 obtain ⟨hx, hxM⟩ := List.mem_filter.1 hx
 obtain ⟨j, hj, rfl⟩ := List.getElem_of_mem hx
 rw [List.length_drop] at hj
 rw [List.getElem_drop] at hxM ⊢
 obtain ⟨k, hk, e2⟩ := List.getElem_of_mem (hsub _ (List.getElem_mem (h := (by omega : a + j < h.length))) (of_decide_eq_true hxM))
 rw [<- e2]
 have hbk : b <= k := by
  refine Nat.le_of_not_lt fun hlt => ?_
  have h1 := og.lt b k hb hlt
  rw [e2, <- eb, e, ea] at h1
  by_cases hj0 : j = 0
  · subst hj0; exact before_irr h1
  · exact before_irr (before_trans (oh.lt (a + j) a (by omega) (by omega)) h1)
 have : g[k] = (g.drop b)[k - b]'(by rw [List.length_drop]; omega) := by rw [List.getElem_drop]; congr 1; omega
 rw [this]; exact List.getElem_mem _
theorem cntE_filter {nr : Hit -> Bool} {e M : Int} (he : e <= M) : ∀ L : List Hit, cntE nr e L = cntE nr e (L.filter fun x => decide (x.tm <= M))
 | [] => rfl
 | x :: L => by
   by_cases hx : x.tm <= M
   · rw [List.filter_cons_of_pos (by simpa using hx), cntE_cons, cntE_cons, cntE_filter he L]
   · rw [List.filter_cons_of_neg (by simpa using hx), cntE_cons, cntE_filter he L, if_neg (fun q => hx (Int.le_trans q.2 he)), Nat.add_zero]
theorem slow_min (r : Rule) (h : List Hit) (a : Nat) : IsMinO (fun x => EndP r h 1 a (r.count - 1).toNat x \/ EndP r h (-1) a (r.count - 1).toNat x) (slowV r h a) := by
 have s1 := endA_spec (h := h) (layL r h 1 a (r.count - 1).toNat) none (fun _ => False) (fun x hx => hx)
 have s2 := endA_spec (h := h) (layL r h (-1) a (r.count - 1).toNat) _ _ s1
 have e : slowV r h a = endA h (endA h none (layL r h 1 a (r.count - 1).toNat)) (layL r h (-1) a (r.count - 1).toNat) := rfl
 rw [<- e] at s2
 cases hv : slowV r h a with
 | none => rw [hv] at s2; exact fun x hx => s2 x (hx.elim (fun hx => .inl (.inr hx)) (fun hx => .inr hx))
 | some v =>
   rw [hv] at s2
   refine ⟨?_, fun x hx => s2.2 x (hx.elim (fun hx => .inl (.inr hx)) (fun hx => .inr hx))⟩
   rcases s2.1 with (hx | hx) | hx
   · exact hx.elim
   · exact .inl hx
   · exact .inr hx
theorem minO_less {P Q : Int -> Prop} {e : Int} {o : Option Int} (h : IsMinO P (some e)) (k : IsMinO Q o) (hpq : ∀ x, P x -> ∃ y, y <= x /\ Q y) : ∃ e', o = some e' /\ e' <= e := by
 obtain ⟨y, hy, hq⟩ := hpq e h.1
 cases o with
 | none => exact absurd hq (k y)
 | some e' => exact ⟨e', rfl, Int.le_trans (k.2 y hq) hy⟩
theorem folB_iff {r : Rule} {h : List Hit} {way : Int} {i k : Nat} : folB r h way i k = true ↔ (h.getD k default).line = (h.getD i default).line /\ (h.getD k default).sensor = (h.getD i default).sensor + way /\ r.reach <= (h.getD k default).tm - (h.getD i default).tm /\ (h.getD k default).tm - (h.getD i default).tm <= r.window := by
 unfold folB withinB
 simp only [Bool.and_eq_true, decide_eq_true_eq, and_assoc]
theorem layL_tm {r : Rule} {h : List Hit} {way : Int} {a : Nat} : ∀ {m k : Nat}, k ∈ layL r h way a m -> (h.getD k default).tm <= (h.getD a default).tm + (m : Int) * r.window
 | 0, k, hk => by
   simp only [layL, List.mem_singleton] at hk
   subst hk; simp
 | m + 1, k, hk => by
   rw [show layL r h way a (m + 1) = nextL r h way (layL r h way a m) h.length from rfl] at hk
   simp only [nextL, List.mem_filter, List.mem_range, List.any_eq_true] at hk
   obtain ⟨_, j, hj, hf⟩ := hk
   have := layL_tm hj
   rw [folB_iff] at hf
   have e : ((m + 1 : Nat) : Int) * r.window = (m : Int) * r.window + r.window := by rw [Int.natCast_succ, Int.add_mul, Int.one_mul]
   rw [e]; omega
theorem layL_more {r r' : Rule} {h g : List Hit} {way M : Int} {a b : Nat} (hw0 : 0 <= r.window) (hreach : r'.reach = r.reach) (hwin : r'.window = r.window) (hsub : ∀ x, x ∈ h -> x.tm <= M -> x ∈ g) (e : g.getD b default = h.getD a default) :
 ∀ {m k : Nat}, (h.getD a default).tm + (m : Int) * r.window <= M -> k ∈ layL r h way a m -> ∃ k', k' ∈ layL r' g way b m /\ g.getD k' default = h.getD k default
 | 0, k, _, hk => by
   simp only [layL, List.mem_singleton] at hk
   subst hk
   exact ⟨b, by simp [layL], e⟩
 | m + 1, k, hM, hk => by
   have hkM := Int.le_trans (layL_tm hk) hM
   have e1 : ((m + 1 : Nat) : Int) * r.window = (m : Int) * r.window + r.window := by rw [Int.natCast_succ, Int.add_mul, Int.one_mul]
   rw [e1] at hM
   rw [show layL r h way a (m + 1) = nextL r h way (layL r h way a m) h.length from rfl] at hk
   simp only [nextL, List.mem_filter, List.mem_range, List.any_eq_true] at hk
   obtain ⟨hkl, j, hj, hf⟩ := hk
   obtain ⟨j', hj', ej⟩ := layL_more hw0 hreach hwin hsub e (m := m) (by omega) hj
   obtain ⟨k', hk', ek⟩ := mem_idx (hsub _ (getD_mem hkl) hkM)
   refine ⟨k', ?_, ek⟩
   rw [show layL r' g way b (m + 1) = nextL r' g way (layL r' g way b m) g.length from rfl]
   simp only [nextL, List.mem_filter, List.mem_range, List.any_eq_true]
   refine ⟨hk', j', hj', ?_⟩
   rw [folB_iff] at hf ⊢
   rw [ej, ek, hreach, hwin]; exact hf
theorem layL_less {r : Rule} {h : List Hit} {way : Int} {a m : Nat} (h0 : 0 <= r.reach) : ∀ {d k : Nat}, k ∈ layL r h way a (m + d) -> ∃ k', k' ∈ layL r h way a m /\ (h.getD k' default).tm <= (h.getD k default).tm
 | 0, k, hk => ⟨k, hk, Int.le_refl _⟩
 | d + 1, k, hk => by
   rw [show layL r h way a (m + (d + 1)) = nextL r h way (layL r h way a (m + d)) h.length from rfl] at hk
   simp only [nextL, List.mem_filter, List.mem_range, List.any_eq_true] at hk
   obtain ⟨hkl, j, hj, hf⟩ := hk
   obtain ⟨k', h1, h2⟩ := layL_less h0 hj
   rw [folB_iff] at hf
   exact ⟨k', h1, by omega⟩
theorem endP_less {r r' : Rule} {h g : List Hit} {way M : Int} {a b m m' : Nat} (hw0 : 0 <= r.window) (h0 : 0 <= r.reach) (hreach : r'.reach = r.reach) (hwin : r'.window = r.window) (hsub : ∀ x, x ∈ h -> x.tm <= M -> x ∈ g) (e : g.getD b default = h.getD a default) (hm : m' <= m) (hM : (h.getD a default).tm + (m : Int) * r.window <= M) {x : Int} (hx : EndP r h way a m x) : ∃ y, y <= x /\ EndP r' g way b m' y := by
 obtain ⟨k, hk, rfl⟩ := hx
 obtain ⟨d, rfl⟩ : ∃ d, m = m' + d := ⟨m - m', by omega⟩
 obtain ⟨k1, h1, h2⟩ := layL_less h0 hk
 have h5 : (m' : Int) * r.window <= ((m' + d : Nat) : Int) * r.window := Int.mul_le_mul_of_nonneg_right (by omega) hw0
 obtain ⟨k2, h3, h4⟩ := layL_more hw0 hreach hwin hsub e (by omega) h1
 exact ⟨_, h2, k2, h3, by rw [h4]⟩
def lenR (r : Rule) : Int := if r.kind = 3 then r.window * (r.count - 1) else r.window
theorem lenR_pos {r : Rule} (hr : ruleErr r = 0) : 0 <= lenR r := by
 obtain ⟨_, h1, h2, _, _⟩ := ruleOk_of hr
 unfold lenR
 split
 · exact Int.mul_nonneg (by omega) (by omega)
 · omega
theorem nearB_rule {l : List Site} {r r' : Rule} (hk : r'.kind = r.kind) (hr : r'.reach = r.reach) (hh : r'.height = r.height) (x : Hit) : nearB l r' x = nearB l r x := by
 funext y; unfold nearB; rw [hk, hr, hh]
structure Eases (M : Int) (r r' : Rule) (h g : List Hit) : Prop where
 kind : r'.kind = r.kind
 reach : r'.reach = r.reach
 height : r'.height = r.height
 count : 1 <= r'.count /\ r'.count <= r.count
 window : r.window <= r'.window
 slow : r.kind = 3 -> r'.window = r.window
 sub : ∀ x, x ∈ h -> x.tm <= M -> x ∈ g
theorem fire_less {l : List Site} {r r' : Rule} {h g : List Hit} {a : Nat} {e M : Int} (oh : HitsOk l h) (og : HitsOk l g) (hr : ruleErr r = 0) (E : Eases M r r' h g) (ha : a < h.length) (hM : (h.getD a default).tm + lenR r <= M) (he : fireV l r h a = some e) :
 ∃ b, b < g.length /\ g.getD b default = h.getD a default /\ ∃ e', fireV l r' g b = some e' /\ e' <= e := by
 obtain ⟨_, hcc, hww, hre, _⟩ := ruleOk_of hr
 have hlp := lenR_pos hr
 obtain ⟨b, hb, eb⟩ := mem_idx (E.sub _ (getD_mem ha) (by omega))
 refine ⟨b, hb, eb, ?_⟩
 have hc := E.count
 unfold fireV at he ⊢
 rw [E.kind]
 by_cases h3 : r.kind = 3
 · rw [if_pos h3] at he ⊢
   have hM2 : (h.getD a default).tm + (((r.count - 1).toNat : Nat) : Int) * r.window <= M := by
    unfold lenR at hM
    rw [if_pos h3, Int.mul_comm] at hM
    rw [Int.toNat_of_nonneg (by omega)]; exact hM
   have m1 := slow_min r h a
   rw [he] at m1
   refine minO_less m1 (slow_min r' g b) fun x hx => ?_
   rcases hx with hx | hx
   · obtain ⟨y, y1, y2⟩ := endP_less hww.1 hre.1 E.reach (E.slow h3) E.sub eb (show (r'.count - 1).toNat <= (r.count - 1).toNat by omega) hM2 hx
     exact ⟨y, y1, .inl y2⟩
   · obtain ⟨y, y1, y2⟩ := endP_less hww.1 hre.1 E.reach (E.slow h3) E.sub eb (show (r'.count - 1).toNat <= (r.count - 1).toNat by omega) hM2 hx
     exact ⟨y, y1, .inr y2⟩
 · rw [if_neg h3] at he ⊢
   have hM2 : (h.getD a default).tm + r.window <= M := by unfold lenR at hM; rwa [if_neg h3] at hM
   rw [nearB_rule E.kind E.reach E.height, eb]
   have h1 := fireL_cnt _ _ _ (by omega) (drop_tm oh a) he
   rw [cntE_filter (M := M) (by omega)] at h1
   have h2 := cntE_sub (nr := nearB l r (h.getD a default)) (e := e) (drop_sub oh og E.sub ha hb eb)
   have h3 := E.window
   exact cnt_fireL _ _ _ hc.1 (drop_tm og b) (by omega) (by omega)
theorem fire_tm {l : List Site} {r : Rule} {h : List Hit} {a : Nat} (oh : HitsOk l h) (hr : ruleErr r = 0) (ha : a < h.length) : (h.getD a default).tm + lenR r <= 1000000000000000 := by
 obtain ⟨_, h1, h2, _, _⟩ := ruleOk_of hr
 have ht := (oh.hit a ha).tm
 rw [<- getD_e ha] at ht
 unfold lenR
 split
 · have : r.window * (r.count - 1) <= 1000000 * 39 := Int.mul_le_mul (by omega) (by omega) (by omega) (by omega)
   omega
 · omega
theorem fires_less {l : List Site} {r r' : Rule} {h g : List Hit} (oh : HitsOk l h) (og : HitsOk l g) (hr : ruleErr r = 0) (E : Eases 1000000000000000 r r' h g) {f : Fire} (hf : f ∈ firesV l r h h.length) :
 ∃ a b e e', a < h.length /\ f = ⟨(a : Nat), (h.getD a default).tm, e⟩ /\ b < g.length /\ (⟨(b : Nat), (h.getD a default).tm, e'⟩ : Fire) ∈ firesV l r' g g.length /\ g.getD b default = h.getD a default /\ e' <= e := by
 obtain ⟨a, e, ha, he, rfl⟩ := firesV_mem hf
 obtain ⟨b, hb, eb, e', he', hle⟩ := fire_less oh og hr E ha (fire_tm oh hr ha) he
 refine ⟨a, b, e, e', ha, rfl, hb, ?_, eb, hle⟩
 unfold firesV
 rw [List.mem_filterMap]
 exact ⟨b, List.mem_range.2 hb, by rw [he', eb]; rfl⟩
def insH : List Hit -> Hit -> List Hit
 | [], h => [h]
 | y :: o, h => if before y h then y :: insH o h else if y = h then y :: o else h :: y :: o
theorem insH_mem {h x : Hit} : ∀ {o : List Hit}, x ∈ insH o h ↔ x = h \/ x ∈ o
 | [] => by simp [insH]
 | y :: o => by
   unfold insH
   split
   · rw [List.mem_cons, insH_mem, List.mem_cons, or_left_comm]
   · split
     · rename_i e
       subst e
       simp
     · simp
theorem insH_asc {h : Hit} : ∀ {o : List Hit}, Asc o -> Asc (insH o h)
 | [], _ => List.pairwise_singleton _ _
 | y :: o, ha => by
   obtain ⟨a1, a2⟩ := List.pairwise_cons.1 ha
   unfold insH
   split
   · rename_i hb
     refine List.pairwise_cons.2 ⟨fun z hz => ?_, insH_asc a2⟩
     rcases insH_mem.1 hz with rfl | hz
     · exact hb
     · exact a1 z hz
   · rename_i hb
     split
     · exact ha
     · rename_i hne
       have hyh : before h y := by
        rcases before_tot (a := y) (b := h) with h1 | h1 | h1
        · exact absurd h1 hb
        · exact absurd h1 hne
        · exact h1
       refine List.pairwise_cons.2 ⟨fun z hz => ?_, ha⟩
       rcases List.mem_cons.1 hz with rfl | hz
       · exact hyh
       · exact before_trans hyh (a1 z hz)
def allH (l : List Stm) : List Hit := l.flatMap fun s => s.hits
def mergeH (l : List Hit) : List Hit := l.foldl insH []
theorem foldl_insH_mem {x : Hit} : ∀ {l : List Hit} {o : List Hit}, x ∈ l.foldl insH o ↔ x ∈ o \/ x ∈ l
 | [], o => by simp
 | y :: l, o => by
   rw [List.foldl_cons, foldl_insH_mem, insH_mem, List.mem_cons]
   constructor
   · rintro ((h | h) | h)
     · exact .inr (.inl h)
     · exact .inl h
     · exact .inr (.inr h)
   · rintro (h | h | h)
     · exact .inl (.inr h)
     · exact .inl (.inl h)
     · exact .inr h
theorem foldl_insH_asc : ∀ {l : List Hit} {o : List Hit}, Asc o -> Asc (l.foldl insH o)
 | [], _, h => h
 | _ :: l, _, h => foldl_insH_asc (l := l) (insH_asc h)
theorem mergeH_mem {l : List Hit} {x : Hit} : x ∈ mergeH l ↔ x ∈ l := by unfold mergeH; rw [foldl_insH_mem]; simp
theorem mergeH_asc (l : List Hit) : Asc (mergeH l) := foldl_insH_asc List.Pairwise.nil
def keepK (s : List Hit) (n : Nat) : List Hit := ((List.range n).filter fun i => decide (i = 0) || decide (s.getD i default ≠ s.getD (i - 1) default)).map fun i => s.getD i default
theorem keepK_zero (s : List Hit) : keepK s 0 = [] := rfl
theorem keepK_succ (s : List Hit) (n : Nat) : keepK s (n + 1) = keepK s n ++ (if n = 0 \/ s.getD n default ≠ s.getD (n - 1) default then [s.getD n default] else []) := by
 unfold keepK
 rw [List.range_succ, List.filter_append, List.map_append]
 congr 1
 by_cases h : n = 0 \/ s.getD n default ≠ s.getD (n - 1) default
 · rw [if_pos h, List.filter_cons, if_pos (by simpa using h)]; rfl
 · rw [if_neg h, List.filter_cons, if_neg (by simpa using h)]; rfl
theorem getD_eq {s : List Hit} {i : Nat} (h : i < s.length) : s.getD i default = s[i] := by simp [List.getD_eq_getElem?_getD, List.getElem?_eq_getElem h]
theorem keepK_take {s : List Hit} : ∀ {n : Nat}, n <= s.length -> (∀ i, 0 < i -> i < n -> s.getD i default ≠ s.getD (i - 1) default) -> keepK s n = s.take n
 | 0, _, _ => rfl
 | n + 1, hn, h => by
   rw [keepK_succ, keepK_take (by omega) (fun i h0 hi => h i h0 (by omega)), List.take_succ_eq_append_getElem (by omega), getD_eq (by omega), if_pos]
   by_cases h0 : n = 0
   · exact .inl h0
   · right; rw [<- getD_eq]; exact h n (by omega) (by omega)
theorem keepK_mem {s : List Hit} : ∀ {n : Nat}, n <= s.length -> ∀ {x : Hit}, x ∈ keepK s n ↔ ∃ i, i < n /\ s.getD i default = x
 | 0, _, x => by simp [keepK_zero]
 | n + 1, hn, x => by
   rw [keepK_succ, List.mem_append, keepK_mem (by omega)]
   constructor
   · rintro (⟨i, hi, e⟩ | h)
     · exact ⟨i, by omega, e⟩
     · split at h
       · simp at h; exact ⟨n, by omega, by simpa using h.symm⟩
       · cases h
   · rintro ⟨i, hi, e⟩
     by_cases hin : i < n
     · exact .inl ⟨i, hin, e⟩
     · have : i = n := by omega
       subst this
       by_cases hc : i = 0 \/ s.getD i default ≠ s.getD (i - 1) default
       · right; rw [if_pos hc]; simp [<- e]
       · left
         have h0 : i ≠ 0 := fun h => hc (.inl h)
         exact ⟨i - 1, by omega, by rw [<- Classical.not_not.1 (fun h => hc (.inr h))]; exact e⟩
def Weak (s : List Hit) : Prop := s.Pairwise fun x y => ¬ before y x
theorem keepK_asc {s : List Hit} (hw : Weak s) : ∀ {n : Nat}, n <= s.length -> Asc (keepK s n)
 | 0, _ => List.Pairwise.nil
 | n + 1, hn => by
   rw [keepK_succ]
   split
   · rename_i hc
     refine List.pairwise_append.2 ⟨keepK_asc hw (by omega), List.pairwise_singleton _ _, fun x hx y hy => ?_⟩
     rw [List.mem_singleton] at hy
     subst hy
     obtain ⟨i, hi, rfl⟩ := (keepK_mem (by omega)).1 hx
     have h0 : n ≠ 0 := by omega
     have hne := hc.resolve_left h0
     have hp := List.pairwise_iff_getElem.1 hw
     have h1 := hp (n - 1) n (by omega) (by omega) (by omega)
     rw [<- getD_eq (by omega), <- getD_eq (by omega)] at h1
     have hlt : before (s.getD (n - 1) default) (s.getD n default) := by
      rcases before_tot (a := s.getD (n - 1) default) (b := s.getD n default) with h | h | h
      · exact h
      · exact absurd h.symm hne
      · exact absurd h h1
     by_cases hi1 : i = n - 1
     · subst hi1; exact hlt
     · have h2 := hp i (n - 1) (by omega) (by omega) (by omega)
       rw [<- getD_eq (by omega), <- getD_eq (by omega)] at h2
       rcases before_tot (a := s.getD i default) (b := s.getD (n - 1) default) with h | h | h
       · exact before_trans h hlt
       · rw [h]; exact hlt
       · exact absurd h h2
   · rw [List.append_nil]; exact keepK_asc hw (by omega)
theorem keepK_merge {s l : List Hit} (hw : Weak s) (hp : s.Perm l) : keepK s s.length = mergeH l :=
 asc_uniq (keepK_asc hw (Nat.le_refl _)) (mergeH_asc l) fun x => by
  rw [keepK_mem (Nat.le_refl _), mergeH_mem, <- hp.mem_iff]
  constructor
  · rintro ⟨i, hi, rfl⟩; exact getD_mem hi
  · exact mem_idx
def InO (o : List Rng) (t : Int) : Prop := ∃ x, x ∈ o /\ x.lo <= t /\ t <= x.hi
theorem mrg_in {o : List Rng} {r : Rng} (ha : Apart o) (hle : ∀ x, x ∈ o -> x.lo <= r.lo) (hr : r.lo <= r.hi) (t : Int) : InO (mrg o r) t ↔ InO o t \/ (r.lo <= t /\ t <= r.hi) := by
 rcases List.eq_nil_or_concat o with rfl | ⟨pre, x, rfl⟩
 · rw [mrg_nil]
   constructor
   · rintro ⟨y, hy, h1⟩; simp at hy; subst hy; exact .inr h1
   · rintro (⟨y, hy, _⟩ | h1)
     · cases hy
     · exact ⟨r, by simp, h1⟩
 · rw [List.concat_eq_append] at *
   rw [mrg_snoc]
   have hx := ha.1 x (by simp)
   have hxr := hle x (by simp)
   by_cases c : r.lo <= x.hi + 1
   · rw [if_pos c]
     constructor
     · rintro ⟨y, hy, h1, h2⟩
       rcases List.mem_append.1 hy with hy | hy
       · exact .inl ⟨y, by simp [hy], h1, h2⟩
       · simp at hy; subst hy
         simp only at h1 h2
         by_cases d : t <= x.hi
         · exact .inl ⟨x, by simp, h1, d⟩
         · exact .inr ⟨by omega, by omega⟩
     · rintro (⟨y, hy, h1, h2⟩ | ⟨h1, h2⟩)
       · rcases List.mem_append.1 hy with hy | hy
         · exact ⟨y, by simp [hy], h1, h2⟩
         · simp at hy; subst hy; exact ⟨⟨y.lo, max y.hi r.hi⟩, by simp, h1, by simp only; omega⟩
       · exact ⟨⟨x.lo, max x.hi r.hi⟩, by simp, by simp only; omega, by simp only; omega⟩
   · rw [if_neg c]
     constructor
     · rintro ⟨y, hy, h1⟩
       rcases List.mem_append.1 hy with hy | hy
       · exact .inl ⟨y, hy, h1⟩
       · simp at hy; subst hy; exact .inr h1
     · rintro (⟨y, hy, h1⟩ | h1)
       · exact ⟨y, List.mem_append_left _ hy, h1⟩
       · exact ⟨r, by simp, h1⟩
theorem merge_in : ∀ (L o : List Rng), Apart o -> (∀ x, x ∈ o -> ∀ r, r ∈ L -> x.lo <= r.lo) -> L.Pairwise (fun x y => x.lo <= y.lo) -> (∀ r, r ∈ L -> r.lo <= r.hi) -> ∀ t, InO (L.foldl mrg o) t ↔ InO o t \/ InO L t
 | [], o, _, _, _, _, t => ⟨.inl, fun h => h.elim id fun ⟨y, hy, _⟩ => by cases hy⟩
 | r :: L, o, ha, hle, hp, hl, t => by
   obtain ⟨p1, p2⟩ := List.pairwise_cons.1 hp
   have hr := hl r (List.mem_cons_self ..)
   have hro : ∀ x, x ∈ o -> x.lo <= r.lo := fun x hx => hle x hx r (List.mem_cons_self ..)
   obtain ⟨g1, g2, _⟩ := mrg_good (S := fun _ => True) ha hro hr (fun x _ => ⟨x, trivial, rfl, Int.le_refl _⟩) trivial
   rw [List.foldl_cons, merge_in L (mrg o r) g1 (fun x hx q hq => by have := g2 x hx; have := p1 q hq; omega) p2 (fun q hq => hl q (List.mem_cons_of_mem _ hq)) t, mrg_in ha hro hr]
   constructor
   · rintro ((h | h) | ⟨y, hy, h⟩)
     · exact .inl h
     · exact .inr ⟨r, List.mem_cons_self .., h⟩
     · exact .inr ⟨y, List.mem_cons_of_mem _ hy, h⟩
   · rintro (h | ⟨y, hy, h⟩)
     · exact .inl (.inl h)
     · rcases List.mem_cons.1 hy with rfl | hy
       · exact .inl (.inr h)
       · exact .inr ⟨y, hy, h⟩
theorem apart_cons {x : Rng} {o : List Rng} (h : Apart (x :: o)) : x.lo <= x.hi /\ (∀ y, y ∈ o -> x.hi + 1 < y.lo) /\ Apart o := by
 obtain ⟨h1, h2⟩ := h
 obtain ⟨h3, h4⟩ := List.pairwise_cons.1 h2
 exact ⟨h1 x (List.mem_cons_self ..), h3, fun y hy => h1 y (List.mem_cons_of_mem _ hy), h4⟩
theorem apart_head {x : Rng} {o : List Rng} (h : Apart (x :: o)) {t : Int} (ht : InO (x :: o) t) : x.lo <= t := by
 obtain ⟨a, b, c⟩ := apart_cons h
 obtain ⟨y, hy, h1, h2⟩ := ht
 rcases List.mem_cons.1 hy with rfl | hy
 · exact h1
 · have := b y hy; omega
theorem apart_step {x y : Rng} {o p : List Rng} (ho : Apart (x :: o)) (hp : Apart (y :: p)) (hi : ∀ t, InO (x :: o) t ↔ InO (y :: p) t) (hlo : x.lo = y.lo) : y.hi <= x.hi := by
 obtain ⟨a, b, c⟩ := apart_cons ho
 obtain ⟨a', b', c'⟩ := apart_cons hp
 refine Classical.byContradiction fun hc => ?_
 have : InO (y :: p) (x.hi + 1) := ⟨y, List.mem_cons_self .., by omega, by omega⟩
 obtain ⟨z, hz, h1, h2⟩ := (hi _).2 this
 rcases List.mem_cons.1 hz with rfl | hz
 · omega
 · have := b z hz; omega
theorem apart_uniq : ∀ {o p : List Rng}, Apart o -> Apart p -> (∀ t, InO o t ↔ InO p t) -> o = p
 | [], [], _, _, _ => rfl
 | [], y :: p, _, hp, hi => by
   obtain ⟨z, hz, _⟩ := (hi y.lo).2 ⟨y, List.mem_cons_self .., Int.le_refl _, (apart_cons hp).1⟩
   cases hz
 | x :: o, [], ho, _, hi => by
   obtain ⟨z, hz, _⟩ := (hi x.lo).1 ⟨x, List.mem_cons_self .., Int.le_refl _, (apart_cons ho).1⟩
   cases hz
 | x :: o, y :: p, ho, hp, hi => by
   obtain ⟨a, b, c⟩ := apart_cons ho
   obtain ⟨a', b', c'⟩ := apart_cons hp
   have h1 := apart_head hp ((hi x.lo).1 ⟨x, List.mem_cons_self .., Int.le_refl _, a⟩)
   have h2 := apart_head ho ((hi y.lo).2 ⟨y, List.mem_cons_self .., Int.le_refl _, a'⟩)
   have hlo : x.lo = y.lo := by omega
   have h3 := apart_step ho hp hi hlo
   have h4 := apart_step hp ho (fun t => (hi t).symm) hlo.symm
   have hxy : x = y := by
    cases x; cases y; simp only [Rng.mk.injEq]; simp only at hlo h3 h4; omega
   subst hxy
   rw [apart_uniq c c' fun t => ?_]
   constructor
   · rintro ⟨z, hz, e1, e2⟩
     obtain ⟨u, hu, f1, f2⟩ := (hi t).1 ⟨z, List.mem_cons_of_mem _ hz, e1, e2⟩
     rcases List.mem_cons.1 hu with rfl | hu
     · have := b z hz; omega
     · exact ⟨u, hu, f1, f2⟩
   · rintro ⟨z, hz, e1, e2⟩
     obtain ⟨u, hu, f1, f2⟩ := (hi t).2 ⟨z, List.mem_cons_of_mem _ hz, e1, e2⟩
     rcases List.mem_cons.1 hu with rfl | hu
     · have := b' z hz; omega
     · exact ⟨u, hu, f1, f2⟩
theorem merge_apart {L : List Rng} (hp : L.Pairwise fun x y => x.lo <= y.lo) (hl : ∀ r, r ∈ L -> r.lo <= r.hi) : Apart (mergeV L) /\ ∀ t, InO (mergeV L) t ↔ InO L t := by
 obtain ⟨m1, _, _⟩ := merge_good (S := fun _ => True) L [] ⟨by simp, List.Pairwise.nil⟩ (by simp) hp hl (by simp) (fun _ _ => trivial)
 refine ⟨m1, fun t => ?_⟩
 unfold mergeV
 rw [merge_in L [] ⟨by simp, List.Pairwise.nil⟩ (by simp) hp hl]
 exact ⟨fun h => h.elim (fun ⟨_, hx, _⟩ => by cases hx) id, .inr⟩
theorem hitsChk_ok {l : List Site} {h : List Hit} (ho : HitsOk l h) : (hitsChk l h).2 = 0 := by
 have h40 := ho.len
 unfold hitsChk
 rw [if_neg (by omega), eachE_ok fun i hi => ?_]
 obtain ⟨k, _, hk, _⟩ := (ho.hit i hi).site
 unfold hitE
 rw [getD_at hi, show withinB h[i].tm 0 1000000000000 = true by unfold withinB; have := (ho.hit i hi).tm; simp; omega, hk]
 by_cases e : i = 0
 · rw [decide_eq_true e]; rfl
 · have hb := ho.next (i - 1) (by omega)
   simp only [show i - 1 + 1 = i by omega] at hb
   rw [getD_at (show i - 1 < h.length by omega), decide_eq_true hb, Bool.or_true]; rfl
structure Arrived (l : List Site) (s : Setup) (h g : List Hit) (T M : Int) : Prop where
 oh : HitsOk l h
 og : HitsOk l g
 set : SetOk s
 sub : ∀ x, x ∈ g -> x ∈ h
 come : ∀ x, x ∈ h -> x.tm <= M -> x ∈ g
 late : ∀ k (hk : k < s.rules.length), T + s.before + lenR s.rules[k] <= M
theorem eases_self {M : Int} {r : Rule} {h g : List Hit} (hr : ruleErr r = 0) (sub : ∀ x, x ∈ h -> x.tm <= M -> x ∈ g) : Eases M r r h g :=
 ⟨rfl, rfl, rfl, ⟨(ruleOk_of hr).2.1.1, Int.le_refl _⟩, Int.le_refl _, fun _ => rfl, sub⟩
theorem single_mem {l : List Site} {s : Setup} {h : List Hit} {w : Rng} : w ∈ singleV l s h ↔ ∃ k, ∃ (hk : k < s.rules.length), ∃ a e, a < h.length /\ fireV l s.rules[k] h a = some e /\ w = ⟨(h.getD a default).tm - s.before, e + s.after⟩ := by
 unfold singleV winsR
 simp only [List.mem_flatMap, List.mem_map]
 constructor
 · rintro ⟨r, hr, f, hf, rfl⟩
   obtain ⟨k, hk, rfl⟩ := List.getElem_of_mem hr
   obtain ⟨i, e, hi, he, rfl⟩ := firesV_mem hf
   exact ⟨k, hk, i, e, hi, he, rfl⟩
 · rintro ⟨k, hk, a, e, ha, he, rfl⟩
   refine ⟨s.rules[k], List.getElem_mem hk, ⟨(a : Nat), (h.getD a default).tm, e⟩, ?_, rfl⟩
   unfold firesV
   rw [List.mem_filterMap]
   exact ⟨a, List.mem_range.2 ha, by rw [he]; rfl⟩
theorem Arrived.single {l : List Site} {s : Setup} {h g : List Hit} {T M : Int} (A : Arrived l s h g T M) {w : Rng} (hw : w.lo <= T) : w ∈ singleV l s g ↔ w ∈ singleV l s h := by
 rw [single_mem, single_mem]
 constructor
 · rintro ⟨k, hk, b, e, hb, he, rfl⟩
   simp only at hw
   have hr := A.set.rule k hk
   have hl := A.late k hk
   obtain ⟨a, ha, ea, e1, he1, hle1⟩ := fire_less A.og A.oh hr (eases_self hr fun x hx _ => A.sub x hx) hb (fire_tm A.og hr hb) he
   obtain ⟨b2, hb2, eb2, e2, he2, hle2⟩ := fire_less A.oh A.og hr (eases_self hr A.come) ha (by rw [ea]; omega) he1
   have hbb : b2 = b := by
    rw [ea] at eb2
    rw [getD_e hb2, getD_e hb] at eb2
    rcases Nat.lt_trichotomy b2 b with h1 | h1 | h1
    · have := A.og.lt b b2 hb h1; rw [eb2] at this; exact absurd this before_irr
    · exact h1
    · have := A.og.lt b2 b hb2 h1; rw [eb2] at this; exact absurd this before_irr
   subst hbb
   rw [he] at he2
   cases he2
   have : e1 = e := by omega
   subst this
   exact ⟨k, hk, a, e1, ha, he1, by rw [ea]⟩
 · rintro ⟨k, hk, a, e, ha, he, rfl⟩
   simp only at hw
   have hr := A.set.rule k hk
   have hl := A.late k hk
   obtain ⟨b, hb, eb, e1, he1, hle1⟩ := fire_less A.oh A.og hr (eases_self hr A.come) ha (by omega) he
   obtain ⟨a2, ha2, ea2, e2, he2, hle2⟩ := fire_less A.og A.oh hr (eases_self hr fun x hx _ => A.sub x hx) hb (fire_tm A.og hr hb) he1
   have haa : a2 = a := by
    rw [eb] at ea2
    rw [getD_e ha2, getD_e ha] at ea2
    rcases Nat.lt_trichotomy a2 a with h1 | h1 | h1
    · have := A.oh.lt a a2 ha h1; rw [ea2] at this; exact absurd this before_irr
    · exact h1
    · have := A.oh.lt a2 a ha2 h1; rw [ea2] at this; exact absurd this before_irr
   subst haa
   rw [he] at he2
   cases he2
   have : e1 = e := by omega
   subst this
   exact ⟨k, hk, b, e1, hb, he1, by rw [eb]⟩
def endsB (T : Int) (o : List Rng) : List Rng := o.filter fun w => decide (w.hi < T)
theorem endsB_pre {T : Int} : ∀ {o : List Rng}, Apart o -> endsB T o <+: o
 | [], _ => List.prefix_rfl
 | x :: o, ha => by
   obtain ⟨h1, h2, h3⟩ := apart_cons ha
   unfold endsB
   rw [List.filter_cons]
   split
   · exact (List.prefix_cons_inj x).2 (endsB_pre h3)
   · rename_i hx
     rw [List.filter_eq_nil_iff.2 fun y hy => ?_]
     · exact List.nil_prefix
     · have a := h2 y hy
       have b := h3.1 y hy
       simp at hx ⊢; omega
theorem endsB_apart {T : Int} {o : List Rng} (ha : Apart o) : Apart (endsB T o) := ⟨fun x hx => ha.1 x ((List.mem_filter.1 hx).1), ha.2.sublist List.filter_sublist⟩
theorem endsB_in {T : Int} {o : List Rng} (ha : Apart o) (t : Int) : InO (endsB T o) t ↔ ∃ u, t <= u /\ u < T /\ (∀ v, t <= v -> v <= u -> InO o v) /\ ¬ InO o (u + 1) := by
 constructor
 · rintro ⟨x, hx, h1, h2⟩
   obtain ⟨hx1, hx2⟩ := List.mem_filter.1 hx
   refine ⟨x.hi, h2, of_decide_eq_true hx2, fun v hv1 hv2 => ⟨x, hx1, by omega, hv2⟩, ?_⟩
   rintro ⟨y, hy, h3, h4⟩
   obtain ⟨i, hi, rfl⟩ := List.getElem_of_mem hx1
   obtain ⟨j, hj, rfl⟩ := List.getElem_of_mem hy
   have hp := List.pairwise_iff_getElem.1 ha.2
   rcases Nat.lt_trichotomy i j with h | h | h
   · have := hp i j hi hj h; omega
   · subst h; omega
   · have := hp j i hj hi h
     have := ha.1 _ (List.getElem_mem hi)
     omega
 · rintro ⟨u, h1, h2, h3, h4⟩
   obtain ⟨x, hx, g1, g2⟩ := h3 t (Int.le_refl _) h1
   refine ⟨x, List.mem_filter.2 ⟨hx, decide_eq_true ?_⟩, g1, g2⟩
   refine Int.not_le.1 fun hT => ?_
   exact h4 ⟨x, hx, by omega, by omega⟩
theorem Arrived.inO {l : List Site} {s : Setup} {h g : List Hit} {T M : Int} (A : Arrived l s h g T M) {t : Int} (ht : t <= T) : InO (windowsV l s g) t ↔ InO (windowsV l s h) t := by
 have e : ∀ (q : List Hit), HitsOk l q -> (InO (windowsV l s q) t ↔ InO (singleV l s q) t) := fun q hq => by
  have := (merge_apart (sortRng_pw _ (single_lo A.set hq)) (fun r hr => (single_le A.set hq ((sortRng_perm _).mem_iff.1 hr)).1)).2 t
  rw [show windowsV l s q = mergeV (sortRng (singleV l s q)) from rfl, this]
  exact ⟨fun ⟨x, hx, h⟩ => ⟨x, (sortRng_perm _).mem_iff.1 hx, h⟩, fun ⟨x, hx, h⟩ => ⟨x, (sortRng_perm _).mem_iff.2 hx, h⟩⟩
 rw [e g A.og, e h A.oh]
 exact ⟨fun ⟨x, hx, h1, h2⟩ => ⟨x, (A.single (by omega)).1 hx, h1, h2⟩, fun ⟨x, hx, h1, h2⟩ => ⟨x, (A.single (by omega)).2 hx, h1, h2⟩⟩
theorem windows_apart {l : List Site} {s : Setup} {h : List Hit} (hs : SetOk s) (ho : HitsOk l h) : Apart (windowsV l s h) :=
 (merge_apart (sortRng_pw _ (single_lo hs ho)) (fun _ hr => (single_le hs ho ((sortRng_perm _).mem_iff.1 hr)).1)).1
theorem Arrived.windows {l : List Site} {s : Setup} {h g : List Hit} {T M : Int} (A : Arrived l s h g T M) : endsB T (windowsV l s g) = endsB T (windowsV l s h) := by
 refine apart_uniq (endsB_apart (windows_apart A.set A.og)) (endsB_apart (windows_apart A.set A.oh)) fun t => ?_
 rw [endsB_in (windows_apart A.set A.og), endsB_in (windows_apart A.set A.oh)]
 constructor
 · rintro ⟨u, h1, h2, h3, h4⟩
   exact ⟨u, h1, h2, fun v a b => (A.inO (by omega)).1 (h3 v a b), fun q => h4 ((A.inO (by omega)).2 q)⟩
 · rintro ⟨u, h1, h2, h3, h4⟩
   exact ⟨u, h1, h2, fun v a b => (A.inO (by omega)).2 (h3 v a b), fun q => h4 ((A.inO (by omega)).1 q)⟩
theorem hitsInV_map (h : List Hit) (w : Rng) : (hitsInV h w).map (fun z => h.getD z.toNat default) = h.filter fun x => withinB x.tm w.lo w.hi := by
 have key : ∀ n, n <= h.length -> (hitsInN h w n).map (fun z => h.getD z.toNat default) = (h.take n).filter fun x => withinB x.tm w.lo w.hi := by
  intro n
  induction n with
  | zero => intro _; rfl
  | succ n ih =>
    intro hn
    rw [hitsInN_succ, List.map_append, ih (by omega), List.take_succ_eq_append_getElem (by omega), List.filter_append, getD_e (by omega)]
    congr 1
    split
    · rename_i hw
      rw [List.filter_cons, if_pos hw]
      simp [List.getElem?_eq_getElem (show n < h.length by omega)]
    · rename_i hw
      rw [List.filter_cons, if_neg hw]; rfl
 have := key h.length (Nat.le_refl _)
 rwa [List.take_length] at this
theorem hitsInV_lt {h : List Hit} {w : Rng} {z : Int} (hz : z ∈ hitsInV h w) : 0 <= z /\ z < h.length := by
 unfold hitsInV hitsInN natsL at hz
 obtain ⟨i, hi, rfl⟩ := List.mem_map.1 hz
 have := List.mem_range.1 ((List.mem_filter.1 hi).1)
 omega
theorem Arrived.filter {l : List Site} {s : Setup} {h g : List Hit} {T M : Int} (A : Arrived l s h g T M) {w : Rng} (hw : w.hi < T) : (g.filter fun x => withinB x.tm w.lo w.hi) = h.filter fun x => withinB x.tm w.lo w.hi := by
 have hr := A.set.pos
 have hl := A.late 0 hr
 have hb := A.set.before
 have hlp := lenR_pos (A.set.rule 0 hr)
 refine asc_uniq (A.og.asc.sublist List.filter_sublist) (A.oh.asc.sublist List.filter_sublist) fun x => ?_
 rw [List.mem_filter, List.mem_filter]
 constructor
 · rintro ⟨h1, h2⟩; exact ⟨A.sub x h1, h2⟩
 · rintro ⟨h1, h2⟩
   refine ⟨A.come x h1 ?_, h2⟩
   unfold withinB at h2
   simp only [Bool.and_eq_true, decide_eq_true_eq] at h2
   omega
theorem Arrived.hits {l : List Site} {s : Setup} {h g : List Hit} {T M : Int} (A : Arrived l s h g T M) {w : Rng} (hw : w.hi < T) : (hitsInV g w).length = (hitsInV h w).length /\ ∀ k, k < (hitsInV g w).length -> g.getD ((hitsInV g w).getD k default).toNat default = h.getD ((hitsInV h w).getD k default).toNat default := by
 have e : (hitsInV g w).map (fun z => g.getD z.toNat default) = (hitsInV h w).map (fun z => h.getD z.toNat default) := by
  rw [hitsInV_map, hitsInV_map, A.filter hw]
 have hl : (hitsInV g w).length = (hitsInV h w).length := by simpa using congrArg List.length e
 refine ⟨hl, fun k hk => ?_⟩
 have := congrArg (fun L => L[k]?) e
 simp only [List.getElem?_map, List.getElem?_eq_getElem hk, List.getElem?_eq_getElem (show k < (hitsInV h w).length by omega), Option.map_some, Option.some.injEq] at this
 rw [getD_at hk, getD_at (show k < (hitsInV h w).length by omega)]
 exact this
def settledE (l : List Site) (s : Setup) (h : List Hit) (T : Int) : List Ev := (eventsV l s h).filter fun e => decide (e.hi < T)
theorem settledE_win (l : List Site) (s : Setup) (h : List Hit) (T : Int) : settledE l s h T = (endsB T (windowsV l s h)).map (evOf h) := by
 unfold settledE eventsV endsB
 rw [List.filter_map]; rfl
theorem prefix_getD {α : Type} [Inhabited α] {a b : List α} (h : a <+: b) {i : Nat} (hi : i < a.length) : b.getD i default = a[i] := by
 obtain ⟨c, rfl⟩ := h
 rw [List.getD_eq_getElem?_getD, List.getElem?_append_left hi, List.getElem?_eq_getElem hi]; rfl
theorem Arrived.events {l : List Site} {s : Setup} {h g : List Hit} {T M : Int} (A : Arrived l s h g T M) : (settledE l s g T).length <= (eventsV l s h).length /\ ∀ i (hi : i < (settledE l s g T).length) (hj : i < (eventsV l s h).length),
 (settledE l s g T)[i].lo = (eventsV l s h)[i].lo /\ (settledE l s g T)[i].hi = (eventsV l s h)[i].hi /\ (settledE l s g T)[i].hits.length = (eventsV l s h)[i].hits.length /\ ∀ k (hk : k < (settledE l s g T)[i].hits.length) (hk' : k < (eventsV l s h)[i].hits.length),
  ((0 <= (settledE l s g T)[i].hits[k] /\ (settledE l s g T)[i].hits[k] < g.length) /\ (0 <= (eventsV l s h)[i].hits[k] /\ (eventsV l s h)[i].hits[k] < h.length)) /\ g.getD ((settledE l s g T)[i].hits[k]).toNat default = h.getD ((eventsV l s h)[i].hits[k]).toNat default := by
 have e := settledE_win l s g T
 rw [A.windows] at e
 have hp := endsB_pre (T := T) (windows_apart A.set A.oh)
 have hlen : (settledE l s g T).length = (endsB T (windowsV l s h)).length := by rw [e, List.length_map]
 have hle : (endsB T (windowsV l s h)).length <= (windowsV l s h).length := hp.length_le
 have hev : (eventsV l s h).length = (windowsV l s h).length := by unfold eventsV; rw [List.length_map]
 refine ⟨by omega, fun i hi hj => ?_⟩
 have hi1 : i < (endsB T (windowsV l s h)).length := by omega
 have e1 : (settledE l s g T)[i] = evOf g (endsB T (windowsV l s h))[i] := by
  have : (settledE l s g T)[i]? = some (evOf g (endsB T (windowsV l s h))[i]) := by rw [e, List.getElem?_map, List.getElem?_eq_getElem hi1]; rfl
  rw [List.getElem?_eq_getElem hi] at this
  exact Option.some.inj this
 have ew : (windowsV l s h)[i]'(by omega) = (endsB T (windowsV l s h))[i] := by
  have := prefix_getD hp hi1
  rwa [List.getD_eq_getElem?_getD, List.getElem?_eq_getElem (show i < (windowsV l s h).length by omega)] at this
 have e2 : (eventsV l s h)[i] = evOf h (endsB T (windowsV l s h))[i] := by
  have q : (eventsV l s h)[i]? = some (evOf h (endsB T (windowsV l s h))[i]) := by
   unfold eventsV; rw [List.getElem?_map, List.getElem?_eq_getElem (show i < (windowsV l s h).length by omega), ew]; rfl
  rw [List.getElem?_eq_getElem hj] at q
  exact Option.some.inj q
 rw [e1, e2]
 obtain ⟨w, hw⟩ : ∃ w, w = (endsB T (windowsV l s h))[i] := ⟨_, rfl⟩
 rw [<- hw]
 have hwT : w.hi < T := by
  have := List.getElem_mem hi1
  rw [<- hw] at this
  exact of_decide_eq_true (List.mem_filter.1 this).2
 obtain ⟨c1, c2⟩ := A.hits hwT
 refine ⟨rfl, rfl, c1, fun k hk hk' => ?_⟩
 have := c2 k hk
 have k1 : (hitsInV g w).getD k default = (evOf g w).hits[k] := getD_at (l := hitsInV g w) hk
 have k2 : (hitsInV h w).getD k default = (evOf h w).hits[k] := getD_at (l := hitsInV h w) hk'
 rw [k1, k2] at this
 exact ⟨⟨hitsInV_lt (List.getElem_mem hk), hitsInV_lt (List.getElem_mem hk')⟩, this⟩
def evW (e : Ev) : Rng := ⟨e.lo, e.hi⟩
def insideB (w r : Rng) : Bool := decide (w.lo <= r.lo) && decide (r.hi <= w.hi)
def ordE (c : List Ev) (i : Nat) : Prop := (c.getD i default).lo <= (c.getD i default).hi /\ (i = 0 \/ (c.getD (i - 1) default).hi + 1 < (c.getD i default).lo)
instance (c : List Ev) (i : Nat) : Decidable (ordE c i) := by unfold ordE; infer_instance
def ownV (single : List Rng) (w : Rng) : List Rng := single.filter (insideB w)
def clmE (single : List Rng) (h : List Hit) (c : List Ev) (i : Nat) : Int :=
 if ¬ ordE c i then 9 else if (c.getD i default).hits ≠ hitsInV h (evW (c.getD i default)) then 3 else if joinedV (ownV single (evW (c.getD i default))) ≠ [evW (c.getD i default)] then 19 else 0
def readB (c : List Ev) (r : Rng) : Bool := anyP c.length fun k => insideB (evW (c.getD k default)) r
def lostB (single : List Rng) (c : List Ev) : Bool := anyP single.length fun k => !readB c (single.getD k default)
def clmChk (l : List Site) (s : Setup) (h : List Hit) (c : List Ev) : Nat × Int :=
 if 40 < c.length then (0, 8) else if (eachE c.length (clmE (singleV l s h) h c)).2 ≠ 0 then eachE c.length (clmE (singleV l s h) h c) else if lostB (singleV l s h) c = true then (0, 14) else (0, 0)
theorem windows_in {l : List Site} {s : Setup} {h : List Hit} (hs : SetOk s) (ho : HitsOk l h) (t : Int) : InO (windowsV l s h) t ↔ InO (singleV l s h) t := by
 have := (merge_apart (sortRng_pw _ (single_lo hs ho)) (fun r hr => (single_le hs ho ((sortRng_perm _).mem_iff.1 hr)).1)).2 t
 rw [show windowsV l s h = mergeV (sortRng (singleV l s h)) from rfl, this]
 exact ⟨fun ⟨x, hx, h⟩ => ⟨x, (sortRng_perm _).mem_iff.1 hx, h⟩, fun ⟨x, hx, h⟩ => ⟨x, (sortRng_perm _).mem_iff.2 hx, h⟩⟩
theorem own_sub {S : List Rng} {w : Rng} : ∀ r, r ∈ ownV S w -> r ∈ S := fun _ h => (List.mem_filter.1 h).1
theorem own_lo {l : List Site} {s : Setup} {h : List Hit} {w : Rng} (hs : SetOk s) (ho : HitsOk l h) : LoOk (ownV (singleV l s h) w) := fun r hr => single_lo hs ho r (own_sub r hr)
theorem own_in {l : List Site} {s : Setup} {h : List Hit} {w : Rng} (hs : SetOk s) (ho : HitsOk l h) : Apart (joinedV (ownV (singleV l s h) w)) /\ ∀ t, InO (joinedV (ownV (singleV l s h) w)) t ↔ InO (ownV (singleV l s h) w) t := by
 obtain ⟨a, b⟩ := merge_apart (sortRng_pw _ (own_lo (w := w) hs ho)) (fun r hr => (single_le hs ho (own_sub r ((sortRng_perm _).mem_iff.1 hr))).1)
 refine ⟨a, fun t => (b t).trans ?_⟩
 exact ⟨fun ⟨x, hx, h⟩ => ⟨x, (sortRng_perm _).mem_iff.1 hx, h⟩, fun ⟨x, hx, h⟩ => ⟨x, (sortRng_perm _).mem_iff.2 hx, h⟩⟩
theorem readB_iff {c : List Ev} {r : Rng} : readB c r = true ↔ ∃ v, v ∈ c /\ insideB (evW v) r = true := by
 unfold readB
 rw [anyP_iff]
 constructor
 · rintro ⟨i, hi, h⟩
   rw [getD_at hi] at h
   exact ⟨c[i], List.getElem_mem hi, h⟩
 · rintro ⟨v, hv, h⟩
   obtain ⟨i, hi, rfl⟩ := List.getElem_of_mem hv
   exact ⟨i, hi, by rw [getD_at hi]; exact h⟩
theorem lostB_iff {S : List Rng} {c : List Ev} : lostB S c = false ↔ ∀ r, r ∈ S -> ∃ v, v ∈ c /\ insideB (evW v) r = true := by
 constructor
 · intro h r hr
   obtain ⟨i, hi, rfl⟩ := List.getElem_of_mem hr
   refine readB_iff.1 ?_
   cases hb : readB c S[i] with
   | true => rfl
   | false =>
     have : lostB S c = true := anyP_iff.2 ⟨i, hi, by rw [getD_at hi, hb]; rfl⟩
     rw [h] at this; cases this
 · intro h
   cases hb : lostB S c with
   | false => rfl
   | true =>
     obtain ⟨i, hi, e⟩ := anyP_iff.1 hb
     rw [getD_at hi, readB_iff.2 (h _ (List.getElem_mem hi))] at e
     cases e
theorem eachE_ok0 {n : Nat} {er : Nat -> Int} : (eachE n er).2 = 0 ↔ ∀ i, i < n -> er i = 0 := by
 rcases eachE_cases n er with ⟨he, hz⟩ | ⟨q, hq, hz, hne, he⟩
 · rw [he]; exact ⟨fun _ => hz, fun _ => rfl⟩
 · rw [he]; exact ⟨fun h => absurd h hne, fun h => h q hq⟩
theorem eachE_fst {n : Nat} {er : Nat -> Int} (h : (eachE n er).2 = 0) : eachE n er = (0, 0) := by
 rcases eachE_cases n er with ⟨he, hz⟩ | ⟨q, hq, hz, hne, he⟩
 · rw [he]
 · rw [he] at h; exact absurd h hne
theorem clmE_ok {S : List Rng} {h : List Hit} {c : List Ev} {i : Nat} : clmE S h c i = 0 ↔ ordE c i /\ (c.getD i default).hits = hitsInV h (evW (c.getD i default)) /\ joinedV (ownV S (evW (c.getD i default))) = [evW (c.getD i default)] := by
 unfold clmE
 by_cases h1 : ordE c i
 · rw [if_neg (by simpa using h1)]
   by_cases h2 : (c.getD i default).hits = hitsInV h (evW (c.getD i default))
   · rw [if_neg (by simpa using h2)]
     by_cases h3 : joinedV (ownV S (evW (c.getD i default))) = [evW (c.getD i default)]
     · rw [if_neg (by simpa using h3)]; exact ⟨fun _ => ⟨h1, h2, h3⟩, fun _ => rfl⟩
     · rw [if_pos h3]; exact ⟨(fun h => by cases h), fun h => absurd h.2.2 h3⟩
   · rw [if_pos h2]; exact ⟨(fun h => by cases h), fun h => absurd h.2.1 h2⟩
 · rw [if_pos h1]; exact ⟨(fun h => by cases h), fun h => absurd h.1 h1⟩
theorem evOf_W (h : List Hit) (w : Rng) : evW (evOf h w) = w := rfl
theorem events_getD {l : List Site} {s : Setup} {h : List Hit} {i : Nat} (hi : i < (eventsV l s h).length) : (eventsV l s h).getD i default = evOf h ((windowsV l s h).getD i default) := by
 have hw : i < (windowsV l s h).length := by unfold eventsV at hi; rwa [List.length_map] at hi
 rw [getD_at hi, getD_at hw]; simp [eventsV]
theorem events_ok {l : List Site} {s : Setup} {h : List Hit} (hs : SetOk s) (ho : HitsOk l h) : (∀ i, i < (eventsV l s h).length -> clmE (singleV l s h) h (eventsV l s h) i = 0) /\ lostB (singleV l s h) (eventsV l s h) = false := by
 have ha := windows_apart (l := l) hs ho
 have hg := joined_good (single_lo hs ho) (fun r hr => (single_le hs ho hr).1)
 have hlen : (eventsV l s h).length = (windowsV l s h).length := by unfold eventsV; rw [List.length_map]
 constructor
 · intro i hi
   have hw : i < (windowsV l s h).length := by omega
   rw [clmE_ok]
   unfold ordE
   rw [events_getD hi, evOf_W]
   refine ⟨⟨?_, ?_⟩, rfl, ?_⟩
   · rw [getD_at hw]; exact ha.1 _ (List.getElem_mem hw)
   · by_cases h0 : i = 0
     · exact .inl h0
     · right
       rw [events_getD (by omega), getD_at hw, getD_at (show i - 1 < (windowsV l s h).length by omega)]
       exact List.pairwise_iff_getElem.1 ha.2 (i - 1) i (by omega) hw (by omega)
   · rw [getD_at hw]
     obtain ⟨w, hwe⟩ : ∃ w, w = (windowsV l s h)[i] := ⟨_, rfl⟩
     have hwm : w ∈ windowsV l s h := by rw [hwe]; exact List.getElem_mem hw
     rw [<- hwe]
     obtain ⟨a1, a2⟩ := own_in (w := w) hs ho
     refine apart_uniq a1 ⟨fun x hx => by simp at hx; subst hx; exact ha.1 _ hwm, List.pairwise_singleton _ _⟩ fun t => ?_
     rw [a2]
     constructor
     · rintro ⟨x, hx, h1, h2⟩
       have := (List.mem_filter.1 hx).2
       unfold insideB at this
       simp only [Bool.and_eq_true, decide_eq_true_eq] at this
       exact ⟨w, by simp, by omega, by omega⟩
     · rintro ⟨x, hx, h1, h2⟩
       simp at hx; subst hx
       obtain ⟨q, hq, q1, q2⟩ := (windows_in hs ho t).1 ⟨x, hwm, h1, h2⟩
       obtain ⟨y, hy, y1, y2⟩ := hg.2.1 q hq
       have hyx : y = x := by
        obtain ⟨j, hj, rfl⟩ := List.getElem_of_mem (show y ∈ windowsV l s h from hy)
        obtain ⟨k, hk, rfl⟩ := List.getElem_of_mem hwm
        have hp := List.pairwise_iff_getElem.1 ha.2
        rcases Nat.lt_trichotomy j k with g | g | g
        · have := hp j k hj hk g; omega
        · subst g; rfl
        · have := hp k j hk hj g; omega
       subst hyx
       exact ⟨q, List.mem_filter.2 ⟨hq, by unfold insideB; rw [decide_eq_true y1, decide_eq_true y2]; rfl⟩, q1, q2⟩
 · rw [lostB_iff]
   intro r hr
   obtain ⟨y, hy, y1, y2⟩ := hg.2.1 r hr
   refine ⟨evOf h y, List.mem_map.2 ⟨y, hy, rfl⟩, ?_⟩
   unfold insideB; rw [evOf_W, decide_eq_true y1, decide_eq_true y2]; rfl
theorem claim_own {l : List Site} {s : Setup} {h : List Hit} (hs : SetOk s) (ho : HitsOk l h) (h40 : (eventsV l s h).length <= 40) : clmChk l s h (eventsV l s h) = (0, 0) := by
 obtain ⟨h1, h2⟩ := events_ok (l := l) hs ho
 unfold clmChk
 rw [if_neg (by omega), if_neg (by simpa using eachE_ok0.2 h1), if_neg (by simp [h2])]
open Go Go.RowKit Go.Proofs Go.Shelf Go.Ab Go.Sort
theorem eq_hit {x y : Operand} {a b : Hit} {c : Bool} (h : decide (a = b) = c) : ∀ w, (do eqGuard .eql 50 x y (.agg #[.int .i64 a.tm, .int .i64 a.line, .int .i64 a.sensor]) (.agg #[.int .i64 b.tm, .int .i64 b.line, .int .i64 b.sensor]); binOp .eql 50 (.agg #[.int .i64 a.tm, .int .i64 a.line, .int .i64 a.sensor]) (.agg #[.int .i64 b.tm, .int .i64 b.line, .int .i64 b.sensor]) : Sem Value).run Tryz.prog w = .ok (.bool c) w := fun w => by
 have h1 := equalIn_hit 9998 a b w
 rw [h] at h1
 first
 | (simp [eqGuard, run_eql_struct, h1]; done)
 | simp [eqGuard, guard_hit, run_eql_struct, h1]
theorem isNaN_w (n : Int) (W : World) : Calls Tryz.prog 266 #[.int .i64 n] W fun e w' => e = .returned (.bool false) /\ W = w' := by
 go_enter Tryz.func266, Tryz.ntmps266
 go_wp2
 go_ret
 exact ⟨rfl, rfl⟩
theorem Compare_w (a b : Int) (W : World) : Calls Tryz.prog 189 #[.int .i64 a, .int .i64 b] W fun e w' => e = .returned (.int .i64 (cmpI a b)) /\ W = w' := by
 unfold cmpI
 by_cases h1 : a < b
 · rw [if_pos h1]
   go_enter Tryz.func189, Tryz.ntmps189
   go_wp2_with (go_at_call 266; refine (isNaN_w _ _).mono ?_; rintro e w' ⟨rfl, rfl⟩)
   go_ret
   exact ⟨rfl, rfl⟩
 · rw [if_neg h1]
   by_cases h2 : b < a
   · rw [if_pos h2]
     go_enter Tryz.func189, Tryz.ntmps189
     go_wp2_with (go_at_call 266; refine (isNaN_w _ _).mono ?_; rintro e w' ⟨rfl, rfl⟩)
     go_ret
     exact ⟨rfl, rfl⟩
   · rw [if_neg h2]
     go_enter Tryz.func189, Tryz.ntmps189
     go_wp2_with (go_at_call 266; refine (isNaN_w _ _).mono ?_; rintro e w' ⟨rfl, rfl⟩)
     go_ret
     exact ⟨rfl, rfl⟩
theorem Or3_w (B : Nat) (a b c : Int) (W : World) (h0 : W.cell? ⟨B, 0, none⟩ = some (.int .i64 a)) (h1 : W.cell? ⟨B, 1, none⟩ = some (.int .i64 b)) (h2 : W.cell? ⟨B, 2, none⟩ = some (.int .i64 c)) : Calls Tryz.prog 260 #[.slice (some ⟨B, 0, none⟩) 3 3] W fun e w' => e = .returned (.int .i64 (firstE [a, b, c])) /\ W = w' := by
 go_enter Tryz.func260, Tryz.ntmps260
 go_wp2
 go_loopw [8] (fun i wr => wr = W /\ ((i = .int .i64 0) \/ (i = .int .i64 1 /\ a = 0) \/ (i = .int .i64 2 /\ a = 0 /\ b = 0) \/ (i = .int .i64 3 /\ a = 0 /\ b = 0 /\ c = 0))) (fun i _ => 3 - (intOf i).toNat)
 case atStart => exact ⟨rfl, .inl rfl⟩
 case round =>
  obtain ⟨rfl, hr⟩ := hrel
  rcases hr with rfl | ⟨rfl, rfl⟩ | ⟨rfl, rfl, rfl⟩ | ⟨rfl, rfl, rfl, rfl⟩
  · by_cases he : a = 0
    · subst he
      go_wp2
      go_roundw
      case rel => simp
      case measure => simp [intOf]
    · go_wp2
      go_ret
      exact ⟨by simp [firstE, he], rfl⟩
  · by_cases he : b = 0
    · subst he
      go_wp2
      go_roundw
      case rel => simp
      case measure => simp [intOf]
    · go_wp2
      go_ret
      exact ⟨by simp [firstE, he], rfl⟩
  · by_cases he : c = 0
    · subst he
      go_wp2
      go_roundw
      case rel => simp
      case measure => simp [intOf]
    · go_wp2
      go_ret
      exact ⟨by simp [firstE, he], rfl⟩
  · go_wp2
    go_ret
    exact ⟨by simp [firstE], rfl⟩
def encH (x : Hit) : List Value := [.int .i64 x.tm, .int .i64 x.line, .int .i64 x.sensor]
theorem cellN (W : World) (a b : Obj) (n : Nat) (cs : Array Value) (T : TypeId) (k : Nat) (v : Value) (h : cs[k]? = some v) : ((((W.alloc a).alloc b).drewN n).alloc (Obj.cells cs T)).cell? ⟨W.heap.size + 1 + 1, k, none⟩ = some v := by
 rw [<- h]
 show (match ((((W.heap.push a).push b).push (Obj.cells cs T)))[W.heap.size + 1 + 1]? with
  | some (.cells c _ _) => if (none : Option Nat).isSome then none else c[k]?
  | _ => none) = cs[k]?
 have e : (((W.heap.push a).push b).push (Obj.cells cs T))[W.heap.size + 1 + 1]? = some (Obj.cells cs T) := by
  have h1 := Array.getElem?_push_size (xs := (W.heap.push a).push b) (x := Obj.cells cs T)
  rwa [show ((W.heap.push a).push b).size = W.heap.size + 1 + 1 by simp] at h1
 rw [e]; rfl
set_option maxHeartbeats 1600000 in
theorem compare_w (x y : Hit) (W : World) : Calls Tryz.prog 221 #[.agg (encH x).toArray, .agg (encH y).toArray] W fun e w' => e = .returned (.int .i64 (cmpHit x y)) /\ ∃ q os', w' = grow (W.drewN q) os' := by
 unfold encH cmpHit
 obtain ⟨x0, x1, x2⟩ := x
 obtain ⟨y0, y1, y2⟩ := y
 go_enter Tryz.func221, Tryz.ntmps221
 go_wp2
 refine wp_region_quiet_tail (fun w' => ∃ n, w' = World.drewN _ n) 15 (by kernel_rfl) (by kernel_rfl) ⟨1, rfl⟩ ?_
 repeat (quiet_step ((go_at_call 189; exact Calls.quiet_of_same ((Compare_w _ _ _).mono fun _ _ ⟨h1, h2⟩ => ⟨h1, h2.symm⟩))))
 refine wpQuiet_nil ?_
 intro w' hw'
 obtain ⟨nq, rfl⟩ := hw'
 go_wp2_with (go_at_call 260; refine (Or3_w _ (cmpI x0 y0) (cmpI x1 y1) (cmpI x2 y2) _ (cellN _ _ _ _ _ _ 0 _ rfl) (cellN _ _ _ _ _ _ 1 _ rfl) (cellN _ _ _ _ _ _ 2 _ rfl)).mono ?_; rintro e w' ⟨rfl, rfl⟩)
 go_ret
 exact ⟨rfl, nq, _, by rw [alloc_eq_grow, alloc_eq_grow, alloc_eq_grow, grow_grow]; show grow (grow (W.drewN nq) _) _ = _; rw [grow_grow]⟩
theorem ltH (x y : Hit) : ltOf cmpHit x y = decide (before x y) := by
 unfold ltOf
 exact decide_eq_decide.2 (cmpHit_neg x y)
theorem swoH : SWO (ltOf cmpHit) where
 irrefl x := by rw [ltH]; exact decide_eq_false before_irr
 trans x y z h1 h2 := by
  rw [ltH] at *
  exact decide_eq_true (before_trans (of_decide_eq_true h1) (of_decide_eq_true h2))
 ntrans x y z h1 h2 := by
  rw [ltH] at *
  have a := of_decide_eq_false h1
  have b := of_decide_eq_false h2
  refine decide_eq_false fun h => ?_
  rcases before_tot (a := x) (b := y) with q | q | q
  · exact a q
  · subst q; exact b h
  · rcases before_tot (a := y) (b := z) with r | r | r
    · exact b r
    · subst r; exact a h
    · exact before_irr (before_trans (before_trans r q) h)
def sortHits (l : List Hit) : List Hit := sortL cmpHit l
theorem sortHits_perm (l : List Hit) : (sortHits l).Perm l := sortL_perm swoH l
theorem sortHits_len (l : List Hit) : (sortHits l).length = l.length := sortL_len swoH l
theorem sortHits_weak (l : List Hit) : Weak (sortHits l) := (sortL_pw swoH l).imp fun {x y} h => fun hb => h ((cmpHit_neg y x).2 hb)
theorem encH_F (l : List Hit) : (l.flatMap encH).map FV.v = hitsF l := by
 induction l with
 | nil => rfl
 | cons r l ih => rw [List.flatMap_cons, List.map_append, ih]; simp [hitsF, hitF, iv, encH]
theorem sortFuncH_s (l : List Hit) (h60 : l.length < 1000000) : SummG Tryz.prog GG 220 [.arr 50 3 l.length ((hitsF l).map .f)] [.ow 0, .f (.fn 221 [])] (.f (.tup [])) [.arr 50 3 l.length ((hitsF (sortHits l)).map .f)] :=
 sortG (ρ := sortH_ren) sortH Tryz.isAgg50 Tryz.sizeOf50 (enc := encH) (k := 3) (fun _ => rfl) (by decide) (fun x v hv => by simp [encH] at hv; rcases hv with rfl | rfl | rfl <;> rfl) cmpHit swoH 221 (enters_of Tryz.func221 (by kernel_rfl) rfl) compare_w
  (fun pp cap fv w => AnyF.slices_SortFunc_none (P := Tryz.prog) (ρ := sortH_ren) { sortH with } pp cap fv w) (enters_of Tryz.func220 (by kernel_rfl) rfl) l (by omega) 50 rfl (encH_F l) (encH_F _)
theorem flat_setAt (pre post : List Hit) (y x : Hit) {o : Nat} (ho : o = pre.length) : setAt (hitsF (pre ++ y :: post)) (o * 3) (hitF x) = hitsF (pre ++ x :: post) := by
 subst ho
 rw [hitsF_app, hitsF_app, show hitsF (y :: post) = hitF y ++ hitsF post from rfl, show hitsF (x :: post) = hitF x ++ hitsF post from rfl]
 rw [<- hitsF_len pre, <- List.append_assoc, <- List.append_assoc]
 exact setAt_mid (hitF x) (hitF y) _ _ rfl
theorem keep_sub (s : List Hit) (n i : Nat) (hn : (keepK s n).length <= i) (hi : i < s.length) : ((hitsF (keepK s n ++ s.drop (keepK s n).length)).drop (i * 3)).take 3 = hitF s[i] := by
 have hl : i < (keepK s n ++ s.drop (keepK s n).length).length := by rw [List.length_append, List.length_drop]; omega
 rw [hitsF_sub hl]
 congr 1
 rw [List.getElem_append_right hn, List.getElem_drop]
 congr 1; omega
theorem keep_len (s : List Hit) (n : Nat) (hn : (keepK s n).length <= s.length) : (hitsF (keepK s n ++ s.drop (keepK s n).length)).length = s.length * 3 := by
 rw [hitsF_len, List.length_append, List.length_drop]; congr 1; omega
theorem keep_store (s : List Hit) (n : Nat) (hn : n < s.length) (hm : (keepK s n).length <= n) (hne : n = 0 \/ s.getD n default ≠ s.getD (n - 1) default) : setAt (hitsF (keepK s n ++ s.drop (keepK s n).length)) ((keepK s n).length * 3) (hitF s[n]) = hitsF (keepK s (n + 1) ++ s.drop (keepK s (n + 1)).length) := by
 rw [keepK_succ, if_pos hne, getD_eq hn, List.drop_eq_getElem_cons (show (keepK s n).length < s.length by omega), flat_setAt _ _ _ _ rfl]
 rw [List.length_append, List.length_singleton, List.append_assoc]; rfl
theorem rowK {n : Nat} {cs cs' : List FV} (h : cs = cs') : some (Blk.row 50 3 n cs) = some (Blk.row 50 3 n cs') := by rw [h]
theorem rowK2 {n m : Nat} {cs cs' : List FV} (hn : n = m) (h : cs = cs') : some (Blk.row 50 3 n cs) = some (Blk.row 50 3 m cs') := by rw [h, hn]
set_option maxRecDepth 100000 in
set_option maxHeartbeats 3200000 in
theorem compact_g (s : List Hit) (h60 : s.length <= 1000000) : SummG Tryz.prog GG 222 [.row 50 3 s.length (hitsF s)] [.ow 0] (.ow 0) [.row 50 3 (keepK s s.length).length (hitsF (keepK s s.length))] := by
 have hsl := hitsF_len s
 by_cases h2 : s.length < 2
 · have hk : (keepK s s.length) = s := by rw [keepK_take (Nat.le_refl _) (fun i h0 hi => by omega), List.take_length]
   rw [hk]
   refine summG_of Tryz.func222 rfl rfl 61 rfl (by simp) (by simp) (fun i B B' h1 h2 => by
    match i, h1, h2 with
    | 0, h1, h2 => cases h1; cases h2; rfl
    | _ + 1, h1, _ => simp at h1) (fun M X J => ?_)
   repeat (first
 | (apply s_a TY; exact rfl)
 | (apply s_t; exact rfl; omega)
 | apply w_seq
 | apply w_region
 | apply s_nil
 | apply t_norm
 | apply t_ret
 | apply w_ret
 | (apply w_condT; exact rfl; exact rfl))
   exact lvG_ret (gh_one 0 2 rfl rfl) (rg1 rfl (rv_tmp rfl))
 · refine summG_of Tryz.func222 rfl rfl 61 rfl (by simp) (by simp) (fun i B B' h1 h2 => by
  match i, h1, h2 with
  | 0, h1, h2 => cases h1; cases h2; rfl
  | _ + 1, h1, _ => simp at h1) (fun M X J => ?_)
   repeat (first
 | (apply s_a TY; exact rfl)
 | (apply s_f; exact rfl; omega)
 | apply w_seq
 | apply w_region
 | apply s_nil
 | apply t_norm
 | apply w_block
 | apply w_skip
 | (apply w_condF; exact rfl; exact rfl))
   apply w_loop (fun k : Nat => ⟨(Ab.upd (Ab.upd (fun _ => .bot) 0 (.ow 0)) 3 (.f (iv ((k : Nat) : Int)))), (Ab.upd (fun _ => none) 0 (some (.row 50 3 s.length (hitsF s)))), 1⟩) (fun k => 1 <= k /\ k <= s.length /\ ∀ i, 0 < i -> i < k -> s.getD i default ≠ s.getD (i - 1) default) (fun k => s.length - k) 1 (⟨by omega, by omega, fun i h0 hi => by omega⟩) (gh_le ⟨le_upd rfl trivial (le_upd rfl rfl (le_nil _)), le_hupd rfl trivial (le_h0 _ _)⟩)
   intro k ⟨hk1, hk, hd⟩
   by_cases hc : k < s.length
   · have e1 : ((hitsF s).drop (((k : Nat) : Int).toNat * 3)).take 3 = hitF s[k] := hitsF_sub hc
     have e2 : ((hitsF s).drop ((((k : Nat) : Int) - 1).toNat * 3)).take 3 = hitF s[k - 1] := by
      rw [show (((k : Nat) : Int) - 1).toNat = k - 1 by omega]; exact hitsF_sub (show k - 1 < s.length by omega)
     by_cases he : s[k] = s[k - 1]
     · have hkk : keepK s (k + 1) = s.take k := by
        rw [keepK_succ, if_neg (by rw [getD_eq hc, getD_eq (show k - 1 < s.length by omega)]; exact fun h => h.elim (by omega) (fun h => h he)), List.append_nil, keepK_take (by omega) hd]
       have hkl : (keepK s (k + 1)).length = k := by rw [hkk, List.length_take]; omega
       repeat (first
 | (apply s_bind; (iterate 6 exact rfl); exact eq_hit (c := true) (by simp [he]))
 | (apply s_ldrs TY; (iterate 5 exact rfl); assumption; exact rfl)
 | (apply s_slice_ow TY; (iterate 5 exact rfl); omega; omega)
 | (apply s_a TY; exact rfl)
 | (apply s_t; exact rfl; omega)
 | apply w_seq
 | apply w_region
 | (apply w_draw (id := 6) 9 rfl (by kernel_rfl))
 | apply s_nil
 | apply t_norm
 | apply w_block
 | apply w_skip
 | (apply w_condT; exact rfl; exact rfl)
 | (apply s_c TY; exact rfl; omega)
 | (apply s_z TY; exact rfl; omega))
       apply w_loop (fun j : Nat => ⟨(Ab.upd (Ab.upd (Ab.upd (Ab.upd (fun _ => .bot) 0 (.ow 0)) 3 (.f (iv (((keepK s (k + j)).length : Nat) : Int)))) 4 (.sv 0 (((k : Nat) : Int).toNat * 3) (s.length - ((k : Nat) : Int).toNat))) 5 (.f (iv ((j : Nat) : Int)))), (Ab.upd (fun _ => none) 0 (some (.row 50 3 s.length (hitsF ((keepK s (k + j)) ++ s.drop (keepK s (k + j)).length))))), 1⟩) (fun j => 1 <= j /\ k + j <= s.length /\ (keepK s (k + j)).length + 1 <= k + j) (fun j => s.length - (k + j)) 1 (⟨Nat.le_refl _, by omega, by omega⟩) (gh_le ⟨le_upd rfl trivial (le_upd rfl rfl (le_upd (by rw [hkl]; rfl) trivial (le_upd rfl rfl (le_nil _)))), le_hupd (rowK (by rw [hkl, hkk, List.take_append_drop])) trivial (le_h0 _ _)⟩)
       intro j ⟨hj1, hj, hm⟩
       by_cases hjc : k + j < s.length
       · have f1 : ((hitsF ((keepK s (k + j)) ++ s.drop (keepK s (k + j)).length)).drop (((k : Nat) : Int).toNat * 3 + ((j : Nat) : Int).toNat * 3)).take 3 = hitF s[k + j] := by
          rw [show ((k : Nat) : Int).toNat * 3 + ((j : Nat) : Int).toNat * 3 = (k + j) * 3 by omega]; exact keep_sub s (k + j) (k + j) (by omega) hjc
         have f2 : ((hitsF ((keepK s (k + j)) ++ s.drop (keepK s (k + j)).length)).drop (((k : Nat) : Int).toNat * 3 + (((j : Nat) : Int) - 1).toNat * 3)).take 3 = hitF s[k + j - 1] := by
          rw [show ((k : Nat) : Int).toNat * 3 + (((j : Nat) : Int) - 1).toNat * 3 = (k + j - 1) * 3 by omega]; exact keep_sub s (k + j) (k + j - 1) (by omega) (by omega)
         by_cases he : s[k + j] = s[k + j - 1]
         · have hs : keepK s (k + (j + 1)) = (keepK s (k + j)) := by
            rw [show k + (j + 1) = (k + j) + 1 by omega, keepK_succ, if_neg (by rw [getD_eq hjc, getD_eq (show k + j - 1 < s.length by omega)]; exact fun h => h.elim (by omega) (fun h => h he)), List.append_nil]
           repeat (first
 | (apply s_bind; (iterate 6 exact rfl); exact ne_hit (c := false) (by simp [he]))
 | (apply s_ldrs TY; (iterate 5 exact rfl); assumption; exact rfl)
 | (apply s_len_sv TY; exact rfl; exact rfl; exact rfl)
 | (apply s_idx_sv TY; (iterate 4 exact rfl); omega; omega)
 | (apply s_a TY; exact rfl)
 | (apply s_t; exact rfl; omega)
 | apply w_seq
 | apply w_region
 | (apply w_draw (id := 11) 9 rfl (by kernel_rfl))
 | apply s_nil
 | apply t_norm
 | apply k_norm
 | apply w_block
 | apply w_skip
 | (apply w_condT; exact rfl; exact rfl)
 | (apply w_condF; exact rfl; exact rfl)
 | (apply s_c TY; exact rfl; omega))
           exact ⟨j + 1, ⟨by omega, by omega, by rw [hs]; omega⟩, by omega, gh_le ⟨le_upd rfl trivial (le_upd rfl rfl (le_upd (by rw [hs]; rfl) trivial (le_upd rfl rfl (le_nil _)))), le_hupd (rowK (by rw [hs])) trivial (le_h0 _ _)⟩⟩
         · have hne : k + j = 0 \/ s.getD (k + j) default ≠ s.getD (k + j - 1) default := by rw [getD_eq hjc, getD_eq (show k + j - 1 < s.length by omega)]; exact .inr he
           have hs : (keepK s (k + (j + 1))).length = (keepK s (k + j)).length + 1 := by
            rw [show k + (j + 1) = (k + j) + 1 by omega, keepK_succ, if_pos hne, List.length_append]; rfl
           have hX := keep_len s (k + j) (by omega)
           have hst : (((keepK s (k + j)).length : Nat) : Int).toNat * 3 + (hitF s[k + j]).length <= (hitsF ((keepK s (k + j)) ++ s.drop (keepK s (k + j)).length)).length := by rw [hX]; show _ + 3 <= _; omega
           have hset := keep_store s (k + j) hjc (by omega) hne
           repeat (first
 | (apply s_bind; (iterate 6 exact rfl); exact ne_hit (c := true) (by simp [he]))
 | (apply s_ldrs TY; (iterate 5 exact rfl); assumption; exact rfl)
 | (apply s_storeR TY; (iterate 5 exact rfl); exact hst)
 | (apply s_len_sv TY; exact rfl; exact rfl; exact rfl)
 | (apply s_idx_sv TY; (iterate 4 exact rfl); omega; omega)
 | (apply s_a TY; exact rfl)
 | (apply s_t; exact rfl; omega)
 | apply w_seq
 | apply w_region
 | (apply w_draw (id := 11) 9 rfl (by kernel_rfl))
 | apply s_nil
 | apply t_norm
 | apply k_norm
 | apply w_block
 | apply w_skip
 | (apply w_condT; exact rfl; exact rfl)
 | (apply s_c TY; exact rfl; omega))
           exact ⟨j + 1, ⟨by omega, by omega, by rw [hs]; omega⟩, by omega, gh_le ⟨le_upd rfl trivial (le_upd rfl rfl (le_upd (by rw [hs]; rfl) trivial (le_upd rfl rfl (le_nil _)))), le_hupd (rowK hset) trivial (le_h0 _ _)⟩⟩
       · have hje : k + j = s.length := by omega
         rw [hje] at hm
         have hX := keep_len s (k + j) (by rw [hje]; omega)
         rw [show s.length = k + j by omega] at hm
         repeat (first
 | (apply s_slice_ow TY; (iterate 5 exact rfl); omega; omega)
 | (apply s_len_sv TY; exact rfl; exact rfl; exact rfl)
 | (apply s_clear_sv TY; (iterate 5 exact rfl); (show _ + _ * 3 <= _; omega))
 | (apply s_slice_head TY; (iterate 5 exact rfl); omega; omega; omega; exact rfl)
 | (apply s_a TY; exact rfl)
 | (apply s_f; exact rfl; omega)
 | apply w_seq
 | apply w_region
 | apply s_nil
 | apply t_norm
 | apply t_exit
 | apply t_ret
 | apply k_hit
 | apply k_ret
 | apply w_exit
 | apply w_ret
 | (apply w_condF; exact rfl; exact rfl))
         exact lvG_ret (gh_one 0 2 rfl (rowK2 (by rw [hje]; omega) (by rw [take_setAt_ge _ _ _ _ (Nat.le_refl _), show (((keepK s (k + j)).length : Nat) : Int).toNat = (keepK s (k + j)).length by omega, hitsF_take, List.take_left, hje]))) (rg1 rfl (rv_tmp rfl))
     · repeat (first
 | (apply s_bind; (iterate 6 exact rfl); exact eq_hit (c := false) (by simp [he]))
 | (apply s_ldrs TY; (iterate 5 exact rfl); assumption; exact rfl)
 | (apply s_a TY; exact rfl)
 | (apply s_t; exact rfl; omega)
 | apply w_seq
 | apply w_region
 | (apply w_draw (id := 6) 9 rfl (by kernel_rfl))
 | apply s_nil
 | apply t_norm
 | apply k_norm
 | apply w_block
 | apply w_skip
 | (apply w_condT; exact rfl; exact rfl)
 | (apply w_condF; exact rfl; exact rfl)
 | (apply s_c TY; exact rfl; omega)
 | (apply s_z TY; exact rfl; omega))
       exact ⟨k + 1, ⟨by omega, by omega, fun i h0 hi => by
        by_cases e : i = k
        · subst e; rw [getD_eq hc, getD_eq (show i - 1 < s.length by omega)]; exact he
        · exact hd i h0 (by omega)⟩, by omega, gh_le ⟨le_upd rfl trivial (le_upd rfl rfl (le_nil _)), le_hupd rfl trivial (le_h0 _ _)⟩⟩
   · have hke : k = s.length := by omega
     have hk : (keepK s s.length) = s := by rw [keepK_take (Nat.le_refl _) (fun i h0 hi => hd i h0 (by omega)), List.take_length]
     rw [hk]
     repeat (first
 | (apply s_a TY; exact rfl)
 | (apply s_f; exact rfl; omega)
 | apply w_seq
 | apply w_region
 | apply s_nil
 | apply t_norm
 | apply t_exit
 | apply k_hit
 | apply w_exit
 | apply w_ret
 | (apply w_condF; exact rfl; exact rfl))
     exact lvG_ret (gh_one 0 2 rfl rfl) (rg1 rfl (rv_tmp rfl))
theorem allH_succ {l : List Stm} {k : Nat} (hk : k < l.length) : allH (l.take (k + 1)) = allH (l.take k) ++ l[k].hits := by
 unfold allH; rw [List.take_succ_eq_append_getElem hk, List.flatMap_append]; simp
theorem allH_le {l : List Stm} {n : Nat} (h : ∀ i (hi : i < l.length), l[i].hits.length <= n) : ∀ k, k <= l.length -> (allH (l.take k)).length <= k * n
 | 0, _ => by simp [allH]
 | k + 1, hk => by
   have := allH_le h k (by omega)
   have h2 := h k hk
   rw [allH_succ hk, List.length_append, Nat.add_mul]; omega
theorem merge_sorted (L : List Hit) : keepK (sortHits L) (sortHits L).length = mergeH L := keepK_merge (sortHits_weak L) (sortHits_perm L)
set_option maxRecDepth 100000 in
set_option maxHeartbeats 3200000 in
theorem mergedH_s (l : List Stm) (hl : l.length <= 10) (hn : ∀ i (hi : i < l.length), l[i].hits.length <= 50) : Summ Tryz.prog GG 112 [.sl l.length (stmsF l)] (.sl (mergeH (allH l)).length (hitsF (mergeH (allH l)))) := by
 have hall : (allH l).length <= 500 := by
  have := allH_le hn l.length (Nat.le_refl _)
  rw [List.take_length] at this
  have : l.length * 50 <= 10 * 50 := Nat.mul_le_mul_right _ hl
  omega
 have hso := sortHits_len (allH l)
 have HS := sortFuncH_s (allH l) (by omega)
 have HC := compact_g (sortHits (allH l)) (by omega)
 rw [merge_sorted] at HC
 refine summW Tryz.func112 rfl rfl 21 rfl (by simp) (fun M0 => ?_)
 repeat (first
 | (apply s_a TY; exact rfl)
 | apply w_seq
 | apply w_region
 | apply s_nil
 | apply t_norm
 | apply w_block)
 apply w_gh (gh_own 3 50 3 rfl rfl)
 apply w_loop (fun k : Nat => ⟨(Ab.upd (Ab.upd (Ab.upd (Ab.upd (fun _ => .bot) 3 (.ow 0)) 6 (.f (.sl l.length (stmsF l)))) 7 (.f (iv l.length))) 8 (.f (iv ((k : Nat) : Int)))), (Ab.upd (fun _ => none) 0 (some (.row 50 3 (allH (l.take k)).length (hitsF (allH (l.take k)))))), 1⟩) (fun k => k <= l.length) (fun k => l.length - k) 0 (Nat.zero_le _) (gh_le ⟨le_upd rfl trivial (le_upd rfl trivial (le_upd rfl trivial (le_upd rfl rfl (le_nil _)))), le_hupd rfl trivial (le_h0 _ _)⟩)
 intro k hk
 have hak : (allH (l.take k)).length <= 500 := by
  have := allH_le hn k hk
  have : k * 50 <= 10 * 50 := Nat.mul_le_mul_right _ (by omega)
  omega
 by_cases hc : k < l.length
 · have hlen : (hitsF l[k].hits).length = l[k].hits.length * 3 := hitsF_len _
   have hnk := hn k hc
   repeat (first
 | (apply s_append TY; (iterate 8 exact rfl); exact hlen; (unfold maxLen; omega); omega)
 | (apply s_a TY; exact rfl)
 | (apply s_t; exact rfl; omega)
 | apply w_seq
 | apply w_region
 | apply s_nil
 | apply t_norm
 | apply k_norm
 | apply w_block
 | apply w_skip
 | (apply w_condT; exact rfl; exact rfl)
 | (apply s_c TY; exact rfl; (first | omega | exact ⟨by omega, by (((with_reducible apply stmsF_ne); omega))⟩))
 | (apply s_m TY; exact rfl; (((with_reducible apply stmsF_sub); omega)); exact rfl)
 | (apply s_alloc TY; exact rfl; exact rfl; exact rfl)
 | (apply s_store TY; (iterate 6 exact rfl)))
   exact ⟨k + 1, by omega, by omega, gh_le ⟨le_upd rfl trivial (le_upd rfl trivial (le_upd rfl trivial (le_upd rfl rfl (le_nil _)))), le_hupd (rowK2 (by rw [allH_succ hc, List.length_append]) (by rw [allH_succ hc, hitsF_app])) trivial (le_h0 _ _)⟩⟩
 · have hke : k = l.length := by omega
   subst hke
   rw [List.take_length]
   repeat (first
 | (apply s_a TY; exact rfl)
 | (apply s_f; exact rfl; omega)
 | apply w_seq
 | apply w_region
 | apply s_nil
 | apply t_norm
 | apply t_exit
 | apply k_hit
 | apply w_exit
 | (apply w_condF; exact rfl; exact rfl))
   refine s_ghost rfl (gh_arr 0 (cs := hitsF (allH l)) rfl rfl) ?_
   repeat (first
 | (apply s_callG [0] HS; exact rfl; exact rfl; exact rfl; exact ⟨congrArg some (arr_ren _ _ _ _ _).symm, trivial⟩; exact rfl; exact ⟨rfl, rfl⟩)
 | (apply s_a TY; exact rfl)
 | apply w_seq
 | apply w_region
 | apply s_nil
 | apply t_norm)
   refine s_ghost rfl (gh_unarr 0 (e := 50) (sz := 3) (n := (allH l).length) (cs := hitsF (sortHits (allH l))) (congrArg some (arr_ren _ _ _ _ _))) ?_
   rw [<- hso]
   repeat (first
 | (apply s_a TY; exact rfl)
 | apply s_nil
 | apply t_norm
 | apply w_ret
 | (apply s_callG [0] (HC); exact rfl; exact rfl; exact rfl; exact ⟨rfl, trivial⟩; exact rfl; (exact ⟨rfl, rfl⟩)))
   exact lv_ret (ret_gh (gh_row 0 rfl) (ret1 rfl (res_tmp rfl)))
def stmE (l : List Site) (x : Stm) : Int := firstE [(hitsChk l x.hits).2, unlessE (withinB x.mark 0 1000000000000) 2]
def stmsChk (l : List Site) (c : List Stm) : Nat × Int := if c.length = 0 then (0, 10) else if 6 < c.length then (0, 8) else eachE c.length fun i => stmE l (c.getD i default)
theorem stmE_ok {l : List Site} {x : Stm} : stmE l x = 0 ↔ (hitsChk l x.hits).2 = 0 /\ 0 <= x.mark /\ x.mark <= 1000000000000 := by
 unfold stmE
 by_cases h1 : (hitsChk l x.hits).2 = 0
 · by_cases h2 : 0 <= x.mark /\ x.mark <= 1000000000000
   · simp [firstE, unlessE, withinB, h1, h2]
   · have : withinB x.mark 0 1000000000000 = false := by simp [withinB]; omega
     simp [firstE, unlessE, h1, this]; omega
 · simp [firstE, h1]
theorem stmsChk_ok {l : List Site} {c : List Stm} (h : (stmsChk l c).2 = 0) : 1 <= c.length /\ c.length <= 6 /\ ∀ i (hi : i < c.length), (hitsChk l c[i].hits).2 = 0 /\ 0 <= c[i].mark /\ c[i].mark <= 1000000000000 := by
 unfold stmsChk at h
 by_cases h1 : c.length = 0
 · rw [if_pos h1] at h; cases h
 · rw [if_neg h1] at h
   by_cases h2 : 6 < c.length
   · rw [if_pos h2] at h; cases h
   · rw [if_neg h2] at h
     refine ⟨by omega, by omega, fun i hi => ?_⟩
     have := eachE_ok0.1 h i hi
     rw [getD_at hi] at this
     exact stmE_ok.1 this
theorem stmsChk_of {l : List Site} {c : List Stm} (h1 : 1 <= c.length) (h2 : c.length <= 6) (h : ∀ i (hi : i < c.length), stmE l c[i] = 0) : stmsChk l c = (0, 0) := by
 unfold stmsChk
 rw [if_neg (by omega), if_neg (by omega)]
 exact eachE_fst (eachE_ok0.2 fun i hi => by rw [getD_at hi]; exact h i hi)
theorem HitsOk.mem {l : List Site} {h : List Hit} (o : HitsOk l h) {x : Hit} (hx : x ∈ h) : HitOk l x := by
 obtain ⟨i, hi, rfl⟩ := List.getElem_of_mem hx
 exact o.hit i hi
theorem hitsOk_asc {l : List Site} {h : List Hit} (h40 : h.length <= 40) (ha : Asc h) (hm : ∀ x, x ∈ h -> HitOk l x) : HitsOk l h :=
 ⟨h40, fun i hi => hm _ (List.getElem_mem hi), fun i hi => List.pairwise_iff_getElem.1 ha i (i + 1) (by omega) hi (by omega)⟩
set_option maxRecDepth 100000 in
theorem streamsErr1_s (l : List Site) (i : Int) (x : Stm) (hx : x.hits.length <= 1000000) : Summ Tryz.prog GG 290 [iv i, .agg (stmF x), .pt [.sl l.length (sitesF l), .mp (mapS l l.length)] 0] (iv (stmE l x)) := by
 have HH := hitsErr_s l x.hits hx
 unfold stmE
 refine summW Tryz.func290 rfl rfl 22 rfl (by simp) (fun M0 => ?_)
 repeat (first
 | (apply s_a TY; exact rfl)
 | apply w_seq
 | apply w_region
 | apply s_nil
 | apply t_norm
 | apply w_ret
 | (apply s_k (HH); exact rfl)
 | (apply s_k (tfirst2_s _ _); exact rfl)
 | (apply s_k (tunless_s _ _); exact rfl)
 | (apply s_k (isTick_s _); exact rfl))
 exact lv_ret (ret1 rfl (res_tmp rfl))
set_option maxRecDepth 100000 in
theorem streamsErr_s (l : List Site) (c : List Stm) (hn : c.length <= 1000000) (hh : ∀ i (hi : i < c.length), c[i].hits.length <= 1000000) : Summ Tryz.prog GG 219 [arrayV l, .sl c.length (stmsF c)] (.tup [iv (stmsChk l c).1, iv (stmsChk l c).2]) := by
 by_cases h0 : c.length = 0
 · rw [show stmsChk l c = (0, 10) by unfold stmsChk; rw [if_pos h0]]
   refine summW Tryz.func219 rfl rfl 25 rfl (by simp) (fun M0 => ?_)
   repeat (first
 | (apply s_a TY; exact rfl)
 | (apply s_t; exact rfl; omega)
 | (apply s_f; exact rfl; omega)
 | apply w_seq
 | apply w_region
 | apply s_nil
 | apply t_norm
 | apply t_ret
 | apply w_ret
 | (apply w_condT; exact rfl; exact rfl)
 | (apply s_k1 (tfirst2_0 _ _); exact rfl; omega)
 | (apply s_k (tunless_T _); exact rfl)
 | (apply s_k (tunless_F _); exact rfl))
   exact lv_ret (ret2 rfl (res_tmp rfl) (res_tmp rfl))
 · by_cases h6 : 6 < c.length
   · rw [show stmsChk l c = (0, 8) by unfold stmsChk; rw [if_neg h0, if_pos h6]]
     refine summW Tryz.func219 rfl rfl 25 rfl (by simp) (fun M0 => ?_)
     repeat (first
 | (apply s_a TY; exact rfl)
 | (apply s_t; exact rfl; omega)
 | (apply s_f; exact rfl; omega)
 | apply w_seq
 | apply w_region
 | apply s_nil
 | apply t_norm
 | apply t_ret
 | apply w_ret
 | (apply w_condT; exact rfl; exact rfl)
 | (apply s_k1 (tfirst2_1 _ _); exact rfl; omega)
 | (apply s_k (tunless_T _); exact rfl)
 | (apply s_k (tunless_F _); exact rfl))
     exact lv_ret (ret2 rfl (res_tmp rfl) (res_tmp rfl))
   · rw [show stmsChk l c = eachE c.length fun i => stmE l (c.getD i default) by unfold stmsChk; rw [if_neg h0, if_neg h6]]
     have HE := eachStm_s c 290 [.pt [.sl l.length (sitesF l), .mp (mapS l l.length)] 0] (fun i => stmE l (c.getD i default)) hn (fun i hi => by rw [getD_at hi]; exact streamsErr1_s l _ _ (hh i hi))
     refine summW Tryz.func219 rfl rfl 25 rfl (by simp) (fun M0 => ?_)
     repeat (first
 | (apply s_a TY; exact rfl)
 | (apply s_makefn; exact rfl; exact rfl)
 | (apply s_t; exact rfl; omega)
 | apply w_seq
 | apply w_region
 | apply s_nil
 | apply t_norm
 | apply w_ret
 | apply w_skip
 | (apply w_condF; exact rfl; exact rfl)
 | (apply s_k (HE); exact rfl)
 | (apply s_k1 (tfirst2_1 _ _); exact rfl; omega)
 | (apply s_k (tunless_T _); exact rfl))
     exact lv_ret (ret2 rfl (res_tmp rfl) (res_tmp rfl))
set_option maxRecDepth 100000 in
theorem CheckStreams_ok (l : List Site) (c : List Stm) (hl : l.length <= 1000000) (hn : c.length <= 1000000) (hh : ∀ i (hi : i < c.length), c[i].hits.length <= 1000000) (h1 : (arrChk l).2 = 0) : Summ Tryz.prog GG 111 [arrF l, .sl c.length (stmsF c)] (.tup [iv (stmsChk l c).1, iv (stmsChk l c).2]) := by
 have HH := streamsErr_s l c hn hh
 refine summW Tryz.func111 rfl rfl 23 rfl (by simp) (fun M0 => ?_)
 repeat (first
 | (apply s_a TY; exact rfl)
 | (apply s_t; exact rfl; omega)
 | apply w_seq
 | apply w_region
 | apply s_nil
 | apply t_norm
 | apply w_ret
 | apply w_skip
 | (apply w_condF; exact rfl; exact rfl)
 | (apply s_k (HH); exact rfl)
 | (apply s_k2 (openArray_ok _); exact rfl; assumption; assumption)
 | (apply s_alloc TY; exact rfl; exact rfl; exact rfl)
 | (apply s_store TY; (iterate 6 exact rfl)))
 exact lv_ret (ret2 rfl (res_tmp rfl) (res_tmp rfl))
theorem stms_hits {l : List Site} {c : List Stm} (h1 : (arrChk l).2 = 0) (h2 : (stmsChk l c).2 = 0) : ∀ i (hi : i < c.length), c[i].hits.length <= 50 := fun i hi => by
 have := (hitsOk_of (arrOk_of h1) ((stmsChk_ok h2).2.2 i hi).1).len
 omega
set_option maxRecDepth 100000 in
theorem Merged_ok (l : List Site) (c : List Stm) (hl : l.length <= 1000000) (h1 : (arrChk l).2 = 0) (h2 : (stmsChk l c).2 = 0) (h40 : (mergeH (allH c)).length <= 40) : Summ Tryz.prog GG 20 [arrF l, .sl c.length (stmsF c)] (.tup [.sl (mergeH (allH c)).length (hitsF (mergeH (allH c))), iv 0]) := by
 have hc := stmsChk_ok h2
 have hh := stms_hits h1 h2
 have HC := CheckStreams_ok l c hl (by omega) (fun i hi => by have := hh i hi; omega) h1
 have HM := mergedH_s c (by omega) hh
 refine summW Tryz.func20 rfl rfl 24 rfl (by simp) (fun M0 => ?_)
 repeat (first
 | (apply s_a TY; exact rfl)
 | (apply s_t; exact rfl; assumption)
 | (apply s_f; exact rfl; omega)
 | apply w_seq
 | apply w_region
 | apply s_nil
 | apply t_norm
 | apply w_ret
 | apply w_skip
 | (apply w_condF; exact rfl; exact rfl)
 | (apply s_k (HC); exact rfl)
 | (apply s_k (HM); exact rfl))
 exact lv_ret (ret2 rfl (res_tmp rfl) (res_tmp rfl))
set_option maxRecDepth 100000 in
theorem idxdelE_s (l : List Ev) (g : Nat) (caps : List FV) (p : Nat -> Bool) (hl : l.length <= 1000000) (hg : ∀ i (hi : i < l.length), Summ Tryz.prog GG g ([.agg (evF l[i])] ++ caps) (bv (p i))) : Summ Tryz.prog GG 230 [.sl l.length (evsF l), .fn g caps] (iv (idxP l.length p)) := by
 refine summW Tryz.func230 rfl rfl 19 rfl (by simp) (fun M0 => ?_)
 repeat (first
 | (apply s_a TY; exact rfl)
 | apply w_seq
 | apply w_region
 | apply s_nil
 | apply t_norm
 | apply w_block)
 apply w_loop (fun k : Nat => ⟨(Ab.upd (Ab.upd (Ab.upd (Ab.upd (fun _ => .bot) 0 (.f (.sl l.length (evsF l)))) 1 (.f (.fn g caps))) 7 (.f (iv l.length))) 8 (.f (iv (k : Nat)))), (fun _ => none), 0⟩) (fun k => k <= l.length /\ ∀ i, i < k -> p i = false) (fun k => l.length - k) 0 (⟨Nat.zero_le _, fun j h => absurd h (Nat.not_lt_zero j)⟩) (gh_le ⟨le_upd rfl trivial (le_upd rfl trivial (le_upd rfl trivial (le_upd rfl trivial (le_nil _)))), le_h0 _ _⟩)
 intro k ⟨hk, hz⟩
 by_cases hc : k < l.length
 · have Hc := hg k hc
   cases hp : p k with
   | true =>
     rw [hp] at Hc
     rw [idxP_at hc hz hp]
     repeat (first
 | (apply s_a TY; exact rfl)
 | (apply s_t; exact rfl; omega)
 | apply w_seq
 | apply w_region
 | apply s_nil
 | apply t_norm
 | apply t_ret
 | apply k_ret
 | apply w_block
 | apply w_ret
 | apply w_skip
 | (apply w_condT; exact rfl; exact rfl)
 | (apply s_k (Hc); exact rfl)
 | (apply s_c TY; exact rfl; (exact ⟨by omega, by (((with_reducible apply evsF_ne); omega))⟩))
 | (apply s_m TY; exact rfl; (((with_reducible apply evsF_sub); omega)); exact rfl))
     exact lv_ret (ret1 rfl (res_tmp rfl))
   | false =>
     rw [hp] at Hc
     repeat (first
 | (apply s_a TY; exact rfl)
 | (apply s_t; exact rfl; omega)
 | apply w_seq
 | apply w_region
 | apply s_nil
 | apply t_norm
 | apply k_norm
 | apply w_block
 | apply w_skip
 | (apply w_condT; exact rfl; exact rfl)
 | (apply w_condF; exact rfl; exact rfl)
 | (apply s_k (Hc); exact rfl)
 | (apply s_c TY; exact rfl; (first | omega | exact ⟨by omega, by (((with_reducible apply evsF_ne); omega))⟩))
 | (apply s_m TY; exact rfl; (((with_reducible apply evsF_sub); omega)); exact rfl))
     exact ⟨k + 1, ⟨by omega, fun i hi => by
      by_cases e : i = k
      · subst e; exact hp
      · exact hz i (by omega)⟩, by omega, gh_le ⟨le_upd rfl trivial (le_upd rfl trivial (le_upd rfl trivial (le_upd rfl trivial (le_nil _)))), le_h0 _ _⟩⟩
 · rw [idxP_no fun i hi => hz i (by omega)]
   repeat (first
 | (apply s_a TY; exact rfl)
 | (apply s_f; exact rfl; omega)
 | apply w_seq
 | apply w_region
 | apply s_nil
 | apply t_norm
 | apply t_exit
 | apply k_hit
 | apply w_exit
 | apply w_ret
 | (apply w_condF; exact rfl; exact rfl))
   exact lv_ret (ret1 rfl (res_tmp rfl))
set_option maxRecDepth 100000 in
theorem idxdelEC_s (l : List Ev) (g : Nat) (caps : List FV) (p : Nat -> Bool) (hl : l.length <= 1000000) (hg : ∀ i (hi : i < l.length), Summ Tryz.prog GG g ([.agg (evF l[i])] ++ caps) (bv (p i))) : Summ Tryz.prog GG 128 [.sl l.length (evsF l), .fn g caps] (bv (anyP l.length p)) := by
 have HI := idxdelE_s l g caps p hl hg
 cases ha : anyP l.length p with
 | true =>
   have h0 := (idxP_pos l.length p).2 ha
   refine summW Tryz.func128 rfl rfl 9 rfl (by simp) (fun M0 => ?_)
   repeat (first
 | (apply s_a TY; exact rfl)
 | (apply s_t; exact rfl; assumption)
 | apply w_seq
 | apply w_region
 | apply s_nil
 | apply t_norm
 | apply w_ret
 | (apply s_k (HI); exact rfl))
   exact lv_ret (ret1 rfl (res_tmp rfl))
 | false =>
   have h0 : ¬ 0 <= idxP l.length p := fun h => by rw [(idxP_pos l.length p).1 h] at ha; cases ha
   refine summW Tryz.func128 rfl rfl 9 rfl (by simp) (fun M0 => ?_)
   repeat (first
 | (apply s_a TY; exact rfl)
 | (apply s_f; exact rfl; assumption)
 | apply w_seq
 | apply w_region
 | apply s_nil
 | apply t_norm
 | apply w_ret
 | (apply s_k (HI); exact rfl))
   exact lv_ret (ret1 rfl (res_tmp rfl))
set_option maxRecDepth 100000 in
theorem idxdelR_s (l : List Rng) (g : Nat) (caps : List FV) (p : Nat -> Bool) (hl : l.length <= 1000000) (hg : ∀ i (hi : i < l.length), Summ Tryz.prog GG g ([.agg (rngF l[i])] ++ caps) (bv (p i))) : Summ Tryz.prog GG 229 [.sl l.length (rngsF l), .fn g caps] (iv (idxP l.length p)) := by
 refine summW Tryz.func229 rfl rfl 19 rfl (by simp) (fun M0 => ?_)
 repeat (first
 | (apply s_a TY; exact rfl)
 | apply w_seq
 | apply w_region
 | apply s_nil
 | apply t_norm
 | apply w_block)
 apply w_loop (fun k : Nat => ⟨(Ab.upd (Ab.upd (Ab.upd (Ab.upd (fun _ => .bot) 0 (.f (.sl l.length (rngsF l)))) 1 (.f (.fn g caps))) 7 (.f (iv l.length))) 8 (.f (iv (k : Nat)))), (fun _ => none), 0⟩) (fun k => k <= l.length /\ ∀ i, i < k -> p i = false) (fun k => l.length - k) 0 (⟨Nat.zero_le _, fun j h => absurd h (Nat.not_lt_zero j)⟩) (gh_le ⟨le_upd rfl trivial (le_upd rfl trivial (le_upd rfl trivial (le_upd rfl trivial (le_nil _)))), le_h0 _ _⟩)
 intro k ⟨hk, hz⟩
 by_cases hc : k < l.length
 · have Hc := hg k hc
   cases hp : p k with
   | true =>
     rw [hp] at Hc
     rw [idxP_at hc hz hp]
     repeat (first
 | (apply s_a TY; exact rfl)
 | (apply s_t; exact rfl; omega)
 | apply w_seq
 | apply w_region
 | apply s_nil
 | apply t_norm
 | apply t_ret
 | apply k_ret
 | apply w_block
 | apply w_ret
 | apply w_skip
 | (apply w_condT; exact rfl; exact rfl)
 | (apply s_k (Hc); exact rfl)
 | (apply s_c TY; exact rfl; (exact ⟨by omega, by (((with_reducible apply rngsF_ne); omega))⟩))
 | (apply s_m TY; exact rfl; (((with_reducible apply rngsF_sub); omega)); exact rfl))
     exact lv_ret (ret1 rfl (res_tmp rfl))
   | false =>
     rw [hp] at Hc
     repeat (first
 | (apply s_a TY; exact rfl)
 | (apply s_t; exact rfl; omega)
 | apply w_seq
 | apply w_region
 | apply s_nil
 | apply t_norm
 | apply k_norm
 | apply w_block
 | apply w_skip
 | (apply w_condT; exact rfl; exact rfl)
 | (apply w_condF; exact rfl; exact rfl)
 | (apply s_k (Hc); exact rfl)
 | (apply s_c TY; exact rfl; (first | omega | exact ⟨by omega, by (((with_reducible apply rngsF_ne); omega))⟩))
 | (apply s_m TY; exact rfl; (((with_reducible apply rngsF_sub); omega)); exact rfl))
     exact ⟨k + 1, ⟨by omega, fun i hi => by
      by_cases e : i = k
      · subst e; exact hp
      · exact hz i (by omega)⟩, by omega, gh_le ⟨le_upd rfl trivial (le_upd rfl trivial (le_upd rfl trivial (le_upd rfl trivial (le_nil _)))), le_h0 _ _⟩⟩
 · rw [idxP_no fun i hi => hz i (by omega)]
   repeat (first
 | (apply s_a TY; exact rfl)
 | (apply s_f; exact rfl; omega)
 | apply w_seq
 | apply w_region
 | apply s_nil
 | apply t_norm
 | apply t_exit
 | apply k_hit
 | apply w_exit
 | apply w_ret
 | (apply w_condF; exact rfl; exact rfl))
   exact lv_ret (ret1 rfl (res_tmp rfl))
set_option maxRecDepth 100000 in
theorem idxdelRC_s (l : List Rng) (g : Nat) (caps : List FV) (p : Nat -> Bool) (hl : l.length <= 1000000) (hg : ∀ i (hi : i < l.length), Summ Tryz.prog GG g ([.agg (rngF l[i])] ++ caps) (bv (p i))) : Summ Tryz.prog GG 126 [.sl l.length (rngsF l), .fn g caps] (bv (anyP l.length p)) := by
 have HI := idxdelR_s l g caps p hl hg
 cases ha : anyP l.length p with
 | true =>
   have h0 := (idxP_pos l.length p).2 ha
   refine summW Tryz.func126 rfl rfl 9 rfl (by simp) (fun M0 => ?_)
   repeat (first
 | (apply s_a TY; exact rfl)
 | (apply s_t; exact rfl; assumption)
 | apply w_seq
 | apply w_region
 | apply s_nil
 | apply t_norm
 | apply w_ret
 | (apply s_k (HI); exact rfl))
   exact lv_ret (ret1 rfl (res_tmp rfl))
 | false =>
   have h0 : ¬ 0 <= idxP l.length p := fun h => by rw [(idxP_pos l.length p).1 h] at ha; cases ha
   refine summW Tryz.func126 rfl rfl 9 rfl (by simp) (fun M0 => ?_)
   repeat (first
 | (apply s_a TY; exact rfl)
 | (apply s_f; exact rfl; assumption)
 | apply w_seq
 | apply w_region
 | apply s_nil
 | apply t_norm
 | apply w_ret
 | (apply s_k (HI); exact rfl))
   exact lv_ret (ret1 rfl (res_tmp rfl))
theorem delR_sub (K l : List Rng) (i : Nat) (hn : K.length <= i) (hi : i < l.length) : ((rngsF (K ++ l.drop K.length)).drop (i * 2)).take 2 = rngF l[i] := by
 have hl : i < (K ++ l.drop K.length).length := by rw [List.length_append, List.length_drop]; omega
 rw [rngsF_sub hl]
 congr 1
 rw [List.getElem_append_right hn, List.getElem_drop]
 congr 1; omega
theorem delR_len (K l : List Rng) (hn : K.length <= l.length) : (rngsF (K ++ l.drop K.length)).length = l.length * 2 := by
 rw [rngsF_len, List.length_append, List.length_drop]; congr 1; omega
theorem delR_set (pre post : List Rng) (y x : Rng) : setAt (rngsF (pre ++ y :: post)) (pre.length * 2) (rngF x) = rngsF (pre ++ x :: post) := by
 rw [rngsF_app, rngsF_app, show rngsF (y :: post) = rngF y ++ rngsF post from rfl, show rngsF (x :: post) = rngF x ++ rngsF post from rfl]
 rw [<- rngsF_len pre, <- List.append_assoc, <- List.append_assoc]
 exact setAt_mid (rngF x) (rngF y) _ _ rfl
theorem delR_store (K l : List Rng) (x : Rng) (hm : K.length < l.length) : setAt (rngsF (K ++ l.drop K.length)) (K.length * 2) (rngF x) = rngsF (K ++ [x] ++ l.drop (K ++ [x]).length) := by
 rw [List.drop_eq_getElem_cons hm, delR_set, List.length_append, List.length_singleton, List.append_assoc]; rfl
theorem delR_row {n m : Nat} {cs cs' : List FV} (hn : n = m) (h : cs = cs') : some (Blk.row 34 2 n cs) = some (Blk.row 34 2 m cs') := by rw [h, hn]
set_option maxRecDepth 100000 in
set_option maxHeartbeats 3200000 in
theorem delR_g (l : List Rng) (g : Nat) (caps : List FV) (q : Rng -> Bool) (h60 : l.length <= 1000000) (hg : ∀ i (hi : i < l.length), Summ Tryz.prog GG g ([.agg (rngF l[i])] ++ caps) (bv (q l[i]))) : SummG Tryz.prog GG 122 [.row 34 2 l.length (rngsF l)] [.ow 0, .f (.fn g caps)] (.ow 0) [.row 34 2 (l.filter (fun x => !q x)).length (rngsF (l.filter (fun x => !q x)))] := by
 have hsl := rngsF_len l
 have HI := idxdelR_s l g caps (fun i => q (l.getD i default)) h60 (fun i hi => by rw [getD_at hi]; exact hg i hi)
 rcases idxP_cases l.length (fun i => q (l.getD i default)) with ⟨hi, hz⟩ | ⟨k, hk, hz, hp, hi⟩
 · have hfe : (l.filter (fun x => !q x)) = l := List.filter_eq_self.2 fun x hx => by
    obtain ⟨i, hi, rfl⟩ := List.getElem_of_mem hx
    have := hz i hi
    rw [getD_at hi] at this
    rw [this]; rfl
   rw [hi] at HI
   rw [hfe]
   refine summG_of Tryz.func122 rfl rfl 42 rfl (by simp) (by simp) (fun i B B' h1 h2 => by
    match i, h1, h2 with
    | 0, h1, h2 => cases h1; cases h2; rfl
    | _ + 1, h1, _ => simp at h1) (fun M X J => ?_)
   repeat (first
 | (apply s_callR 0 (.tmp 8) HI; exact rfl; exact rfl; exact rfl; simp; (iterate 4 exact rfl))
 | (apply s_a TY; exact rfl)
 | (apply s_t; exact rfl; omega)
 | apply w_seq
 | apply w_region
 | apply s_nil
 | apply t_norm
 | apply t_ret
 | apply w_ret
 | (apply w_condT; exact rfl; exact rfl))
   exact lvG_ret (gh_one 0 4 rfl rfl) (rg1 rfl (rv_tmp rfl))
 · rw [hi] at HI
   simp only [getD_at hk] at hp
   have hz2 : ∀ i, i < k -> q (l.getD i default) = false := hz
   have hfk : (l.take k).filter (fun x => !q x) = l.take k := List.filter_eq_self.2 fun x hx => by
    obtain ⟨i, hi, rfl⟩ := List.getElem_of_mem hx
    have hik : i < k := by rw [List.length_take] at hi; omega
    have := hz2 i hik
    rw [getD_at (show i < l.length by omega)] at this
    rw [List.getElem_take, this]; rfl
   have hk1 : (l.take (k + 1)).filter (fun x => !q x) = l.take k := by
    rw [List.take_succ_eq_append_getElem hk, List.filter_append, hfk, List.filter_cons_of_neg (by simp [hp])]; simp
   have hkl : ((l.take (k + 1)).filter (fun x => !q x)).length = k := by rw [hk1, List.length_take]; omega
   refine summG_of Tryz.func122 rfl rfl 42 rfl (by simp) (by simp) (fun i B B' h1 h2 => by
    match i, h1, h2 with
    | 0, h1, h2 => cases h1; cases h2; rfl
    | _ + 1, h1, _ => simp at h1) (fun M X J => ?_)
   repeat (first
 | (apply s_callR 0 (.tmp 8) HI; exact rfl; exact rfl; exact rfl; simp; (iterate 4 exact rfl))
 | (apply s_a TY; exact rfl)
 | (apply s_f; exact rfl; omega)
 | apply w_seq
 | apply w_region
 | apply s_nil
 | apply t_norm
 | apply w_block
 | apply w_skip
 | (apply w_condF; exact rfl; exact rfl)
 | (apply s_c TY; exact rfl; omega))
   apply w_loop (fun j : Nat => ⟨(Ab.upd (Ab.upd (Ab.upd (Ab.upd (fun _ => .bot) 0 (.ow 0)) 1 (.f (.fn g caps))) 5 (.f (iv ((((l.take j).filter (fun x => !q x)).length : Nat) : Int)))) 6 (.f (iv ((j : Nat) : Int)))), (Ab.upd (fun _ => none) 0 (some (.row 34 2 l.length (rngsF (((l.take j).filter (fun x => !q x)) ++ l.drop ((l.take j).filter (fun x => !q x)).length))))), 1⟩) (fun j => k + 1 <= j /\ j <= l.length /\ ((l.take j).filter (fun x => !q x)).length + 1 <= j) (fun j => l.length - j) (k + 1) (⟨Nat.le_refl _, by omega, by omega⟩) (gh_le ⟨le_upd rfl trivial (le_upd (by rw [hkl]; rfl) trivial (le_upd rfl trivial (le_upd rfl rfl (le_nil _)))), le_hupd (delR_row rfl (by rw [hkl, hk1, List.take_append_drop])) trivial (le_h0 _ _)⟩)
   intro j ⟨hj1, hj, hm⟩
   by_cases hjc : j < l.length
   · have f1 : ((rngsF (((l.take j).filter (fun x => !q x)) ++ l.drop ((l.take j).filter (fun x => !q x)).length)).drop (((j : Nat) : Int).toNat * 2)).take 2 = rngF l[j] := by
      rw [show ((j : Nat) : Int).toNat = j by omega]; exact delR_sub ((l.take j).filter (fun x => !q x)) l j (by omega) hjc
     have Hc := hg j hjc
     have hsuc : (l.take (j + 1)).filter (fun x => !q x) = ((l.take j).filter (fun x => !q x)) ++ (if q l[j] = true then [] else [l[j]]) := by
      rw [List.take_succ_eq_append_getElem hjc, List.filter_append]
      congr 1
      by_cases h : q l[j] = true
      · rw [if_pos h, List.filter_cons_of_neg (by simp [h])]; rfl
      · rw [if_neg h, List.filter_cons_of_pos (by simpa using h)]; rfl
     cases hq : q l[j] with
     | true =>
       rw [hq] at Hc
       rw [hq, if_pos rfl, List.append_nil] at hsuc
       repeat (first
 | (apply s_ldrs TY; (iterate 5 exact rfl); exact f1; exact rfl)
 | (apply s_a TY; exact rfl)
 | (apply s_t; exact rfl; omega)
 | apply w_seq
 | apply w_region
 | apply s_nil
 | apply t_norm
 | apply k_norm
 | apply w_block
 | apply w_skip
 | (apply w_condT; exact rfl; exact rfl)
 | (apply w_condF; exact rfl; exact rfl)
 | (apply s_k (Hc); exact rfl)
 | (apply s_c TY; exact rfl; omega)
 | (apply s_alloc TY; exact rfl; exact rfl; exact rfl)
 | (apply s_store TY; (iterate 6 exact rfl)))
       exact ⟨j + 1, ⟨by omega, by omega, by rw [hsuc]; omega⟩, by omega, gh_le ⟨le_upd rfl trivial (le_upd (by rw [hsuc]; rfl) trivial (le_upd rfl trivial (le_upd rfl rfl (le_nil _)))), le_hupd (delR_row rfl (by rw [hsuc])) trivial (le_h0 _ _)⟩⟩
     | false =>
       rw [hq] at Hc
       rw [hq, if_neg (by decide)] at hsuc
       have hX := delR_len ((l.take j).filter (fun x => !q x)) l (by omega)
       have hst : ((((l.take j).filter (fun x => !q x)).length : Nat) : Int).toNat * 2 + (rngF l[j]).length <= (rngsF (((l.take j).filter (fun x => !q x)) ++ l.drop ((l.take j).filter (fun x => !q x)).length)).length := by rw [hX]; show _ + 2 <= _; omega
       have hset := delR_store ((l.take j).filter (fun x => !q x)) l l[j] (by omega)
       rw [<- hsuc] at hset
       have hsl2 : ((l.take (j + 1)).filter (fun x => !q x)).length = ((l.take j).filter (fun x => !q x)).length + 1 := by rw [hsuc, List.length_append]; rfl
       repeat (first
 | (apply s_ldrs TY; (iterate 5 exact rfl); exact f1; exact rfl)
 | (apply s_storeR TY; (iterate 5 exact rfl); exact hst)
 | (apply s_a TY; exact rfl)
 | (apply s_t; exact rfl; omega)
 | apply w_seq
 | apply w_region
 | apply s_nil
 | apply t_norm
 | apply k_norm
 | apply w_block
 | apply w_skip
 | (apply w_condT; exact rfl; exact rfl)
 | (apply s_k (Hc); exact rfl)
 | (apply s_c TY; exact rfl; omega)
 | (apply s_alloc TY; exact rfl; exact rfl; exact rfl)
 | (apply s_store TY; (iterate 6 exact rfl)))
       exact ⟨j + 1, ⟨by omega, by omega, by omega⟩, by omega, gh_le ⟨le_upd rfl trivial (le_upd (by rw [hsl2]; rfl) trivial (le_upd rfl trivial (le_upd rfl rfl (le_nil _)))), le_hupd (delR_row rfl hset) trivial (le_h0 _ _)⟩⟩
   · have hje : j = l.length := by omega
     subst hje
     have hX := delR_len ((l.take l.length).filter (fun x => !q x)) l (by omega)
     repeat (first
 | (apply s_slice_ow TY; (iterate 5 exact rfl); omega; omega)
 | (apply s_clear_sv TY; (iterate 5 exact rfl); (show _ + _ * 2 <= _; omega))
 | (apply s_slice_head TY; (iterate 5 exact rfl); omega; omega; omega; exact rfl)
 | (apply s_a TY; exact rfl)
 | (apply s_f; exact rfl; omega)
 | apply w_seq
 | apply w_region
 | apply s_nil
 | apply t_norm
 | apply t_exit
 | apply k_hit
 | apply w_exit
 | apply w_ret
 | (apply w_condF; exact rfl; exact rfl))
     exact lvG_ret (gh_one 0 4 rfl (delR_row (by rw [List.take_length]; omega) (by rw [take_setAt_ge _ _ _ _ (Nat.le_refl _), show (((((l.take l.length).filter (fun x => !q x)).length : Nat) : Int)).toNat = ((l.take l.length).filter (fun x => !q x)).length by omega, rngsF_take, List.take_left, List.take_length]))) (rg1 rfl (rv_tmp rfl))
def modZ (n : Int) : Int := if n.tmod 3 < 0 then n.tmod 3 + 3 else n.tmod 3
theorem tmod3 (n : Int) : -3 < n.tmod 3 /\ n.tmod 3 < 3 := by
 have h1 := Int.tmod_lt_of_pos n (by decide : (0 : Int) < 3)
 have h2 := Int.lt_tmod_of_pos n (by decide : (0 : Int) < 3)
 omega
theorem modZ_bd (n : Int) : modZ n = 0 \/ modZ n = 1 \/ modZ n = 2 := by
 have := tmod3 n
 unfold modZ
 split <;> omega
theorem mod_s (n : Int) : Summ Tryz.prog GG 113 [iv n, iv 3] (iv (modZ n)) := by
 have hb := tmod3 n
 unfold modZ
 by_cases h : n.tmod 3 < 0
 · rw [if_pos h]
   refine summW Tryz.func113 rfl rfl 14 rfl (by simp) (fun M0 => ?_)
   repeat (first
 | (apply s_remT; exact rfl; exact rfl; exact rfl; exact (by decide))
 | (apply s_a TY; exact rfl)
 | (apply s_t; exact rfl; assumption)
 | apply w_seq
 | apply w_region
 | apply s_nil
 | apply t_norm
 | apply w_ret
 | (apply w_condT; exact rfl; exact rfl)
 | (apply s_c TY; exact rfl; omega))
   exact lv_ret (ret1 rfl (res_tmp rfl))
 · rw [if_neg h]
   refine summW Tryz.func113 rfl rfl 14 rfl (by simp) (fun M0 => ?_)
   repeat (first
 | (apply s_remT; exact rfl; exact rfl; exact rfl; exact (by decide))
 | (apply s_a TY; exact rfl)
 | (apply s_f; exact rfl; assumption)
 | apply w_seq
 | apply w_region
 | apply s_nil
 | apply t_norm
 | apply w_ret
 | apply w_skip
 | (apply w_condF; exact rfl; exact rfl))
   exact lv_ret (ret1 rfl (res_tmp rfl))
def whereZ (wh : List Int) (i : Nat) : Int := if i < wh.length then modZ (wh.getD i default) else modZ i
theorem whereZ_bd (wh : List Int) (i : Nat) : whereZ wh i = 0 \/ whereZ wh i = 1 \/ whereZ wh i = 2 := by
 unfold whereZ
 split <;> exact modZ_bd _
def selK (h : List Hit) (wh : List Int) (count m k : Int) (n : Nat) : List Hit := ((List.range n).filter fun i => decide (whereZ wh i = k) && (decide ((i : Int) < count) || decide ((h.getD i default).tm <= m))).map fun i => h.getD i default
theorem selK_in {h : List Hit} {wh : List Int} {count m k : Int} {n : Nat} (h1 : whereZ wh n = k) (h2 : (n : Int) < count \/ (h.getD n default).tm <= m) : selK h wh count m k (n + 1) = selK h wh count m k n ++ [h.getD n default] := by
 unfold selK
 rw [List.range_succ, List.filter_append, List.map_append]
 have : (decide (whereZ wh n = k) && (decide ((n : Int) < count) || decide ((h.getD n default).tm <= m))) = true := by
  simp only [Bool.and_eq_true, Bool.or_eq_true, decide_eq_true_eq]; exact ⟨h1, h2⟩
 rw [List.filter_cons, if_pos this]
 rfl
theorem selK_out {h : List Hit} {wh : List Int} {count m k : Int} {n : Nat} (h1 : whereZ wh n ≠ k \/ ¬ ((n : Int) < count \/ (h.getD n default).tm <= m)) : selK h wh count m k (n + 1) = selK h wh count m k n := by
 unfold selK
 rw [List.range_succ, List.filter_append, List.map_append]
 have : (decide (whereZ wh n = k) && (decide ((n : Int) < count) || decide ((h.getD n default).tm <= m))) = false := by
  rcases h1 with h1 | h1
  · simp [h1]
  · rw [<- Bool.not_eq_true]
    simp only [Bool.and_eq_true, Bool.or_eq_true, decide_eq_true_eq]
    exact fun q => h1 q.2
 rw [List.filter_cons, if_neg (by rw [this]; decide)]
 simp
theorem selK_len {h : List Hit} {wh : List Int} {count m k : Int} (n : Nat) : (selK h wh count m k n).length <= n := by
 unfold selK
 rw [List.length_map]
 exact Nat.le_trans (List.length_filter_le _ _) (by rw [List.length_range]; exact Nat.le_refl _)
def divS (h : List Hit) (wh : List Int) (m0 m1 m2 count : Int) : List Stm := [⟨selK h wh count m0 0 h.length, m0⟩, ⟨selK h wh count m1 1 h.length, m1⟩, ⟨selK h wh count m2 2 h.length, m2⟩]
theorem selK_mem {h : List Hit} {wh : List Int} {count m k : Int} {n : Nat} {x : Hit} : x ∈ selK h wh count m k n ↔ ∃ i, i < n /\ whereZ wh i = k /\ ((i : Int) < count \/ (h.getD i default).tm <= m) /\ h.getD i default = x := by
 unfold selK
 rw [List.mem_map]
 constructor
 · rintro ⟨i, hi, rfl⟩
   obtain ⟨h1, h2⟩ := List.mem_filter.1 hi
   rw [List.mem_range] at h1
   simp only [Bool.and_eq_true, Bool.or_eq_true, decide_eq_true_eq] at h2
   exact ⟨i, h1, h2.1, h2.2, rfl⟩
 · rintro ⟨i, h1, h2, h3, rfl⟩
   refine ⟨i, List.mem_filter.2 ⟨List.mem_range.2 h1, ?_⟩, rfl⟩
   simp only [Bool.and_eq_true, Bool.or_eq_true, decide_eq_true_eq]
   exact ⟨h2, h3⟩
theorem range_getD (h : List Hit) : (List.range h.length).map (fun i => h.getD i default) = h := by
 apply List.ext_getElem
 · simp
 · intro i h1 h2
   rw [List.getElem_map, List.getElem_range]
   exact getD_eq h2
theorem selK_sub (h : List Hit) (wh : List Int) (count m k : Int) : (selK h wh count m k h.length).Sublist h := by
 have : (selK h wh count m k h.length).Sublist ((List.range h.length).map fun i => h.getD i default) := List.filter_sublist.map _
 rwa [range_getD] at this
section
variable {l : List Site} {s : Setup} {h : List Hit} {wh : List Int} {m0 m1 m2 count : Int}
theorem selK_ok (o : HitsOk l h) (m k : Int) : HitsOk l (selK h wh count m k h.length) :=
 hitsOk_asc (Nat.le_trans (selK_len _) o.len) (o.asc.sublist (selK_sub h wh count m k)) fun _ hx => o.mem ((selK_sub h wh count m k).subset hx)
def markZ (m0 m1 m2 k : Int) : Int := if k = 0 then m0 else if k = 1 then m1 else m2
theorem divS_mem {x : Hit} : x ∈ allH (divS h wh m0 m1 m2 count) ↔ ∃ i, i < h.length /\ ((i : Int) < count \/ (h.getD i default).tm <= markZ m0 m1 m2 (whereZ wh i)) /\ h.getD i default = x := by
 have e : allH (divS h wh m0 m1 m2 count) = selK h wh count m0 0 h.length ++ (selK h wh count m1 1 h.length ++ selK h wh count m2 2 h.length) := by simp [allH, divS]
 rw [e, List.mem_append, List.mem_append, selK_mem, selK_mem, selK_mem]
 constructor
 · rintro (⟨i, h1, h2, h3, h4⟩ | ⟨i, h1, h2, h3, h4⟩ | ⟨i, h1, h2, h3, h4⟩) <;> exact ⟨i, h1, by rw [h2]; exact h3, h4⟩
 · rintro ⟨i, h1, h3, h4⟩
   rcases whereZ_bd wh i with h2 | h2 | h2 <;> rw [h2] at h3
   · exact .inl ⟨i, h1, h2, h3, h4⟩
   · exact .inr (.inl ⟨i, h1, h2, h3, h4⟩)
   · exact .inr (.inr ⟨i, h1, h2, h3, h4⟩)
theorem divS_sub {x : Hit} (hx : x ∈ mergeH (allH (divS h wh m0 m1 m2 count))) : x ∈ h := by
 obtain ⟨i, h1, _, rfl⟩ := divS_mem.1 (mergeH_mem.1 hx)
 rw [getD_eq h1]; exact List.getElem_mem h1
theorem divS_full (o : HitsOk l h) (hc : (h.length : Int) <= count) : mergeH (allH (divS h wh m0 m1 m2 count)) = h :=
 asc_uniq (mergeH_asc _) o.asc fun x => ⟨divS_sub, fun hx => by
  obtain ⟨i, hi, rfl⟩ := List.getElem_of_mem hx
  exact mergeH_mem.2 (divS_mem.2 ⟨i, hi, .inl (by omega), getD_eq hi⟩)⟩
theorem divS_each (o : HitsOk l h) (h0 : 0 <= m0 /\ m0 <= 1000000000000) (h1 : 0 <= m1 /\ m1 <= 1000000000000) (h2 : 0 <= m2 /\ m2 <= 1000000000000) : ∀ i (hi : i < (divS h wh m0 m1 m2 count).length), stmE l (divS h wh m0 m1 m2 count)[i] = 0 := fun i hi => by
 match i, hi with
 | 0, _ => exact stmE_ok.2 ⟨hitsChk_ok (selK_ok o m0 0), h0⟩
 | 1, _ => exact stmE_ok.2 ⟨hitsChk_ok (selK_ok o m1 1), h1⟩
 | 2, _ => exact stmE_ok.2 ⟨hitsChk_ok (selK_ok o m2 2), h2⟩
 | i + 3, h => exact absurd h (by simp [divS])
theorem divS_chk (o : HitsOk l h) (h0 : 0 <= m0 /\ m0 <= 1000000000000) (h1 : 0 <= m1 /\ m1 <= 1000000000000) (h2 : 0 <= m2 /\ m2 <= 1000000000000) : stmsChk l (divS h wh m0 m1 m2 count) = (0, 0) :=
 stmsChk_of (by simp [divS]) (by simp [divS]) (divS_each o h0 h1 h2)
end
structure RunsOk (ws : List Rng) : Prop where
 le : ∀ i, i < ws.length -> (ws.getD i default).lo <= (ws.getD i default).hi
 lt : ∀ i, i + 1 < ws.length -> (ws.getD i default).hi < (ws.getD (i + 1) default).lo
def toZ (s : Setup) (ws : List Rng) (r : Rng) (i : Nat) : Int := if i + 1 < ws.length then min (min ((ws.getD i default).hi + s.dead) r.hi) (ws.getD (i + 1) default).hi else min ((ws.getD i default).hi + s.dead) r.hi
def deadK (s : Setup) (ws : List Rng) (r : Rng) : Nat -> Int
 | 0 => 0
 | i + 1 => deadK s ws r i + max 0 (toZ s ws r i - max ((ws.getD i default).hi + 1) r.lo + 1)
set_option maxHeartbeats 1600000 in
theorem live_dead1 {s : Setup} {ws : List Rng} {r : Rng} (hr : r.lo <= r.hi) (hd : 0 <= s.dead) (ho : RunsOk ws) : ∀ k, k < ws.length ->
 (liveK s ws r (k + 1)).1 + deadK s ws r k + max 0 (min ((ws.getD k default).hi + s.dead) r.hi - max ((ws.getD k default).hi + 1) r.lo + 1) = r.hi - r.lo + 1 /\
 r.lo <= (liveK s ws r (k + 1)).2 /\ (liveK s ws r (k + 1)).2 <= max r.lo (min ((ws.getD k default).hi + s.dead) r.hi + 1) /\ min ((ws.getD k default).hi + s.dead) r.hi + 1 <= max (liveK s ws r (k + 1)).2 ((ws.getD k default).hi + 1)
 | 0, hk => by
   have e : liveK s ws r 1 = liveStep s r (r.hi - r.lo + 1, r.lo) (ws.getD 0 default) := rfl
   have e2 : deadK s ws r 0 = 0 := rfl
   rw [e, e2]
   unfold liveStep
   generalize (ws.getD 0 default).hi = a
   simp only
   split <;> simp only <;> omega
 | k + 1, hk => by
   obtain ⟨h1, h2, h3, h4⟩ := live_dead1 hr hd ho k (by omega)
   have hlt := ho.lt k hk
   have hle := ho.le (k + 1) hk
   have e : liveK s ws r (k + 1 + 1) = liveStep s r (liveK s ws r (k + 1)) (ws.getD (k + 1) default) := rfl
   have e2 : deadK s ws r (k + 1) = deadK s ws r k + max 0 (toZ s ws r k - max ((ws.getD k default).hi + 1) r.lo + 1) := rfl
   have e3 : toZ s ws r k = min (min ((ws.getD k default).hi + s.dead) r.hi) (ws.getD (k + 1) default).hi := if_pos hk
   rw [e, e2, e3]
   unfold liveStep
   generalize liveK s ws r (k + 1) = P at *
   obtain ⟨p, c⟩ := P
   generalize (ws.getD (k + 1) default).hi = b at *
   generalize (ws.getD (k + 1) default).lo = bl at *
   generalize (ws.getD k default).hi = a at *
   generalize deadK s ws r k = D at *
   simp only at h1 h2 h3 h4 ⊢
   split <;> simp only <;> omega
theorem live_dead {s : Setup} {ws : List Rng} {r : Rng} (hr : r.lo <= r.hi) (hd : 0 <= s.dead) (ho : RunsOk ws) : liveV s ws r + deadK s ws r ws.length = r.hi - r.lo + 1 := by
 unfold liveV
 by_cases hn : ws.length = 0
 · rw [hn]
   show r.hi - r.lo + 1 + 0 = _
   omega
 · obtain ⟨n, hn2⟩ : ∃ n, ws.length = n + 1 := ⟨ws.length - 1, by omega⟩
   have h := (live_dead1 hr hd ho n (by omega)).1
   have e : deadK s ws r (n + 1) = deadK s ws r n + max 0 (toZ s ws r n - max ((ws.getD n default).hi + 1) r.lo + 1) := rfl
   have e3 : toZ s ws r n = min ((ws.getD n default).hi + s.dead) r.hi := if_neg (by omega)
   rw [hn2, e, e3]
   omega
theorem runs_of {ws : List Rng} {n : Nat} (h : ∀ i, i < n -> wB ws i = 0) (hn : n = ws.length) : RunsOk ws := by
 subst hn
 have hb : ∀ i, i < ws.length -> (ws.getD i default).lo <= (ws.getD i default).hi /\ (i = 0 \/ (ws.getD (i - 1) default).hi < (ws.getD i default).lo) := fun i hi => by
  have := h i hi
  unfold wB at this
  by_cases e : (ws.getD i default).lo <= (ws.getD i default).hi /\ (i = 0 \/ (ws.getD (i - 1) default).hi < (ws.getD i default).lo)
  · exact e
  · rw [if_neg e] at this; cases this
 refine ⟨fun i hi => (hb i hi).1, fun i hi => ?_⟩
 rcases (hb (i + 1) hi).2 with h | h
 · omega
 · rwa [show i + 1 - 1 = i by omega] at h
theorem deadK_bd {s : Setup} {ws : List Rng} {r : Rng} (hr : (0 <= r.lo /\ r.lo <= 1000000000000) /\ (0 <= r.hi /\ r.hi <= 1000000000000)) (hd : 0 <= s.dead /\ s.dead <= 1000000) : ∀ k, 0 <= deadK s ws r k /\ deadK s ws r k <= 2000000000000 * (k : Int)
 | 0 => by simp [deadK]
 | k + 1 => by
   have ih := deadK_bd (ws := ws) hr hd k
   have hz : toZ s ws r k <= r.hi := by unfold toZ; split <;> omega
   rw [deadK]
   omega
theorem hN_head {h : List Hit} {w : Rng} {a : Nat} (ha : a ∈ hN h w) : ∃ j rest, hN h w = j :: rest /\ j <= a /\ j ∈ hN h w := by
 cases e : hN h w with
 | nil => rw [e] at ha; cases ha
 | cons j rest =>
   refine ⟨j, rest, rfl, ?_, by simp⟩
   have hp : (hN h w).Pairwise (· < ·) := (List.pairwise_lt_range).sublist List.filter_sublist
   rw [e] at ha hp
   rcases List.mem_cons.1 ha with rfl | h2
   · exact Nat.le_refl _
   · exact Nat.le_of_lt ((List.pairwise_cons.1 hp).1 a h2)
theorem hN_iff {h : List Hit} {w : Rng} {k : Nat} : k ∈ hN h w ↔ k < h.length /\ w.lo <= (h.getD k default).tm /\ (h.getD k default).tm <= w.hi := by
 unfold hN
 rw [List.mem_filter, List.mem_range]
 unfold withinB
 rw [Bool.and_eq_true, decide_eq_true_eq, decide_eq_true_eq]
theorem part_event {l : List Site} {s : Setup} {h g : List Hit} (hs : SetOk s) (oh : HitsOk l h) (og : HitsOk l g) (hsub : ∀ x, x ∈ h -> x ∈ g) {w : Rng} (hw : w ∈ windowsV l s h) :
 ∃ j rest, hN h w = j :: rest /\ j < h.length /\ ∃ k, ∃ hk : k < (windowsV l s g).length, ∃ b, b ∈ hN g (windowsV l s g)[k] /\ g.getD b default = h.getD j default := by
 obtain ⟨_, _, j3⟩ := joined_good (single_lo hs oh) (fun r hr => (single_le hs oh hr).1)
 obtain ⟨q, hq, hq1, hq2⟩ := j3 w hw
 obtain ⟨k, hk, a, e, ha, he, hqe⟩ := single_mem.1 hq
 have hr := hs.rule k hk
 have hrb : 1 <= s.rules[k].count /\ 0 <= s.rules[k].reach := by
  unfold ruleErr at hr
  split at hr
  · cases hr
  · split at hr
    · cases hr
    · omega
 have hf : (⟨(a : Nat), (h.getD a default).tm, e⟩ : Fire) ∈ firesV l s.rules[k] h h.length := by
  unfold firesV
  rw [List.mem_filterMap]
  exact ⟨a, List.mem_range.2 ha, by rw [he]; rfl⟩
 have hge := fires_ge hrb.2 oh hf
 obtain ⟨a', b, e0, e', ha', hfe, hb, hfb, hgb, hle⟩ := fires_less oh og hr (r' := s.rules[k]) ⟨rfl, rfl, rfl, ⟨hrb.1, Int.le_refl _⟩, Int.le_refl _, fun _ => rfl, fun x hx _ => hsub x hx⟩ hf
 have hge2 := fires_ge hrb.2 og hfb
 have ea : (h.getD a default).tm = (h.getD a' default).tm := congrArg Fire.lo hfe
 obtain ⟨kw, hkw, w1, w2, _⟩ := fire_win hs og (List.getElem_mem hk) hfb
 have hb0 := hs.before
 have ha0 := hs.after
 have hql : q.lo = (h.getD a default).tm - s.before := by rw [hqe]
 have hqh : q.hi = e + s.after := by rw [hqe]
 have hain : a ∈ hN h w := hN_iff.2 ⟨ha, by omega, by simp only at hge; omega⟩
 obtain ⟨j, rest, hj1, hj2, hj3⟩ := hN_head hain
 obtain ⟨hjl, hj4, hj5⟩ := hN_iff.1 hj3
 refine ⟨j, rest, hj1, hjl, kw, hkw, ?_⟩
 have htm := oh.tm j a hj2 ha
 rw [<- getD_e hjl, <- getD_e ha] at htm
 obtain ⟨b0, hb0l, hb0e⟩ := mem_idx (hsub _ (getD_mem hjl))
 refine ⟨b0, hN_iff.2 ⟨hb0l, ?_, ?_⟩, hb0e⟩
 · rw [hb0e]; simp only at w1; omega
 · rw [hb0e]; simp only at w2 hge2; omega
theorem many_win {l : List Site} {s : Setup} {h : List Hit} (hs : SetOk s) (ho : HitsOk l h) {r : Rule} (hr : r ∈ s.rules) (hk : r.kind = 0) {c i : Nat} (hc : r.count = (c : Int)) (h1 : 1 <= c) (hi : i + c <= h.length) (hw : (h.getD (i + c - 1) default).tm - (h.getD i default).tm <= r.window) :
 ∃ k, ∃ hk : k < (windowsV l s h).length, (windowsV l s h)[k].lo <= (h.getD i default).tm /\ (h.getD (i + c - 1) default).tm <= (windowsV l s h)[k].hi := by
 have hf := fire_many (l := l) ho hk hc h1 hi hw
 have hm : (⟨i, (h.getD i default).tm, (h.getD (i + c - 1) default).tm⟩ : Fire) ∈ firesV l r h h.length := by
  unfold firesV
  rw [List.mem_filterMap]
  exact ⟨i, List.mem_range.2 (by omega), by rw [hf]; rfl⟩
 obtain ⟨j, hj, w1, w2, _⟩ := fire_win hs ho hr hm
 have hb0 := hs.before
 have ha0 := hs.after
 exact ⟨j, hj, by simp only at w1; omega, by simp only at w2; omega⟩
def mod2 (n : Int) : Int := if n.tmod 2 < 0 then n.tmod 2 + 2 else n.tmod 2
def bitZ (z : Int) (i : Nat) : Bool := decide (mod2 (z / (2 : Int) ^ i) = 1)
def subK (h : List Hit) (z : Int) : Nat -> List Hit
 | 0 => []
 | i + 1 => if bitZ z i then subK h z i ++ [h.getD i default] else subK h z i
theorem subK_sub (h : List Hit) (z : Int) : ∀ k, k <= h.length -> (subK h z k).Sublist (h.take k)
 | 0, _ => by simp [subK]
 | k + 1, hk => by
   have ih := subK_sub h z k (by omega)
   rw [subK, List.take_succ_eq_append_getElem (show k < h.length by omega)]
   split
   · rw [getD_e (show k < h.length by omega)]; exact ih.append (List.Sublist.refl _)
   · exact ih.trans (List.sublist_append_left _ _)
theorem subK_len (h : List Hit) (z : Int) : ∀ k, (subK h z k).length <= k
 | 0 => Nat.le_refl _
 | k + 1 => by
   have ih := subK_len h z k
   rw [subK]
   split
   · rw [List.length_append]; show _ + 1 <= _; omega
   · omega
theorem subK_all (h : List Hit) (z : Int) : (subK h z h.length).Sublist h := by
 have := subK_sub h z h.length (Nat.le_refl _)
 rwa [List.take_length] at this
end Go.Proofs.YtbkdjlahhcofmaaGreatDoor
namespace Go.Ab
open Go Go.RowKit Go.Shelf Go.Proofs
section
variable {C : Ctx} {N : Nat} {st : St}
theorem v_len_owA {o : Oper} {T : TypeId} {x : Operand} {cs : List AV} {i n e sz E s bs : Nat} (ty : Ty C.P) (ho : o.op = .call { callee := .builtin .len, args := #[x], argTypes := #[T] }) (hd : dstB N o.dst = true) (hT : (ty.ty T).sl = some (E, s, bs)) (hx : st.ev C x = .ow i) (hi : st.h i = some (.rowA e sz n cs)) : ValOp C N o st (.f (.v (.int .i64 n))) :=
 valop_run hd fun w0 a w J st' hA S => by
  have e1 := S.eval x
  rw [hA.ev x (by simp [ho, Op.operands, Call.operands]), hx] at e1
  obtain ⟨hl, hv⟩ := e1
  have hu := (slE_spec ((ty.ok T).sl _ hT)).1
  obtain ⟨xs, q1, q0, q2, q3⟩ := blkOf hA S hi hl
  rcases q1.2 with ⟨e2, rfl⟩ | ⟨g, cap, cur, e2, _⟩
  · exact ⟨_, w, by simp [execOp, ho, resolve, invoke, builtin, Builtin.len_, hv, e2, run_underlying hu, goInt], Ext.refl _, RepF.v _⟩
  · exact ⟨_, w, by simp [execOp, ho, resolve, invoke, builtin, Builtin.len_, hv, e2, run_underlying hu, goInt], Ext.refl _, RepF.v _⟩
theorem a_bsliceP3 {o : Oper} {T E bs i o0 o1 o2 : Nat} {x0 x1 x2 : Operand} {zs : List Value} (ty : Ty C.P) (ho : o.op = .buildSlice T 3 #[(0, x0), (1, x1), (2, x2)]) (hd : dstB N o.dst = true) (hT : (ty.ty T).sl = some (E, 1, bs)) (hz : (ty.ty E).zero = some zs) (hzl : zs.length = 1) (hx0 : st.ev C x0 = .bx i o0) (hx1 : st.ev C x1 = .bx i o1) (hx2 : st.ev C x2 = .bx i o2) : AllOp C N o st (.ow st.nx) (.rowA E 1 3 [.bx i o0, .bx i o1, .bx i o2]) := by
 intro w0 a w st' hA hn ⟨J, S⟩ K Q hK
 have e0 := S.eval x0
 rw [hA.ev x0 (by simp [ho, Op.operands]), hx0] at e0
 have e1 := S.eval x1
 rw [hA.ev x1 (by simp [ho, Op.operands]), hx1] at e1
 have e2 := S.eval x2
 rw [hA.ev x2 (by simp [ho, Op.operands]), hx2] at e2
 obtain ⟨hlv, b, hb, hv0⟩ := e0
 obtain ⟨_, b1, hb1, hv1⟩ := e1
 have eb1 : b1 = b := Option.some.inj (hb1.symm.trans hb)
 rw [eb1] at hv1
 obtain ⟨_, b2, hb2, hv2⟩ := e2
 have eb2 : b2 = b := Option.some.inj (hb2.symm.trans hb)
 rw [eb2] at hv2
 have r0 : RepA C w st'.h J (.pointer (some ⟨b, o0, none⟩)) (.bx i o0) := ⟨hlv, b, hb, rfl⟩
 have r1 : RepA C w st'.h J (.pointer (some ⟨b, o1, none⟩)) (.bx i o1) := ⟨hlv, b, hb, rfl⟩
 have r2 : RepA C w st'.h J (.pointer (some ⟨b, o2, none⟩)) (.bx i o2) := ⟨hlv, b, hb, rfl⟩
 have hrun := run_buildSlice (w := w) (len := 3) (parts := #[((0 : Nat), Value.pointer (some ⟨b, o0, none⟩)), ((1 : Nat), Value.pointer (some ⟨b, o1, none⟩)), ((2 : Nat), Value.pointer (some ⟨b, o2, none⟩))]) (us := #[.pointer (some ⟨b, o0, none⟩), .pointer (some ⟨b, o1, none⟩), .pointer (some ⟨b, o2, none⟩)]) ((ty.ok T).sl _ hT) ((ty.ok E).zero zs hz) (by decide) (fun z' hz' => by
  have e : z'.cells.size = 1 := by rw [<- hzl, <- hz']; simp
  have e2 : (madeCells z'.cells (3 * 1)).size = 3 := by simp [size_madeCells]
  have e3 : (madeCells z'.cells (3 * 1)).toList.length = 3 := by simpa using e2
  obtain ⟨L, hL⟩ : ∃ L, L = (madeCells z'.cells (3 * 1)).toList := ⟨_, rfl⟩
  have e4 : madeCells z'.cells (3 * 1) = L.toArray := by rw [hL]
  rw [<- hL] at e3
  rw [e4]
  match L, e3 with
  | [y0, y1, y2], _ => simp [Instr.fill, Value.cells])
 refine op_value (show (execOp a.eval o).run C.P w = .ok (.value (.slice (some ⟨w.heap.size, 0, none⟩) 3 3)) (w.alloc (.cells #[.pointer (some ⟨b, o0, none⟩), .pointer (some ⟨b, o1, none⟩), .pointer (some ⟨b, o2, none⟩)] E)) by
  simp only [execOp, ho, Sem.run_bind, List.map_toArray, List.map_cons, List.map_nil, hv0, hv1, hv2]
  rw [hrun]; rfl) ?_
 refine hK _ _ ⟨upd J st.nx (.slice (some ⟨w.heap.size, 0, none⟩) 3 3), S.al hn hd (Ext.alloc _ _) (fun c hc => by simp [bk] at hc; omega) ?_ ?_ (fun e => by cases e)⟩
 · refine ⟨[.pointer (some ⟨b, o0, none⟩), .pointer (some ⟨b, o1, none⟩), .pointer (some ⟨b, o2, none⟩)], ⟨by simp, .inr ⟨w.heap.size, 3, #[.pointer (some ⟨b, o0, none⟩), .pointer (some ⟨b, o1, none⟩), .pointer (some ⟨b, o2, none⟩)], rfl, Nat.zero_le _, World.alloc_heap_new _ _, Nat.le_refl _, by decide, by simp, by simp⟩⟩, fun b hb => .inl (by simp [bk] at hb; rw [<- hb]; exact S.ext.le), by simp [Value.oneCell'], rfl, fun k u y h1 h2 => ?_⟩
   match k, h1, h2 with
   | 0, h1, h2 => cases h1; cases h2; exact al_rep S hn (Ext.alloc _ _) (fun c hc => by simp [bk] at hc; omega) r0
   | 1, h1, h2 => cases h1; cases h2; exact al_rep S hn (Ext.alloc _ _) (fun c hc => by simp [bk] at hc; omega) r1
   | 2, h1, h2 => cases h1; cases h2; exact al_rep S hn (Ext.alloc _ _) (fun c hc => by simp [bk] at hc; omega) r2
   | k + 3, h1, _ => simp at h1
 · exact ⟨by rw [upd_same]; rfl, by rw [upd_same]⟩
theorem a_bsliceP5 {o : Oper} {T E bs i o0 o1 o2 o3 o4 : Nat} {x0 x1 x2 x3 x4 : Operand} {zs : List Value} (ty : Ty C.P) (ho : o.op = .buildSlice T 5 #[(0, x0), (1, x1), (2, x2), (3, x3), (4, x4)]) (hd : dstB N o.dst = true) (hT : (ty.ty T).sl = some (E, 1, bs)) (hz : (ty.ty E).zero = some zs) (hzl : zs.length = 1) (hx0 : st.ev C x0 = .bx i o0) (hx1 : st.ev C x1 = .bx i o1) (hx2 : st.ev C x2 = .bx i o2) (hx3 : st.ev C x3 = .bx i o3) (hx4 : st.ev C x4 = .bx i o4) : AllOp C N o st (.ow st.nx) (.rowA E 1 5 [.bx i o0, .bx i o1, .bx i o2, .bx i o3, .bx i o4]) := by
 intro w0 a w st' hA hn ⟨J, S⟩ K Q hK
 have e0 := S.eval x0
 rw [hA.ev x0 (by simp [ho, Op.operands]), hx0] at e0
 have e1 := S.eval x1
 rw [hA.ev x1 (by simp [ho, Op.operands]), hx1] at e1
 have e2 := S.eval x2
 rw [hA.ev x2 (by simp [ho, Op.operands]), hx2] at e2
 have e3 := S.eval x3
 rw [hA.ev x3 (by simp [ho, Op.operands]), hx3] at e3
 have e4 := S.eval x4
 rw [hA.ev x4 (by simp [ho, Op.operands]), hx4] at e4
 obtain ⟨hlv, b, hb, hv0⟩ := e0
 obtain ⟨_, b1, hb1, hv1⟩ := e1
 have eb1 : b1 = b := Option.some.inj (hb1.symm.trans hb)
 rw [eb1] at hv1
 obtain ⟨_, b2, hb2, hv2⟩ := e2
 have eb2 : b2 = b := Option.some.inj (hb2.symm.trans hb)
 rw [eb2] at hv2
 obtain ⟨_, b3, hb3, hv3⟩ := e3
 have eb3 : b3 = b := Option.some.inj (hb3.symm.trans hb)
 rw [eb3] at hv3
 obtain ⟨_, b4, hb4, hv4⟩ := e4
 have eb4 : b4 = b := Option.some.inj (hb4.symm.trans hb)
 rw [eb4] at hv4
 have r0 : RepA C w st'.h J (.pointer (some ⟨b, o0, none⟩)) (.bx i o0) := ⟨hlv, b, hb, rfl⟩
 have r1 : RepA C w st'.h J (.pointer (some ⟨b, o1, none⟩)) (.bx i o1) := ⟨hlv, b, hb, rfl⟩
 have r2 : RepA C w st'.h J (.pointer (some ⟨b, o2, none⟩)) (.bx i o2) := ⟨hlv, b, hb, rfl⟩
 have r3 : RepA C w st'.h J (.pointer (some ⟨b, o3, none⟩)) (.bx i o3) := ⟨hlv, b, hb, rfl⟩
 have r4 : RepA C w st'.h J (.pointer (some ⟨b, o4, none⟩)) (.bx i o4) := ⟨hlv, b, hb, rfl⟩
 have hrun := run_buildSlice (w := w) (len := 5) (parts := #[((0 : Nat), Value.pointer (some ⟨b, o0, none⟩)), ((1 : Nat), Value.pointer (some ⟨b, o1, none⟩)), ((2 : Nat), Value.pointer (some ⟨b, o2, none⟩)), ((3 : Nat), Value.pointer (some ⟨b, o3, none⟩)), ((4 : Nat), Value.pointer (some ⟨b, o4, none⟩))]) (us := #[.pointer (some ⟨b, o0, none⟩), .pointer (some ⟨b, o1, none⟩), .pointer (some ⟨b, o2, none⟩), .pointer (some ⟨b, o3, none⟩), .pointer (some ⟨b, o4, none⟩)]) ((ty.ok T).sl _ hT) ((ty.ok E).zero zs hz) (by decide) (fun z' hz' => by
  have e : z'.cells.size = 1 := by rw [<- hzl, <- hz']; simp
  have e2 : (madeCells z'.cells (5 * 1)).size = 5 := by simp [size_madeCells]
  have e3 : (madeCells z'.cells (5 * 1)).toList.length = 5 := by simpa using e2
  obtain ⟨L, hL⟩ : ∃ L, L = (madeCells z'.cells (5 * 1)).toList := ⟨_, rfl⟩
  have e4 : madeCells z'.cells (5 * 1) = L.toArray := by rw [hL]
  rw [<- hL] at e3
  rw [e4]
  match L, e3 with
  | [y0, y1, y2, y3, y4], _ => simp [Instr.fill, Value.cells])
 refine op_value (show (execOp a.eval o).run C.P w = .ok (.value (.slice (some ⟨w.heap.size, 0, none⟩) 5 5)) (w.alloc (.cells #[.pointer (some ⟨b, o0, none⟩), .pointer (some ⟨b, o1, none⟩), .pointer (some ⟨b, o2, none⟩), .pointer (some ⟨b, o3, none⟩), .pointer (some ⟨b, o4, none⟩)] E)) by
  simp only [execOp, ho, Sem.run_bind, List.map_toArray, List.map_cons, List.map_nil, hv0, hv1, hv2, hv3, hv4]
  rw [hrun]; rfl) ?_
 refine hK _ _ ⟨upd J st.nx (.slice (some ⟨w.heap.size, 0, none⟩) 5 5), S.al hn hd (Ext.alloc _ _) (fun c hc => by simp [bk] at hc; omega) ?_ ?_ (fun e => by cases e)⟩
 · refine ⟨[.pointer (some ⟨b, o0, none⟩), .pointer (some ⟨b, o1, none⟩), .pointer (some ⟨b, o2, none⟩), .pointer (some ⟨b, o3, none⟩), .pointer (some ⟨b, o4, none⟩)], ⟨by simp, .inr ⟨w.heap.size, 5, #[.pointer (some ⟨b, o0, none⟩), .pointer (some ⟨b, o1, none⟩), .pointer (some ⟨b, o2, none⟩), .pointer (some ⟨b, o3, none⟩), .pointer (some ⟨b, o4, none⟩)], rfl, Nat.zero_le _, World.alloc_heap_new _ _, Nat.le_refl _, by decide, by simp, by simp⟩⟩, fun b hb => .inl (by simp [bk] at hb; rw [<- hb]; exact S.ext.le), by simp [Value.oneCell'], rfl, fun k u y h1 h2 => ?_⟩
   match k, h1, h2 with
   | 0, h1, h2 => cases h1; cases h2; exact al_rep S hn (Ext.alloc _ _) (fun c hc => by simp [bk] at hc; omega) r0
   | 1, h1, h2 => cases h1; cases h2; exact al_rep S hn (Ext.alloc _ _) (fun c hc => by simp [bk] at hc; omega) r1
   | 2, h1, h2 => cases h1; cases h2; exact al_rep S hn (Ext.alloc _ _) (fun c hc => by simp [bk] at hc; omega) r2
   | 3, h1, h2 => cases h1; cases h2; exact al_rep S hn (Ext.alloc _ _) (fun c hc => by simp [bk] at hc; omega) r3
   | 4, h1, h2 => cases h1; cases h2; exact al_rep S hn (Ext.alloc _ _) (fun c hc => by simp [bk] at hc; omega) r4
   | k + 5, h1, _ => simp at h1
 · exact ⟨by rw [upd_same]; rfl, by rw [upd_same]⟩
variable {ops : Array Oper} {pr : Bool} {K : St -> Prop} {rest : List Oper} {d : Option Tmp} {T0 : TypeId} {pos : String} {af : Array Edge} {gd : Option (Nat × Bool)}
theorem s_lenOA (ty : Ty C.P) {T : TypeId} {x : Operand} {cs : List AV} {i n e sz E s bs : Nat} (hw : wantB st ops ⟨d, .call { callee := .builtin .len, args := #[x], argTypes := #[T] }, T0, pos, af, gd⟩ = some true) (hd : dstB N d = true) (hT : (ty.ty T).sl = some (E, s, bs)) (hx : st.ev C x = .ow i) (hi : st.h i = some (.rowA e sz n cs))
 (h : R C N ops pr K rest (st.put d (.f (.v (.int .i64 n))))) : R C N ops pr K (⟨d, .call { callee := .builtin .len, args := #[x], argTypes := #[T] }, T0, pos, af, gd⟩ :: rest) st := ⟨r_val hw (v_len_owA ty rfl hd hT hx hi) h.out⟩
theorem s_bsliceP3 (ty : Ty C.P) {T E bs i o0 o1 o2 : Nat} {x0 x1 x2 : Operand} {zs : List Value} (hd : dstB N d = true) (hn : st.h st.nx = none) (hT : (ty.ty T).sl = some (E, 1, bs)) (hz : (ty.ty E).zero = some zs) (hzl : zs.length = 1) (hx0 : st.ev C x0 = .bx i o0) (hx1 : st.ev C x1 = .bx i o1) (hx2 : st.ev C x2 = .bx i o2) (k : R C N ops pr K rest ⟨(st.put d (.ow st.nx)).s, upd st.h st.nx (some (.rowA E 1 3 [.bx i o0, .bx i o1, .bx i o2])), st.nx + 1⟩) : R C N ops pr K (⟨d, .buildSlice T 3 #[(0, x0), (1, x1), (2, x2)], T0, pos, af, none⟩ :: rest) st := ⟨r_all rfl rfl hn (a_bsliceP3 ty rfl hd hT hz hzl hx0 hx1 hx2) k.out⟩
theorem s_bsliceP5 (ty : Ty C.P) {T E bs i o0 o1 o2 o3 o4 : Nat} {x0 x1 x2 x3 x4 : Operand} {zs : List Value} (hd : dstB N d = true) (hn : st.h st.nx = none) (hT : (ty.ty T).sl = some (E, 1, bs)) (hz : (ty.ty E).zero = some zs) (hzl : zs.length = 1) (hx0 : st.ev C x0 = .bx i o0) (hx1 : st.ev C x1 = .bx i o1) (hx2 : st.ev C x2 = .bx i o2) (hx3 : st.ev C x3 = .bx i o3) (hx4 : st.ev C x4 = .bx i o4) (k : R C N ops pr K rest ⟨(st.put d (.ow st.nx)).s, upd st.h st.nx (some (.rowA E 1 5 [.bx i o0, .bx i o1, .bx i o2, .bx i o3, .bx i o4])), st.nx + 1⟩) : R C N ops pr K (⟨d, .buildSlice T 5 #[(0, x0), (1, x1), (2, x2), (3, x3), (4, x4)], T0, pos, af, none⟩ :: rest) st := ⟨r_all rfl rfl hn (a_bsliceP5 ty rfl hd hT hz hzl hx0 hx1 hx2 hx3 hx4) k.out⟩
end
end Go.Ab
