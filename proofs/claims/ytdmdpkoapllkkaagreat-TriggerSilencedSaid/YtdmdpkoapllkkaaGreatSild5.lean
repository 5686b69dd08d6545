/- Laws on which the proofs of this seat stand. No condition. -/
import Derived.Test.YtdmdpkoapllkkaaGreatSild4
import Derived.Test.YtdmdpkoapllkkaaGreatRows
import Derived.WalkKit
import Derived.ProofKit
import Derived.OpenShut
import Derived.Stop.Joined
namespace Go.Proofs.YtdmdpkoapllkkaaGreat
open Go Go.RowKit Go.Proofs Go.Shelf Go.Ab
set_option maxRecDepth 100000 in
theorem CopyHits_n (l : List Hit) (hl : l.length ≤ 1000000) : SummN Tryz.prog GG 16 [.sl l.length (hitsF l)] 29 3 l.length (hitsF l) := by
  refine summN_of Tryz.func16 rfl rfl 6 rfl (by simp) (fun M0 => ?_)
  have hn := hitsF_len l
  repeat (first
    | (apply s_bslicew TY (len := 0); exact rfl; exact rfl; exact rfl; exact rfl; exact rfl; exact rfl; exact rfl; exact rfl; exact rfl)
    | (apply s_append TY; exact rfl; exact rfl; exact rfl; exact rfl; exact rfl; exact rfl; exact rfl; exact rfl; exact hn; (unfold maxLen; omega); omega)
    | (apply s_a TY; exact rfl)
    | apply w_seq
    | apply w_region
    | apply s_nil
    | apply t_norm
    | apply w_ret)
  exact ⟨2, 0, rfl, rfl, congrArg (fun n => some (Blk.row 29 3 n (hitsF l))) (Nat.zero_add _)⟩
theorem len_le_of_mem : ∀ {L M : List Int}, L.Pairwise (· < ·) → (∀ z, z ∈ L → z ∈ M) → L.length ≤ M.length
  | [], _, _, _ => Nat.zero_le _
  | x :: L, M, hp, hm => by
    obtain ⟨p1, p2⟩ := List.pairwise_cons.1 hp
    have hx := hm x (List.mem_cons_self ..)
    have := len_le_of_mem (L := L) (M := M.erase x) p2 (fun z hz => (List.mem_erase_of_ne (by have := p1 z hz; omega)).2 (hm z (List.mem_cons_of_mem _ hz)))
    rw [List.length_erase_of_mem hx] at this
    have := List.length_pos_of_mem hx
    rw [List.length_cons]; omega
theorem sitesV_len {l : List Site} {h : List Hit} (hl : ArrOk l) (ho : HitsOk l h) : (sitesV l h).length ≤ h.length := by
  have := len_le_of_mem (M := h.map (siteN l)) (sitesV_pw l h) (fun z hz => by
    obtain ⟨k, hk, e⟩ := (sitesV_mem hl ho).1 hz
    exact List.mem_map.2 ⟨h[k], List.getElem_mem hk, e⟩)
  simpa using this
theorem deadErr_ok {l : List Site} {d : List Int} (h30 : d.length ≤ 30) (h : ∀ z, z ∈ d → 0 ≤ z ∧ z < l.length) : deadErr l d = 0 := by
  unfold deadErr
  rw [if_neg (by omega), if_neg (fun hx => ?_)]
  obtain ⟨i, hi, ho⟩ := anyP_iff.1 hx
  unfold oddP withinB at ho
  rw [getD_at hi] at ho
  have := h d[i] (List.getElem_mem hi)
  simp only [Bool.not_eq_true', Bool.and_eq_false_iff, decide_eq_false_iff_not] at ho
  omega
def exL (o : List Int) (z : Int) (k : Nat) : List Int := ((List.range k).filter fun (j : Nat) => decide ((j : Int) ≠ z)).map fun (j : Nat) => o.getD j default
theorem exL_succ (o : List Int) (z : Int) {k : Nat} (hk : k < o.length) : exL o z (k + 1) = exL o z k ++ (if (k : Int) = z then [] else [o[k]]) := by
  unfold exL
  rw [List.range_succ, List.filter_append, List.map_append]
  congr 1
  by_cases e : (k : Int) = z
  · rw [if_pos e]; simp [e]
  · rw [if_neg e]; simp [e, List.getElem?_eq_getElem hk]
theorem exL_len (o : List Int) (z : Int) (k : Nat) : (exL o z k).length ≤ k := by
  unfold exL; rw [List.length_map]; exact Nat.le_trans (List.length_filter_le _ _) (by simp)
theorem map_getD (o : List Int) : (List.range o.length).map (fun j => o.getD j default) = o := by
  refine List.ext_getElem (by simp) fun i h1 h2 => ?_
  simp [List.getElem?_eq_getElem h2]
theorem exL_sub (o : List Int) (z : Int) : (exL o z o.length).Sublist o := by
  have h1 : (exL o z o.length).Sublist ((List.range o.length).map fun j => o.getD j default) := List.Sublist.map _ List.filter_sublist
  rwa [map_getD] at h1
theorem exL_all (o : List Int) {z : Int} (hz : z < 0) : exL o z o.length = o := by
  unfold exL
  rw [List.filter_eq_self.2 (fun j _ => by simp; omega), map_getD]
theorem exL_lt (o : List Int) {q : Nat} (hq : q < o.length) : (exL o (q : Int) o.length).length < o.length := by
  unfold exL
  rw [List.length_map]
  have := (List.length_filter_lt_length_iff_exists (p := fun j : Nat => decide ((j : Int) ≠ (q : Int))) (l := List.range o.length)).2 ⟨q, List.mem_range.2 hq, by simp⟩
  simpa using this
theorem rowI_ex {o : List Int} {z : Int} {k : Nat} (hk : k < o.length) (hz : ¬ (k : Int) = z) : some (Blk.row 3 1 ((exL o z k).length + 1) (intsF (exL o z k) ++ [iv o[k]])) = some (Blk.row 3 1 (exL o z (k + 1)).length (intsF (exL o z (k + 1)))) := by
  have := exL_succ o z hk
  rw [if_neg hz] at this
  exact rowI_app this
theorem rowI_eq {o : List Int} {z : Int} {k : Nat} (hk : k < o.length) (hz : (k : Int) = z) : some (Blk.row 3 1 (exL o z k).length (intsF (exL o z k))) = some (Blk.row 3 1 (exL o z (k + 1)).length (intsF (exL o z (k + 1)))) := by
  have := exL_succ o z hk
  rw [if_pos hz, List.append_nil] at this
  rw [this]
theorem crit_has {l : List Site} {r : Rule} {h : List Hit} {i : Nat} (hi : i < h.length) : (critV l r h).contains (i : Int) = (!(firesV l r h h.length).isEmpty && (firesV l r (woH h i) (woH h i).length).isEmpty) := by
  unfold critV
  cases hf : (firesV l r h h.length).isEmpty with
  | true => rw [if_pos rfl]; rfl
  | false =>
    rw [if_neg (by decide), Bool.not_false, Bool.true_and, Bool.eq_iff_iff]
    simp only [List.contains_eq_mem, decide_eq_true_eq, critN, natsL, List.mem_map, List.mem_filter, List.mem_range]
    constructor
    · rintro ⟨q, ⟨_, h2⟩, e⟩
      have : q = i := by omega
      subst this; exact h2
    · intro h2; exact ⟨i, ⟨hi, h2⟩, rfl⟩
theorem Summ.nil0 {P : Program} {G : Nat → Option (List FV)} {g : Nat} {a r : FV} (K : Summ P G g [.sl 0 [], a] r) : Summ P G g [.v (.slice none 0 0), a] r :=
  ⟨K.enters, fun w M us hM hG R => by
    obtain ⟨u1, us1, rfl, r1, R1⟩ := R.head
    have := repV r1
    subst this
    exact K.call w M _ hM hG (RepL.cons (RepF.sl none 0 0 [] [] (Nat.le_refl _) rfl (fun u hu => by simp at hu) (fun hn => absurd rfl hn) (fun k u x h => by simp at h)) R1)⟩
set_option maxRecDepth 100000 in
set_option maxHeartbeats 12800000 in
theorem TriggerSilenced_s (l : List Site) (r : Rule) (h : List Hit) : Summ Tryz.prog GG 6 [arrF l, .agg (ruleF r), .sl h.length (hitsF h)] (bv true) := by
  have HA := awake_s
  have HFw := Few_s l h
  have HLt := light_s r
  cases hfw : FewB l h with
  | false =>
    rw [hfw] at HFw
    refine summW Tryz.func6 rfl rfl 196 rfl (by simp) (fun M0 => ?_)
    repeat (first
    | (apply s_a TY; exact rfl)
    | apply w_seq
    | apply w_region
    | apply s_nil
    | apply t_norm
    | apply t_ret
    | apply w_ret
    | apply w_skip
    | (apply w_condT; exact rfl; exact rfl)
    | (apply w_condF; exact rfl; exact rfl)
    | (apply s_k (HA); exact rfl)
    | (apply s_k (HFw); exact rfl)
    | (apply s_s; exact rfl))
    exact lv_ret (ret1 rfl (res_tmp rfl))
  | true =>
  rw [hfw] at HFw
  cases hlt : lightB r with
  | false =>
    rw [hlt] at HLt
    refine summW Tryz.func6 rfl rfl 196 rfl (by simp) (fun M0 => ?_)
    repeat (first
    | (apply s_a TY; exact rfl)
    | apply w_seq
    | apply w_region
    | apply s_nil
    | apply t_norm
    | apply t_ret
    | apply w_ret
    | apply w_skip
    | (apply w_condT; exact rfl; exact rfl)
    | (apply w_condF; exact rfl; exact rfl)
    | (apply s_k (HA); exact rfl)
    | (apply s_k (HFw); exact rfl)
    | (apply s_k (HLt); exact rfl)
    | (apply s_s; exact rfl))
    exact lv_ret (ret1 rfl (res_tmp rfl))
  | true =>
  rw [hlt] at HLt
  by_cases h9 : 9 < h.length
  · refine summW Tryz.func6 rfl rfl 196 rfl (by simp) (fun M0 => ?_)
    repeat (first
    | (apply s_a TY; exact rfl)
    | (apply s_t; exact rfl; (first | assumption | omega))
    | apply w_seq
    | apply w_region
    | apply s_nil
    | apply t_norm
    | apply t_ret
    | apply w_ret
    | apply w_skip
    | (apply w_condT; exact rfl; exact rfl)
    | (apply w_condF; exact rfl; exact rfl)
    | (apply s_k (HA); exact rfl)
    | (apply s_k (HFw); exact rfl)
    | (apply s_k (HLt); exact rfl)
    | (apply s_s; exact rfl))
    exact lv_ret (ret1 rfl (res_tmp rfl))
  have hl32 : l.length ≤ 32 ∧ h.length ≤ 42 := by
    unfold FewB at hfw
    rw [Bool.and_eq_true, decide_eq_true_eq] at hfw
    exact ⟨hfw.1, fewB_le hfw.2⟩
  have hl6 : l.length ≤ 1000000 := by omega
  have hh6 : h.length ≤ 1000000 := by omega
  have HC1 := CopyArray_s l hl6
  have HC3 := CopyHits_s h hh6
  have HRE := RuledErr_s l r h hl6 hh6
  by_cases he : ruledErr l r h = 0
  · rw [he] at HRE
    obtain ⟨e1, e2, e3⟩ := ruleErr_parts he
    have hl0 := arrOk_of e1
    have ho := hitsOk_of hl0 e3
    have hs9 := sitesV_len hl0 ho
    have hsl : (sitesV l h).length ≤ l.length := sitesK_len l h l.length
    obtain ⟨c, hcl, o, hfo, hfb⟩ := sil_found (r := r) hl0 ho
    have HSb := SilencedBy_ok l r h hl6 hh6 he (by omega) hcl hfo hfb
    obtain ⟨⟨hsubO, hpo, hleast⟩, hol⟩ := sil_least (sitesV_pw l h) hfo hfb
    have hol9 : o.length ≤ 9 := by omega
    have hde0 : deadErr l o = 0 := deadErr_ok (by omega) (fun y hy => sitesV_in (hsubO.subset hy))
    have HDE := DeadErr_s l o hl6
    rw [hde0] at HDE
    have HFo := FiresOf_ok l r h hl6 hh6 he
    have HCr := Critical_ok l r h hl6 hh6 he
    obtain ⟨IX, HCr, HHas⟩ : ∃ IX, Summ Tryz.prog GG 20 [arrF l, .agg (ruleF r), .sl h.length (hitsF h)] (.tup [IX, iv 0]) ∧ ∀ i : Nat, Summ Tryz.prog GG 37 [IX, iv (i : Nat)] (bv ((critV l r h).contains (i : Int))) := by
      by_cases hf : (firesV l r h h.length).isEmpty = true
      · rw [if_pos hf] at HCr
        refine ⟨_, HCr, fun i => Summ.nil0 ?_⟩
        rw [show critV l r h = [] by unfold critV; rw [if_pos hf]]
        exact Has_s [] (i : Int) (by decide)
      · rw [if_neg hf] at HCr
        refine ⟨_, HCr, fun i => Has_s _ _ ?_⟩
        unfold critV
        rw [if_neg hf]
        exact Nat.le_trans (critN_len l r h _) hh6
    refine summW Tryz.func6 rfl rfl 196 rfl (by simp) (fun M0 => ?_)
    repeat (first
    | (apply s_assign_f; exact rfl; exact rfl)
    | (apply s_move_f; exact rfl; exact rfl)
    | (apply g_move_f; exact rfl; exact rfl; exact rfl; exact rfl)
    | (apply s_a TY; exact rfl)
    | (apply s_t; exact rfl; (first | assumption | omega))
    | (apply s_f; exact rfl; (first | assumption | omega))
    | apply w_seq
    | apply w_region
    | (apply w_draw (id := 5) 10 rfl (by kernel_rfl))
    | (apply w_draw (id := 6) 10 rfl (by kernel_rfl))
    | (apply w_draw (id := 7) 10 rfl (by kernel_rfl))
    | apply s_nil
    | apply t_norm
    | apply w_block
    | apply w_skip
    | (apply w_condF; exact rfl; exact rfl)
    | (apply s_k (HA); exact rfl)
    | (apply s_k (HFw); exact rfl)
    | (apply s_k (HLt); exact rfl)
    | (apply s_k (HC1); exact rfl)
    | (apply s_k (HC3); exact rfl)
    | (apply s_k (HRE); exact rfl)
    | (apply s_k (HSb); exact rfl)
    | (apply s_k (HFo); exact rfl)
    | (apply s_k (HCr); exact rfl)
    | (apply s_k (HDE); exact rfl))
    apply w_loop (fun z : Int => ⟨(Ab.upd (Ab.upd (Ab.upd (Ab.upd (Ab.upd (Ab.upd (Ab.upd (fun _ => .bot) 2 (.f (.sl h.length (hitsF h)))) 3 (.f (.pt [.sl l.length (sitesF l)] 0))) 4 (.f (.pt (ruleF r) 0))) 9 (.f IX)) 11 (.f (.sl (firesV l r h h.length).length (firesF (firesV l r h h.length))))) 7 (.f (.sl o.length (intsF o)))) 13 (.f (iv (z)))), (fun _ => none), 0⟩) (fun z => -1 ≤ z ∧ z ≤ o.length) (fun z => ((o.length : Int) - z).toNat) (-1) (⟨by omega, by omega⟩) (gh_le ⟨le_upd rfl trivial (le_upd rfl trivial (le_upd rfl trivial (le_upd rfl trivial (le_upd rfl trivial (le_upd rfl trivial (le_upd rfl trivial (le_nil _))))))), le_h0 _ _⟩)
    intro z ⟨hz0, hz1⟩
    by_cases hzc : z < o.length
    · by_cases hzn : z < 0
      · have hz2 : z < 0 := by omega
        have hsub : (exL o z o.length).Sublist (sitesV l h) := (exL_sub o z).trans hsubO
        have hel := exL_len o z o.length
        have hde : deadErr l (exL o z o.length) = 0 := deadErr_ok (by omega) (fun y hy => sitesV_in (hsub.subset hy))
        have hmo := maskV_ok ho (exL o z o.length)
        have hml := maskV_len l h (exL o z o.length)
        have HM := Masked_ok l h (exL o z o.length) hl6 hh6 (by omega) e1 e3 hde
        have HCm := CopyHits_s (maskV l h (exL o z o.length)) (by omega)
        have HFm := FiresOf_ok l r (maskV l h (exL o z o.length)) hl6 (by omega) (ruledErr_of e1 e2 (hitsChk_ok hmo))
        have hpl := silP_len (l := l) (r := r) (h := h) (d := (exL o z o.length))
        have hpT : silP l r h (exL o z o.length) = true := by rw [exL_all o hz2]; exact hpo
        rw [hpT] at hpl
        have hp0 := of_decide_eq_true hpl.symm
        repeat (first
    | (apply s_assign_f; exact rfl; exact rfl)
    | (apply s_move_f; exact rfl; exact rfl)
    | (apply s_a TY; exact rfl)
    | (apply s_t; exact rfl; (first | assumption | omega))
    | apply w_seq
    | apply w_region
    | apply s_nil
    | apply t_norm
    | apply w_block
    | apply w_skip
    | (apply w_condT; exact rfl; exact rfl))
        apply w_gh (gh_own 14 3 1 rfl rfl)
        apply w_loop (fun k : Nat => ⟨(Ab.upd (Ab.upd (Ab.upd (Ab.upd (Ab.upd (Ab.upd (Ab.upd (Ab.upd (Ab.upd (fun _ => .bot) 2 (.f (.sl h.length (hitsF h)))) 3 (.f (.pt [.sl l.length (sitesF l)] 0))) 4 (.f (.pt (ruleF r) 0))) 9 (.f IX)) 11 (.f (.sl (firesV l r h h.length).length (firesF (firesV l r h h.length))))) 7 (.f (.sl o.length (intsF o)))) 13 (.f (iv z))) 14 (.ow 0)) 15 (.f (iv ((k : Nat) : Int)))), (Ab.upd (fun _ => none) 0 (some (.row 3 1 (exL o z k).length (intsF (exL o z k))))), 1⟩) (fun k => k ≤ o.length) (fun k => o.length - k) 0 (Nat.zero_le _) (gh_le ⟨le_upd rfl trivial (le_upd rfl rfl (le_upd rfl trivial (le_upd rfl trivial (le_upd rfl trivial (le_upd rfl trivial (le_upd rfl trivial (le_upd rfl trivial (le_upd rfl trivial (le_nil _))))))))), le_hupd rfl trivial (le_h0 _ _)⟩)
        intro k hk
        have hek := exL_len o z k
        by_cases hkc : k < o.length
        · by_cases hkz : (k : Int) = z
          · repeat (first
    | (apply s_assign_f; exact rfl; exact rfl)
    | (apply s_move_f; exact rfl; exact rfl)
    | (apply s_a TY; exact rfl)
    | (apply s_t; exact rfl; (first | assumption | omega))
    | apply w_seq
    | apply w_region
    | apply s_nil
    | apply t_norm
    | apply k_norm
    | apply w_block
    | apply w_skip
    | (apply w_condT; exact rfl; exact rfl)
    | (apply w_condF; exact rfl; exact rfl)
    | (apply s_c TY; exact rfl; (first | omega | exact ⟨by omega, by (first | with_reducible assumption | ((with_reducible apply intsF_ne); omega) | assumption)⟩)))
            exact ⟨k + 1, by omega, by omega, gh_le ⟨le_upd rfl trivial (le_upd rfl rfl (le_upd rfl trivial (le_upd rfl trivial (le_upd rfl trivial (le_upd rfl trivial (le_upd rfl trivial (le_upd rfl trivial (le_upd rfl trivial (le_nil _))))))))), le_hupd (rowI_eq hkc hkz) trivial (le_h0 _ _)⟩⟩
          · repeat (first
    | (apply s_assign_f; exact rfl; exact rfl)
    | (apply s_move_f; exact rfl; exact rfl)
    | (apply s_append TY; exact rfl; exact rfl; exact rfl; exact rfl; exact rfl; exact rfl; exact rfl; exact rfl; exact rfl; (unfold maxLen; omega); omega)
    | (apply s_a TY; exact rfl)
    | (apply s_t; exact rfl; (first | assumption | omega))
    | (apply s_f; exact rfl; (first | assumption | omega))
    | apply w_seq
    | apply w_region
    | apply s_nil
    | apply t_norm
    | apply k_norm
    | apply w_block
    | apply w_skip
    | (apply w_condT; exact rfl; exact rfl)
    | (apply s_c TY; exact rfl; (first | omega | exact ⟨by omega, by (first | with_reducible assumption | ((with_reducible apply intsF_ne); omega) | assumption)⟩))
    | (apply s_l TY; exact rfl; (first | exact rfl | with_reducible assumption | ((with_reducible apply intsF_at); omega) | assumption)))
            exact ⟨k + 1, by omega, by omega, gh_le ⟨le_upd rfl trivial (le_upd rfl rfl (le_upd rfl trivial (le_upd rfl trivial (le_upd rfl trivial (le_upd rfl trivial (le_upd rfl trivial (le_upd rfl trivial (le_upd rfl trivial (le_nil _))))))))), le_hupd (rowI_ex hkc hkz) trivial (le_h0 _ _)⟩⟩
        · have hke : k = o.length := by omega
          subst hke
          repeat (first
    | (apply s_move_f; exact rfl; exact rfl)
    | (apply s_a TY; exact rfl)
    | (apply s_f; exact rfl; (first | assumption | omega))
    | apply w_seq
    | apply w_region
    | apply s_nil
    | apply t_norm
    | apply t_exit
    | apply k_hit
    | apply w_exit
    | (apply w_condF; exact rfl; exact rfl)
    | (apply s_k (HC1); exact rfl)
    | (apply s_k (HC3); exact rfl))
          refine s_ghost rfl (gh_row 0 rfl) ?_
          repeat (first
    | (apply s_assign_f; exact rfl; exact rfl)
    | (apply s_move_f; exact rfl; exact rfl)
    | (apply g_move_f; exact rfl; exact rfl; exact rfl; exact rfl)
    | (apply s_neb Tryz.underlying4; exact rfl; exact rfl; exact rfl; exact rfl)
    | (apply s_a TY; exact rfl)
    | (apply s_t; exact rfl; (first | assumption | omega))
    | (apply s_f; exact rfl; (first | assumption | omega))
    | apply w_seq
    | apply w_region
    | (apply w_draw (id := 22) 10 rfl (by kernel_rfl))
    | apply s_nil
    | apply t_norm
    | apply k_norm
    | apply w_skip
    | (apply w_condF; exact rfl; exact rfl)
    | (apply s_k (HC1); exact rfl)
    | (apply s_k (HM); exact rfl)
    | (apply s_k (HCm); exact rfl)
    | (apply s_k (HFm); exact rfl)
    | (apply s_c TY; exact rfl; (first | omega | exact ⟨by omega, by (first | with_reducible assumption | ((with_reducible apply intsF_ne); omega) | assumption)⟩)))
          exact ⟨z + 1, ⟨by omega, by omega⟩, by omega, gh_le ⟨le_upd rfl trivial (le_upd rfl trivial (le_upd rfl trivial (le_upd rfl trivial (le_upd rfl trivial (le_upd rfl trivial (le_upd rfl trivial (le_nil _))))))), le_h0 _ _⟩⟩
      · have hz2 : z < o.length := by omega
        have hsub : (exL o z o.length).Sublist (sitesV l h) := (exL_sub o z).trans hsubO
        have hel := exL_len o z o.length
        have hde : deadErr l (exL o z o.length) = 0 := deadErr_ok (by omega) (fun y hy => sitesV_in (hsub.subset hy))
        have hmo := maskV_ok ho (exL o z o.length)
        have hml := maskV_len l h (exL o z o.length)
        have HM := Masked_ok l h (exL o z o.length) hl6 hh6 (by omega) e1 e3 hde
        have HCm := CopyHits_s (maskV l h (exL o z o.length)) (by omega)
        have HFm := FiresOf_ok l r (maskV l h (exL o z o.length)) hl6 (by omega) (ruledErr_of e1 e2 (hitsChk_ok hmo))
        have hpl := silP_len (l := l) (r := r) (h := h) (d := (exL o z o.length))
        have hpF : silP l r h (exL o z o.length) = false := by
          obtain ⟨q, rfl⟩ : ∃ q : Nat, z = (q : Int) := ⟨z.toNat, by omega⟩
          cases hx : silP l r h (exL o (q : Int) o.length) with
    | false => rfl
    | true => exact absurd (.inl (exL_lt o (by omega))) (hleast _ hsub hx)
        rw [hpF] at hpl
        have hp0 := of_decide_eq_false hpl.symm
        repeat (first
    | (apply s_assign_f; exact rfl; exact rfl)
    | (apply s_move_f; exact rfl; exact rfl)
    | (apply s_a TY; exact rfl)
    | (apply s_t; exact rfl; (first | assumption | omega))
    | apply w_seq
    | apply w_region
    | apply s_nil
    | apply t_norm
    | apply w_block
    | apply w_skip
    | (apply w_condT; exact rfl; exact rfl))
        apply w_gh (gh_own 14 3 1 rfl rfl)
        apply w_loop (fun k : Nat => ⟨(Ab.upd (Ab.upd (Ab.upd (Ab.upd (Ab.upd (Ab.upd (Ab.upd (Ab.upd (Ab.upd (fun _ => .bot) 2 (.f (.sl h.length (hitsF h)))) 3 (.f (.pt [.sl l.length (sitesF l)] 0))) 4 (.f (.pt (ruleF r) 0))) 9 (.f IX)) 11 (.f (.sl (firesV l r h h.length).length (firesF (firesV l r h h.length))))) 7 (.f (.sl o.length (intsF o)))) 13 (.f (iv z))) 14 (.ow 0)) 15 (.f (iv ((k : Nat) : Int)))), (Ab.upd (fun _ => none) 0 (some (.row 3 1 (exL o z k).length (intsF (exL o z k))))), 1⟩) (fun k => k ≤ o.length) (fun k => o.length - k) 0 (Nat.zero_le _) (gh_le ⟨le_upd rfl trivial (le_upd rfl rfl (le_upd rfl trivial (le_upd rfl trivial (le_upd rfl trivial (le_upd rfl trivial (le_upd rfl trivial (le_upd rfl trivial (le_upd rfl trivial (le_nil _))))))))), le_hupd rfl trivial (le_h0 _ _)⟩)
        intro k hk
        have hek := exL_len o z k
        by_cases hkc : k < o.length
        · by_cases hkz : (k : Int) = z
          · repeat (first
    | (apply s_assign_f; exact rfl; exact rfl)
    | (apply s_move_f; exact rfl; exact rfl)
    | (apply s_a TY; exact rfl)
    | (apply s_t; exact rfl; (first | assumption | omega))
    | apply w_seq
    | apply w_region
    | apply s_nil
    | apply t_norm
    | apply k_norm
    | apply w_block
    | apply w_skip
    | (apply w_condT; exact rfl; exact rfl)
    | (apply w_condF; exact rfl; exact rfl)
    | (apply s_c TY; exact rfl; (first | omega | exact ⟨by omega, by (first | with_reducible assumption | ((with_reducible apply intsF_ne); omega) | assumption)⟩)))
            exact ⟨k + 1, by omega, by omega, gh_le ⟨le_upd rfl trivial (le_upd rfl rfl (le_upd rfl trivial (le_upd rfl trivial (le_upd rfl trivial (le_upd rfl trivial (le_upd rfl trivial (le_upd rfl trivial (le_upd rfl trivial (le_nil _))))))))), le_hupd (rowI_eq hkc hkz) trivial (le_h0 _ _)⟩⟩
          · repeat (first
    | (apply s_assign_f; exact rfl; exact rfl)
    | (apply s_move_f; exact rfl; exact rfl)
    | (apply s_append TY; exact rfl; exact rfl; exact rfl; exact rfl; exact rfl; exact rfl; exact rfl; exact rfl; exact rfl; (unfold maxLen; omega); omega)
    | (apply s_a TY; exact rfl)
    | (apply s_t; exact rfl; (first | assumption | omega))
    | (apply s_f; exact rfl; (first | assumption | omega))
    | apply w_seq
    | apply w_region
    | apply s_nil
    | apply t_norm
    | apply k_norm
    | apply w_block
    | apply w_skip
    | (apply w_condT; exact rfl; exact rfl)
    | (apply s_c TY; exact rfl; (first | omega | exact ⟨by omega, by (first | with_reducible assumption | ((with_reducible apply intsF_ne); omega) | assumption)⟩))
    | (apply s_l TY; exact rfl; (first | exact rfl | with_reducible assumption | ((with_reducible apply intsF_at); omega) | assumption)))
            exact ⟨k + 1, by omega, by omega, gh_le ⟨le_upd rfl trivial (le_upd rfl rfl (le_upd rfl trivial (le_upd rfl trivial (le_upd rfl trivial (le_upd rfl trivial (le_upd rfl trivial (le_upd rfl trivial (le_upd rfl trivial (le_nil _))))))))), le_hupd (rowI_ex hkc hkz) trivial (le_h0 _ _)⟩⟩
        · have hke : k = o.length := by omega
          subst hke
          repeat (first
    | (apply s_move_f; exact rfl; exact rfl)
    | (apply s_a TY; exact rfl)
    | (apply s_f; exact rfl; (first | assumption | omega))
    | apply w_seq
    | apply w_region
    | apply s_nil
    | apply t_norm
    | apply t_exit
    | apply k_hit
    | apply w_exit
    | (apply w_condF; exact rfl; exact rfl)
    | (apply s_k (HC1); exact rfl)
    | (apply s_k (HC3); exact rfl))
          refine s_ghost rfl (gh_row 0 rfl) ?_
          repeat (first
    | (apply s_assign_f; exact rfl; exact rfl)
    | (apply s_move_f; exact rfl; exact rfl)
    | (apply g_move_f; exact rfl; exact rfl; exact rfl; exact rfl)
    | (apply s_neb Tryz.underlying4; exact rfl; exact rfl; exact rfl; exact rfl)
    | (apply s_a TY; exact rfl)
    | (apply s_t; exact rfl; (first | assumption | omega))
    | (apply s_f; exact rfl; (first | assumption | omega))
    | apply w_seq
    | apply w_region
    | (apply w_draw (id := 22) 10 rfl (by kernel_rfl))
    | apply s_nil
    | apply t_norm
    | apply k_norm
    | apply w_skip
    | (apply w_condF; exact rfl; exact rfl)
    | (apply s_k (HC1); exact rfl)
    | (apply s_k (HM); exact rfl)
    | (apply s_k (HCm); exact rfl)
    | (apply s_k (HFm); exact rfl)
    | (apply s_c TY; exact rfl; (first | omega | exact ⟨by omega, by (first | with_reducible assumption | ((with_reducible apply intsF_ne); omega) | assumption)⟩)))
          exact ⟨z + 1, ⟨by omega, by omega⟩, by omega, gh_le ⟨le_upd rfl trivial (le_upd rfl trivial (le_upd rfl trivial (le_upd rfl trivial (le_upd rfl trivial (le_upd rfl trivial (le_upd rfl trivial (le_nil _))))))), le_h0 _ _⟩⟩
    · repeat (first
    | (apply s_assign_f; exact rfl; exact rfl)
    | (apply s_move_f; exact rfl; exact rfl)
    | (apply s_a TY; exact rfl)
    | (apply s_f; exact rfl; (first | assumption | omega))
    | apply w_seq
    | apply w_region
    | apply s_nil
    | apply t_norm
    | apply t_exit
    | apply k_hit
    | apply w_block
    | apply w_exit
    | (apply w_condF; exact rfl; exact rfl))
      apply w_loop (fun i : Nat => ⟨(Ab.upd (Ab.upd (Ab.upd (Ab.upd (Ab.upd (Ab.upd (fun _ => .bot) 2 (.f (.sl h.length (hitsF h)))) 3 (.f (.pt [.sl l.length (sitesF l)] 0))) 4 (.f (.pt (ruleF r) 0))) 9 (.f IX)) 11 (.f (.sl (firesV l r h h.length).length (firesF (firesV l r h h.length))))) 20 (.f (iv ((i : Nat) : Int)))), (fun _ => none), 0⟩) (fun i => i ≤ h.length) (fun i => h.length - i) 0 (Nat.zero_le _) (gh_le ⟨le_upd rfl trivial (le_upd rfl trivial (le_upd rfl trivial (le_upd rfl trivial (le_upd rfl trivial (le_upd rfl trivial (le_nil _)))))), le_h0 _ _⟩)
      intro i hi
      by_cases hc : i < h.length
      · obtain ⟨e1', e2', e3', e4'⟩ := wo_parts h i hc
        have how := hitsOk_sub ho (woH_sub h i)
        have q2 : (List.take (((((h.length : Nat) : Int)).toNat - (((i : Nat) : Int) + 1).toNat) * 3) (List.drop ((((i : Nat) : Int) + 1).toNat * 3) (hitsF h))).length = ((((h.length : Nat) : Int)).toNat - (((i : Nat) : Int) + 1).toNat) * 3 := by rw [e3', e4', hitsF_len]
        have HCn : SummN Tryz.prog GG 16 [.sl ((((i : Nat) : Int)).toNat - Int.toNat 0) (List.take (((((i : Nat) : Int)).toNat - Int.toNat 0) * 3) (List.drop (Int.toNat 0 * 3) (hitsF h)))] 29 3 ((((i : Nat) : Int)).toNat - Int.toNat 0) (List.take (((((i : Nat) : Int)).toNat - Int.toNat 0) * 3) (List.drop (Int.toNat 0 * 3) (hitsF h))) := by
          rw [e1', e2']; exact CopyHits_n (h.take i) (by rw [List.length_take]; omega)
        have HFw2 : Summ Tryz.prog GG 14 [arrF l, .agg (ruleF r), .sl (((((i : Nat) : Int)).toNat - Int.toNat 0) + ((((h.length : Nat) : Int)).toNat - (((i : Nat) : Int) + 1).toNat)) ((List.take (((((i : Nat) : Int)).toNat - Int.toNat 0) * 3) (List.drop (Int.toNat 0 * 3) (hitsF h))) ++ (List.take (((((h.length : Nat) : Int)).toNat - (((i : Nat) : Int) + 1).toNat) * 3) (List.drop ((((i : Nat) : Int) + 1).toNat * 3) (hitsF h))))] (.tup [.sl (firesV l r (woH h i) (woH h i).length).length (firesF (firesV l r (woH h i) (woH h i).length)), iv 0]) := by
          rw [show ((((i : Nat) : Int)).toNat - Int.toNat 0) + ((((h.length : Nat) : Int)).toNat - (((i : Nat) : Int) + 1).toNat) = (woH h i).length by unfold woH; rw [e2', e4', List.length_append], show (List.take (((((i : Nat) : Int)).toNat - Int.toNat 0) * 3) (List.drop (Int.toNat 0 * 3) (hitsF h))) ++ (List.take (((((h.length : Nat) : Int)).toNat - (((i : Nat) : Int) + 1).toNat) * 3) (List.drop ((((i : Nat) : Int) + 1).toNat * 3) (hitsF h))) = hitsF (woH h i) by unfold woH; rw [e1', e3', hitsF_app]]
          exact FiresOf_ok l r (woH h i) hl6 (by have := how.len; omega) (ruledErr_of e1 e2 (hitsChk_ok how))
        clear e1' e2' e3' e4'
        cases hf0 : (firesV l r h h.length).isEmpty with
        | true =>
          cases hfw0 : (firesV l r (woH h i) (woH h i).length).isEmpty with
          | true =>
            have g1 : (firesV l r h h.length).length = 0 := by rw [List.isEmpty_iff.1 hf0]; rfl
            have g2 : (firesV l r (woH h i) (woH h i).length).length = 0 := by rw [List.isEmpty_iff.1 hfw0]; rfl
            have HHi := HHas i
            rw [crit_has hc, hf0, hfw0] at HHi
            repeat (first
    | (apply s_move_f; exact rfl; exact rfl)
    | (apply s_callN HCn; exact rfl; exact rfl; exact rfl; exact rfl; exact rfl)
    | (apply s_append TY; exact rfl; exact rfl; exact rfl; exact rfl; exact rfl; exact rfl; exact rfl; exact rfl; exact q2; (unfold maxLen; omega); omega)
    | (apply s_a TY; exact rfl)
    | (apply s_t; exact rfl; (first | assumption | omega))
    | apply w_seq
    | apply w_region
    | (apply w_draw (id := 28) 8 rfl (by kernel_rfl))
    | apply s_nil
    | apply t_norm
    | apply w_block
    | apply w_skip
    | (apply w_condT; exact rfl; exact rfl)
    | (apply s_c TY; exact rfl; (first | omega | exact ⟨by omega, by (first | with_reducible assumption | ((with_reducible apply intsF_ne); omega) | assumption)⟩))
    | (apply s_slice TY; exact rfl; exact rfl; exact rfl; (first | exact rfl | exact ⟨_, rfl⟩); (first | exact rfl | exact ⟨_, rfl⟩); omega; omega; omega))
            apply w_gh (gh_row 0 rfl)
            repeat (first
    | (apply s_assign_f; exact rfl; exact rfl)
    | (apply s_move_f; exact rfl; exact rfl)
    | (apply g_move_f; exact rfl; exact rfl; exact rfl; exact rfl)
    | (apply s_neb Tryz.underlying4; exact rfl; exact rfl; exact rfl; exact rfl)
    | (apply s_a TY; exact rfl)
    | (apply s_t; exact rfl; (first | assumption | omega))
    | (apply s_f; exact rfl; (first | assumption | omega))
    | apply w_seq
    | apply w_region
    | (apply w_draw (id := 29) 9 rfl (by kernel_rfl))
    | apply s_nil
    | apply t_norm
    | apply k_norm
    | apply w_skip
    | (apply w_condF; exact rfl; exact rfl)
    | (apply s_k (HC1); exact rfl)
    | (apply s_k (HFw2); exact rfl)
    | (apply s_k (HHi); exact rfl)
    | (apply s_s; exact rfl)
    | (apply s_c TY; exact rfl; (first | omega | exact ⟨by omega, by (first | with_reducible assumption | ((with_reducible apply intsF_ne); omega) | assumption)⟩)))
            exact ⟨i + 1, by omega, by omega, gh_le ⟨le_upd rfl trivial (le_upd rfl trivial (le_upd rfl trivial (le_upd rfl trivial (le_upd rfl trivial (le_upd rfl trivial (le_nil _)))))), le_h0 _ _⟩⟩
          | false =>
            have g1 : (firesV l r h h.length).length = 0 := by rw [List.isEmpty_iff.1 hf0]; rfl
            have g2 : 0 < (firesV l r (woH h i) (woH h i).length).length := List.length_pos_iff.2 (fun e => by rw [e] at hfw0; cases hfw0)
            have HHi := HHas i
            rw [crit_has hc, hf0, hfw0] at HHi
            repeat (first
    | (apply s_move_f; exact rfl; exact rfl)
    | (apply s_callN HCn; exact rfl; exact rfl; exact rfl; exact rfl; exact rfl)
    | (apply s_append TY; exact rfl; exact rfl; exact rfl; exact rfl; exact rfl; exact rfl; exact rfl; exact rfl; exact q2; (unfold maxLen; omega); omega)
    | (apply s_a TY; exact rfl)
    | (apply s_t; exact rfl; (first | assumption | omega))
    | apply w_seq
    | apply w_region
    | (apply w_draw (id := 28) 8 rfl (by kernel_rfl))
    | apply s_nil
    | apply t_norm
    | apply w_block
    | apply w_skip
    | (apply w_condT; exact rfl; exact rfl)
    | (apply s_c TY; exact rfl; (first | omega | exact ⟨by omega, by (first | with_reducible assumption | ((with_reducible apply intsF_ne); omega) | assumption)⟩))
    | (apply s_slice TY; exact rfl; exact rfl; exact rfl; (first | exact rfl | exact ⟨_, rfl⟩); (first | exact rfl | exact ⟨_, rfl⟩); omega; omega; omega))
            apply w_gh (gh_row 0 rfl)
            repeat (first
    | (apply s_assign_f; exact rfl; exact rfl)
    | (apply s_move_f; exact rfl; exact rfl)
    | (apply g_move_f; exact rfl; exact rfl; exact rfl; exact rfl)
    | (apply s_neb Tryz.underlying4; exact rfl; exact rfl; exact rfl; exact rfl)
    | (apply s_a TY; exact rfl)
    | (apply s_t; exact rfl; (first | assumption | omega))
    | (apply s_f; exact rfl; (first | assumption | omega))
    | apply w_seq
    | apply w_region
    | (apply w_draw (id := 29) 9 rfl (by kernel_rfl))
    | apply s_nil
    | apply t_norm
    | apply k_norm
    | apply w_skip
    | (apply w_condF; exact rfl; exact rfl)
    | (apply s_k (HC1); exact rfl)
    | (apply s_k (HFw2); exact rfl)
    | (apply s_k (HHi); exact rfl)
    | (apply s_s; exact rfl)
    | (apply s_c TY; exact rfl; (first | omega | exact ⟨by omega, by (first | with_reducible assumption | ((with_reducible apply intsF_ne); omega) | assumption)⟩)))
            exact ⟨i + 1, by omega, by omega, gh_le ⟨le_upd rfl trivial (le_upd rfl trivial (le_upd rfl trivial (le_upd rfl trivial (le_upd rfl trivial (le_upd rfl trivial (le_nil _)))))), le_h0 _ _⟩⟩
        | false =>
          cases hfw0 : (firesV l r (woH h i) (woH h i).length).isEmpty with
          | true =>
            have g1 : 0 < (firesV l r h h.length).length := List.length_pos_iff.2 (fun e => by rw [e] at hf0; cases hf0)
            have g2 : (firesV l r (woH h i) (woH h i).length).length = 0 := by rw [List.isEmpty_iff.1 hfw0]; rfl
            have HHi := HHas i
            rw [crit_has hc, hf0, hfw0] at HHi
            repeat (first
    | (apply s_move_f; exact rfl; exact rfl)
    | (apply s_callN HCn; exact rfl; exact rfl; exact rfl; exact rfl; exact rfl)
    | (apply s_append TY; exact rfl; exact rfl; exact rfl; exact rfl; exact rfl; exact rfl; exact rfl; exact rfl; exact q2; (unfold maxLen; omega); omega)
    | (apply s_a TY; exact rfl)
    | (apply s_t; exact rfl; (first | assumption | omega))
    | apply w_seq
    | apply w_region
    | (apply w_draw (id := 28) 8 rfl (by kernel_rfl))
    | apply s_nil
    | apply t_norm
    | apply w_block
    | apply w_skip
    | (apply w_condT; exact rfl; exact rfl)
    | (apply s_c TY; exact rfl; (first | omega | exact ⟨by omega, by (first | with_reducible assumption | ((with_reducible apply intsF_ne); omega) | assumption)⟩))
    | (apply s_slice TY; exact rfl; exact rfl; exact rfl; (first | exact rfl | exact ⟨_, rfl⟩); (first | exact rfl | exact ⟨_, rfl⟩); omega; omega; omega))
            apply w_gh (gh_row 0 rfl)
            repeat (first
    | (apply s_assign_f; exact rfl; exact rfl)
    | (apply s_move_f; exact rfl; exact rfl)
    | (apply g_move_f; exact rfl; exact rfl; exact rfl; exact rfl)
    | (apply s_neb Tryz.underlying4; exact rfl; exact rfl; exact rfl; exact rfl)
    | (apply s_a TY; exact rfl)
    | (apply s_t; exact rfl; (first | assumption | omega))
    | apply w_seq
    | apply w_region
    | (apply w_draw (id := 29) 9 rfl (by kernel_rfl))
    | apply s_nil
    | apply t_norm
    | apply k_norm
    | apply w_skip
    | (apply w_condF; exact rfl; exact rfl)
    | (apply s_k (HC1); exact rfl)
    | (apply s_k (HFw2); exact rfl)
    | (apply s_k (HHi); exact rfl)
    | (apply s_c TY; exact rfl; (first | omega | exact ⟨by omega, by (first | with_reducible assumption | ((with_reducible apply intsF_ne); omega) | assumption)⟩)))
            exact ⟨i + 1, by omega, by omega, gh_le ⟨le_upd rfl trivial (le_upd rfl trivial (le_upd rfl trivial (le_upd rfl trivial (le_upd rfl trivial (le_upd rfl trivial (le_nil _)))))), le_h0 _ _⟩⟩
          | false =>
            have g1 : 0 < (firesV l r h h.length).length := List.length_pos_iff.2 (fun e => by rw [e] at hf0; cases hf0)
            have g2 : 0 < (firesV l r (woH h i) (woH h i).length).length := List.length_pos_iff.2 (fun e => by rw [e] at hfw0; cases hfw0)
            have HHi := HHas i
            rw [crit_has hc, hf0, hfw0] at HHi
            repeat (first
    | (apply s_move_f; exact rfl; exact rfl)
    | (apply s_callN HCn; exact rfl; exact rfl; exact rfl; exact rfl; exact rfl)
    | (apply s_append TY; exact rfl; exact rfl; exact rfl; exact rfl; exact rfl; exact rfl; exact rfl; exact rfl; exact q2; (unfold maxLen; omega); omega)
    | (apply s_a TY; exact rfl)
    | (apply s_t; exact rfl; (first | assumption | omega))
    | apply w_seq
    | apply w_region
    | (apply w_draw (id := 28) 8 rfl (by kernel_rfl))
    | apply s_nil
    | apply t_norm
    | apply w_block
    | apply w_skip
    | (apply w_condT; exact rfl; exact rfl)
    | (apply s_c TY; exact rfl; (first | omega | exact ⟨by omega, by (first | with_reducible assumption | ((with_reducible apply intsF_ne); omega) | assumption)⟩))
    | (apply s_slice TY; exact rfl; exact rfl; exact rfl; (first | exact rfl | exact ⟨_, rfl⟩); (first | exact rfl | exact ⟨_, rfl⟩); omega; omega; omega))
            apply w_gh (gh_row 0 rfl)
            repeat (first
    | (apply s_assign_f; exact rfl; exact rfl)
    | (apply s_move_f; exact rfl; exact rfl)
    | (apply g_move_f; exact rfl; exact rfl; exact rfl; exact rfl)
    | (apply s_neb Tryz.underlying4; exact rfl; exact rfl; exact rfl; exact rfl)
    | (apply s_a TY; exact rfl)
    | (apply s_t; exact rfl; (first | assumption | omega))
    | (apply s_f; exact rfl; (first | assumption | omega))
    | apply w_seq
    | apply w_region
    | (apply w_draw (id := 29) 9 rfl (by kernel_rfl))
    | apply s_nil
    | apply t_norm
    | apply k_norm
    | apply w_skip
    | (apply w_condF; exact rfl; exact rfl)
    | (apply s_k (HC1); exact rfl)
    | (apply s_k (HFw2); exact rfl)
    | (apply s_k (HHi); exact rfl)
    | (apply s_c TY; exact rfl; (first | omega | exact ⟨by omega, by (first | with_reducible assumption | ((with_reducible apply intsF_ne); omega) | assumption)⟩)))
            exact ⟨i + 1, by omega, by omega, gh_le ⟨le_upd rfl trivial (le_upd rfl trivial (le_upd rfl trivial (le_upd rfl trivial (le_upd rfl trivial (le_upd rfl trivial (le_nil _)))))), le_h0 _ _⟩⟩
      · repeat (first
    | (apply s_assign_f; exact rfl; exact rfl)
    | (apply s_move_f; exact rfl; exact rfl)
    | (apply s_a TY; exact rfl)
    | (apply s_f; exact rfl; (first | assumption | omega))
    | apply w_seq
    | apply w_region
    | apply s_nil
    | apply t_norm
    | apply t_exit
    | apply k_hit
    | apply w_exit
    | apply w_ret
    | (apply w_condF; exact rfl; exact rfl))
        exact lv_ret (ret1 rfl (res_tmp rfl))
  · refine summW Tryz.func6 rfl rfl 196 rfl (by simp) (fun M0 => ?_)
    repeat (first
    | (apply s_a TY; exact rfl)
    | (apply s_f; exact rfl; (first | assumption | omega))
    | apply w_seq
    | apply w_region
    | apply s_nil
    | apply t_norm
    | apply t_ret
    | apply w_ret
    | apply w_skip
    | (apply w_condT; exact rfl; exact rfl)
    | (apply w_condF; exact rfl; exact rfl)
    | (apply s_k (HA); exact rfl)
    | (apply s_k (HFw); exact rfl)
    | (apply s_k (HLt); exact rfl)
    | (apply s_k (HRE); exact rfl))
    exact lv_ret (ret1 rfl (res_tmp rfl))
end Go.Proofs.YtdmdpkoapllkkaaGreat
namespace Go.Ab
open Go Go.RowKit Go.Shelf Go.Proofs
def OpensFs (P : Program) (w : World) (fs : List Field) (off tot : Nat) {α : Type} (k : α → List FV) : Prop :=
  ∀ (H : Type) (enc : TypeId × Value → H) (base : Nat) (sp : Nat → Bool) (hd : Bool) (n : Nat) (cs : List Value), cs.length = off + tot → (∀ (i : Nat) (f : Field), fs[i]? = some f → ∃ x, DataW.trod enc P w base sp hd n f.type ((cs.drop f.offset).take (P.cellsOf f.type)) = some x) → ∃ a : α, RepL w (fun _ => False) (cs.drop off) (k a) ∧ ∀ u ∈ cs.drop off, u.oneCell'
section
variable {P : Program} {w : World}
theorem ofs_nil {off : Nat} : OpensFs P w [] off 0 (fun _ : Unit => []) := fun H enc base sp hd n cs hl _ => by
  rw [List.drop_eq_nil_of_le (by omega)]
  exact ⟨(), RepL.nil _ _, by simp⟩
theorem ofs_cons {f : Field} {fs : List Field} {off s tot : Nat} {α β : Type} {g : α → List FV} {k : β → List FV} (hc : P.cellsOf f.type = s) (ho : f.offset = off) (h : Opens P w f.type g) (hr : OpensFs P w fs (off + s) tot k) : OpensFs P w (f :: fs) off (s + tot) (fun p : α × β => g p.1 ++ k p.2) := fun H enc base sp hd n cs hl hx => by
  obtain ⟨x, hx0⟩ := hx 0 f rfl
  obtain ⟨a, r0, q0⟩ := h H enc base sp hd n _ _ hx0
  obtain ⟨b, r1, q1⟩ := hr H enc base sp hd n cs (by omega) (fun i f' hf => hx (i + 1) f' hf)
  rw [ho, hc] at r0 q0
  have hs : cs.drop off = (cs.drop off).take s ++ cs.drop (off + s) := by rw [← List.drop_drop, List.take_append_drop]
  refine ⟨(a, b), ?_, fun u hu => ?_⟩
  · rw [hs]; exact RepL.append r0 r1
  · rw [hs] at hu
    rcases List.mem_append.1 hu with h | h
    · exact q0 u h
    · exact q1 u h
theorem opens_st {T : TypeId} {fs : Array Field} {tot : Nat} {α : Type} {k : α → List FV} (ht : P.underlying T = some (.struct fs)) (ct : P.cellsOf T = tot) (h : OpensFs P w fs.toList 0 tot k) : Opens P w T k := fun H enc base sp hd fuel cs x hx => by
  obtain ⟨xs, n, _, _, hlen, hxl, hf⟩ := DataW.trod_struct ht hx
  have := h H enc base sp hd n cs (by rw [hlen, ct]; omega) (fun i f hi => by
    have hi' : fs[i]? = some f := by rw [← hi]; simp
    have e := hf i f hi'
    have hlt : i < xs.length := by
      rw [hxl]
      exact (Array.getElem?_eq_some_iff.1 hi').1
    rw [List.getElem?_eq_getElem hlt] at e
    exact ⟨_, e⟩)
  rwa [List.drop_zero] at this
end
end Go.Ab
namespace Go.Proofs.YtdmdpkoapllkkaaGreat
open Go Go.Ab Go.ChangeShapes Go.WideShapes Go.ChangeAt Go.RowKit
theorem ownKnobT : ownKnob Tryz.prog.godebug = none := by kernel_rfl
theorem laidOutT : laidOutB Tryz.prog = true := by kernel_rfl
theorem trodAll_stays {H : Type} {enc : TypeId × Value → H} {W W' : World} {sp : Nat → Bool} (hb : Below W.heap.size W W') : ∀ {ts : List TypeId} {vs : List Value} {ds : List (DataW H)} {ps : List MemPlace}, (∀ t ∈ ts, Tryz.prog.readableRec t = true ∧ t < Tryz.prog.types.size) → DataW.TrodAll enc Tryz.prog W 0 (fun _ => true) true ts vs ds ps → (∀ p ∈ ps, p.block < W.heap.size) → (∀ p ∈ ps, sp p.block = true) → DataW.TrodAll enc Tryz.prog W' 0 sp true ts vs ds ps
  | [], [], [], _, _, h, _, _ => h
  | t :: ts, v :: vs, d :: ds, ps, ht, ⟨p, q, h1, h2, e⟩, hlt, hsp => by
    have hp : ∀ x ∈ p, x ∈ ps := fun x hx => by rw [e]; exact List.mem_append_left _ hx
    have hq : ∀ x ∈ q, x ∈ ps := fun x hx => by rw [e]; exact List.mem_append_right _ hx
    exact ⟨p, q, WideElems.Trod_stays laidOutT (ht t (by simp)).1 (ht t (by simp)).2 h1 (fun x hx => hb.same (hlt x (hp x hx))) (fun x hx => hsp x (hp x hx)),
      trodAll_stays hb (fun u hu => ht u (by simp [hu])) h2 (fun x hx => hlt x (hq x hx)) (fun x hx => hsp x (hq x hx)), e⟩
theorem post_law {H : Type} {enc : TypeId × Value → H} {f : Func} {s : ChangeSpec} {W W' : World} {args : Array Value} {ds gs : List (DataW H)} {before : List MemPlace}
    (hW : DataW.Whole enc Tryz.prog f.params.toList s.vars false W args.toList ds gs before) (hv : s.vars = []) (hr : f.resultTypes = #[4])
    (ht : ∀ t ∈ f.params.toList, Tryz.prog.readableRec t = true ∧ t < Tryz.prog.types.size)
    (hres : (s.fn H (ds ++ gs)).results = [.lit (.bool true)]) (hargs : (s.fn H (ds ++ gs)).args = ds) (hvs : (s.fn H (ds ++ gs)).vars = [])
    (hb : Below W.heap.size W W') : s.post enc Tryz.prog f false true false false W args (.bool true) W' := by
  have hlt := hW.lt
  have hW0 := hW
  obtain ⟨p, q, h1, h2, e, hz, hn⟩ := hW
  have h2' := h2
  rw [hv] at h2'
  have hq : gs = [] ∧ q = [] := by
    cases gs with
    | nil => exact ⟨rfl, h2'⟩
    | cons g r => exact absurd h2' (by intro h; cases h)
  obtain ⟨rfl, rfl⟩ := hq
  rw [List.append_nil] at e
  subst e
  refine ⟨ds, [], before, [], before, [], hW0, ?_, ?_, ?_, Below.frame hb _, fun h => by cases h⟩
  · rw [hr, hres]; exact trodAll_mk1 (shut_bool Tryz.underlying4 true)
  · rw [hargs]
    exact trodAll_stays hb ht h1 hlt (fun x hx => by simpa using hlt x hx)
  · rw [hv, hvs]; rfl
section
variable {W : World}
theorem opens_i : Opens Tryz.prog W 3 (fun z : Int => [iv z]) := opens_int Tryz.underlying3
theorem opens_site : Opens Tryz.prog W 121 siteF := (opens_st Tryz.underlying121 (by kernel_rfl) (ofs_cons (s := 1) (by kernel_rfl) rfl opens_i (ofs_cons (s := 1) (by kernel_rfl) rfl opens_i (ofs_cons (s := 1) (by kernel_rfl) rfl opens_i (ofs_cons (s := 1) (by kernel_rfl) rfl opens_i (ofs_cons (s := 1) (by kernel_rfl) rfl opens_i (ofs_nil))))))).map (fun p => ⟨p.1, p.2.1, p.2.2.1, p.2.2.2.1, p.2.2.2.2.1⟩) fun _ => rfl
theorem opens_sites : Opens Tryz.prog W 22 (fun l : List Site => [.sl l.length (sitesF l)]) := opens_sl (s := 5) Tryz.underlying22 (by kernel_rfl) (by decide) opens_site
theorem opens_arr : Opens Tryz.prog W 24 (fun l : List Site => [.sl l.length (sitesF l)]) := (opens_st Tryz.underlying24 (by kernel_rfl) (ofs_cons (s := 1) (by kernel_rfl) rfl opens_sites (ofs_nil))).map (fun p => p.1) fun _ => rfl
theorem opens_hit : Opens Tryz.prog W 29 hitF := (opens_st Tryz.underlying29 (by kernel_rfl) (ofs_cons (s := 1) (by kernel_rfl) rfl opens_i (ofs_cons (s := 1) (by kernel_rfl) rfl opens_i (ofs_cons (s := 1) (by kernel_rfl) rfl opens_i (ofs_nil))))).map (fun p => ⟨p.1, p.2.1, p.2.2.1⟩) fun _ => rfl
theorem opens_hits : Opens Tryz.prog W 27 (fun l : List Hit => [.sl l.length (hitsF l)]) := opens_sl (s := 3) Tryz.underlying27 (by kernel_rfl) (by decide) opens_hit
theorem opens_rule : Opens Tryz.prog W 26 ruleF := (opens_st Tryz.underlying26 (by kernel_rfl) (ofs_cons (s := 1) (by kernel_rfl) rfl opens_i (ofs_cons (s := 1) (by kernel_rfl) rfl opens_i (ofs_cons (s := 1) (by kernel_rfl) rfl opens_i (ofs_cons (s := 1) (by kernel_rfl) rfl opens_i (ofs_cons (s := 1) (by kernel_rfl) rfl opens_i (ofs_nil))))))).map (fun p => ⟨p.1, p.2.1, p.2.2.1, p.2.2.2.1, p.2.2.2.2.1⟩) fun _ => rfl
end
set_option maxRecDepth 100000 in
theorem arg_st {H : Type} {enc : TypeId × Value → H} {W : World} {base : Nat} {T : TypeId} {fs : Array Field} {α : Type} {f : α → List FV} {v : Value} {d : DataW H} {ps : List MemPlace} (h : Opens Tryz.prog W T f) (ht : Tryz.prog.underlying T = some (.struct fs)) (hv : Value.okWide Tryz.prog W .any base T v) (hd : DataW.Trod enc Tryz.prog W 0 (fun _ => true) true T v d ps) : ∃ a, RepF W (fun _ => False) v (.agg (f a)) := by
  obtain ⟨cs, e, _⟩ := okWide_struct ht hv
  exact arg_agg h e hd
set_option maxRecDepth 100000 in
theorem arg_sl {H : Type} {enc : TypeId × Value → H} {W : World} {base : Nat} {T E : TypeId} {α : Type} {f : α → FV} {v : Value} {d : DataW H} {ps : List MemPlace} (h : Opens Tryz.prog W T (fun a => [f a])) (ht : Tryz.prog.underlying T = some (.slice E)) (hv : Value.okWide Tryz.prog W .any base T v) (hd : DataW.Trod enc Tryz.prog W 0 (fun _ => true) true T v d ps) : ∃ a, RepF W (fun _ => False) v (f a) := by
  obtain ⟨a, n, c, rfl⟩ := okWide_slice ht hv
  exact arg_one h rfl hd
theorem law_calls {f : Nat} {xs : List FV} (S : Summ Tryz.prog GG f xs (.v (.bool true))) {W : World} {args : Array Value} (R : RepL W (fun _ => False) args.toList xs) : Calls Tryz.prog f args W fun e W' => e = .returned (.bool true) ∧ Below W.heap.size W W' := by
  have := S.call W (fun _ => False) args.toList (fun _ h => h.elim) (fun g cs h => by cases h) R
  simp only [Array.toArray_toList] at this
  refine this.mono fun e w' ⟨v, h1, h2, h3⟩ => ⟨?_, h3⟩
  rw [h1, repV h2]
end Go.Proofs.YtdmdpkoapllkkaaGreat
