/- Laws on which the proofs of this seat stand. No condition. -/
import Derived.Test.YtdmdpkoapllkkaaGreatLess4
import Derived.Test.YtdmdpkoapllkkaaGreatRows
import Derived.WalkKit
import Derived.ProofKit
import Derived.OpenShut
import Derived.Stop.Joined
namespace Go.Proofs.YtdmdpkoapllkkaaGreat
open Go Go.RowKit Go.Proofs Go.Shelf Go.Ab
def stmE (l : List Site) (x : Stm) : Int := firstE [(hitsChk l x.hits).2, unlessE (withinB x.mark 0 1000000000000) 2]
def stmsChk (l : List Site) (c : List Stm) : Nat × Int := if c.length = 0 then (0, 10) else if 6 < c.length then (0, 8) else eachE c.length fun i => stmE l (c.getD i default)
theorem stmE_ok {l : List Site} {x : Stm} : stmE l x = 0 ↔ (hitsChk l x.hits).2 = 0 ∧ 0 ≤ x.mark ∧ x.mark ≤ 1000000000000 := by
  unfold stmE
  by_cases h1 : (hitsChk l x.hits).2 = 0
  · by_cases h2 : 0 ≤ x.mark ∧ x.mark ≤ 1000000000000
    · simp [firstE, unlessE, withinB, h1, h2]
    · have : withinB x.mark 0 1000000000000 = false := by simp [withinB]; omega
      simp [firstE, unlessE, h1, this]; omega
  · simp [firstE, h1]
theorem stmsChk_ok {l : List Site} {c : List Stm} (h : (stmsChk l c).2 = 0) : 1 ≤ c.length ∧ c.length ≤ 6 ∧ ∀ i (hi : i < c.length), (hitsChk l c[i].hits).2 = 0 ∧ 0 ≤ c[i].mark ∧ c[i].mark ≤ 1000000000000 := by
  unfold stmsChk at h
  by_cases h1 : c.length = 0
  · rw [if_pos h1] at h; cases h
  · rw [if_neg h1] at h
    by_cases h2 : 6 < c.length
    · rw [if_pos h2] at h; cases h
    · rw [if_neg h2] at h
      refine ⟨by omega, by omega, fun i hi => ?_⟩
      have := eachE_ok0.1 h i hi
      rw [getD_at hi] at this
      exact stmE_ok.1 this
theorem stmsChk_of {l : List Site} {c : List Stm} (h1 : 1 ≤ c.length) (h2 : c.length ≤ 6) (h : ∀ i (hi : i < c.length), stmE l c[i] = 0) : stmsChk l c = (0, 0) := by
  unfold stmsChk
  rw [if_neg (by omega), if_neg (by omega)]
  exact eachE_fst (eachE_ok0.2 fun i hi => by rw [getD_at hi]; exact h i hi)
theorem HitsOk.mem {l : List Site} {h : List Hit} (o : HitsOk l h) {x : Hit} (hx : x ∈ h) : HitOk l x := by
  obtain ⟨i, hi, rfl⟩ := List.getElem_of_mem hx
  exact o.hit i hi
theorem hitsOk_asc {l : List Site} {h : List Hit} (h40 : h.length ≤ 40) (ha : Asc h) (hm : ∀ x, x ∈ h → HitOk l x) : HitsOk l h :=
  ⟨h40, fun i hi => hm _ (List.getElem_mem hi), fun i hi => List.pairwise_iff_getElem.1 ha i (i + 1) (by omega) hi (by omega)⟩
theorem mem_allH {c : List Stm} {x : Hit} : x ∈ allH c ↔ ∃ i, ∃ (hi : i < c.length), x ∈ c[i].hits := by
  unfold allH
  rw [List.mem_flatMap]
  constructor
  · rintro ⟨s, hs, hx⟩
    obtain ⟨i, hi, rfl⟩ := List.getElem_of_mem hs
    exact ⟨i, hi, hx⟩
  · rintro ⟨i, hi, hx⟩; exact ⟨_, List.getElem_mem hi, hx⟩
theorem merge_ok {l : List Site} {c : List Stm} (hl : ArrOk l) (h : (stmsChk l c).2 = 0) (h40 : (mergeH (allH c)).length ≤ 40) : HitsOk l (mergeH (allH c)) :=
  hitsOk_asc h40 (mergeH_asc _) fun x hx => by
    obtain ⟨i, hi, hxi⟩ := mem_allH.1 (mergeH_mem.1 hx)
    exact (hitsOk_of hl ((stmsChk_ok h).2.2 i hi).1).mem hxi
set_option maxRecDepth 100000 in
theorem streamsErr1_s (l : List Site) (i : Int) (x : Stm) (hx : x.hits.length ≤ 1000000) : Summ Tryz.prog GG 142 [iv i, .agg (stmF x), .pt [.sl l.length (sitesF l), .mp (mapS l l.length)] 0] (iv (stmE l x)) := by
  have HH := hitsErr_s l x.hits hx
  unfold stmE
  refine summW Tryz.func142 rfl rfl 22 rfl (by simp) (fun M0 => ?_)
  repeat (first
    | (apply s_a TY; exact rfl)
    | apply w_seq
    | apply w_region
    | apply s_nil
    | apply t_norm
    | apply w_ret
    | (apply s_k (HH); exact rfl)
    | (apply s_k (first2_s _ _); exact rfl)
    | (apply s_k (unless_s _ _); exact rfl)
    | (apply s_k (isTick_s _); exact rfl))
  exact lv_ret (ret1 rfl (res_tmp rfl))
set_option maxRecDepth 100000 in
theorem streamsErr_s (l : List Site) (c : List Stm) (hn : c.length ≤ 1000000) (hh : ∀ i (hi : i < c.length), c[i].hits.length ≤ 1000000) : Summ Tryz.prog GG 103 [arrayV l, .sl c.length (stmsF c)] (.tup [iv (stmsChk l c).1, iv (stmsChk l c).2]) := by
  by_cases h0 : c.length = 0
  · rw [show stmsChk l c = (0, 10) by unfold stmsChk; rw [if_pos h0]]
    refine summW Tryz.func103 rfl rfl 25 rfl (by simp) (fun M0 => ?_)
    repeat (first
    | (apply s_a TY; exact rfl)
    | (apply s_t; exact rfl; (first | assumption | omega))
    | (apply s_f; exact rfl; (first | assumption | omega))
    | apply w_seq
    | apply w_region
    | apply s_nil
    | apply t_norm
    | apply t_ret
    | apply w_ret
    | (apply w_condT; exact rfl; exact rfl)
    | (apply s_k1 (first2_0 _ _); exact rfl; (first | assumption | omega | decide))
    | (apply s_k (unless_T _); exact rfl)
    | (apply s_k (unless_F _); exact rfl))
    exact lv_ret (ret2 rfl (res_tmp rfl) (res_tmp rfl))
  · by_cases h6 : 6 < c.length
    · rw [show stmsChk l c = (0, 8) by unfold stmsChk; rw [if_neg h0, if_pos h6]]
      refine summW Tryz.func103 rfl rfl 25 rfl (by simp) (fun M0 => ?_)
      repeat (first
    | (apply s_a TY; exact rfl)
    | (apply s_t; exact rfl; (first | assumption | omega))
    | (apply s_f; exact rfl; (first | assumption | omega))
    | apply w_seq
    | apply w_region
    | apply s_nil
    | apply t_norm
    | apply t_ret
    | apply w_ret
    | (apply w_condT; exact rfl; exact rfl)
    | (apply s_k1 (first2_1 _ _); exact rfl; (first | assumption | omega | decide))
    | (apply s_k (unless_T _); exact rfl)
    | (apply s_k (unless_F _); exact rfl))
      exact lv_ret (ret2 rfl (res_tmp rfl) (res_tmp rfl))
    · rw [show stmsChk l c = eachE c.length fun i => stmE l (c.getD i default) by unfold stmsChk; rw [if_neg h0, if_neg h6]]
      have HE := eachStm_s c 142 [.pt [.sl l.length (sitesF l), .mp (mapS l l.length)] 0] (fun i => stmE l (c.getD i default)) hn (fun i hi => by rw [getD_at hi]; exact streamsErr1_s l _ _ (hh i hi))
      refine summW Tryz.func103 rfl rfl 25 rfl (by simp) (fun M0 => ?_)
      repeat (first
    | (apply s_a TY; exact rfl)
    | (apply s_makefn; exact rfl; exact rfl)
    | (apply s_t; exact rfl; (first | assumption | omega))
    | apply w_seq
    | apply w_region
    | apply s_nil
    | apply t_norm
    | apply w_ret
    | apply w_skip
    | (apply w_condF; exact rfl; exact rfl)
    | (apply s_k (HE); exact rfl)
    | (apply s_k1 (first2_1 _ _); exact rfl; (first | assumption | omega | decide))
    | (apply s_k (unless_T _); exact rfl))
      exact lv_ret (ret2 rfl (res_tmp rfl) (res_tmp rfl))
set_option maxRecDepth 100000 in
theorem CheckStreams_ok (l : List Site) (c : List Stm) (hl : l.length ≤ 1000000) (hn : c.length ≤ 1000000) (hh : ∀ i (hi : i < c.length), c[i].hits.length ≤ 1000000) (h1 : (arrChk l).2 = 0) : Summ Tryz.prog GG 39 [arrF l, .sl c.length (stmsF c)] (.tup [iv (stmsChk l c).1, iv (stmsChk l c).2]) := by
  have HH := streamsErr_s l c hn hh
  refine summW Tryz.func39 rfl rfl 23 rfl (by simp) (fun M0 => ?_)
  repeat (first
    | (apply s_a TY; exact rfl)
    | (apply s_t; exact rfl; (first | assumption | omega))
    | apply w_seq
    | apply w_region
    | apply s_nil
    | apply t_norm
    | apply w_ret
    | apply w_skip
    | (apply w_condF; exact rfl; exact rfl)
    | (apply s_k (HH); exact rfl)
    | (apply s_k2 (openArray_ok _); exact rfl; (first | assumption | omega | decide); (first | assumption | omega | decide))
    | (apply s_alloc TY; exact rfl; exact rfl; exact rfl)
    | (apply s_store TY; exact rfl; exact rfl; exact rfl; exact rfl; exact rfl; exact rfl))
  exact lv_ret (ret2 rfl (res_tmp rfl) (res_tmp rfl))
set_option maxRecDepth 100000 in
theorem Merged_errB (l : List Site) (c : List Stm) (hl : l.length ≤ 1000000) (hn : c.length ≤ 1000000) (hh : ∀ i (hi : i < c.length), c[i].hits.length ≤ 1000000) (h1 : (arrChk l).2 = 0) (h2 : (stmsChk l c).2 ≠ 0) : Summ Tryz.prog GG 18 [arrF l, .sl c.length (stmsF c)] (.tup [.v (.slice none 0 0), iv (stmsChk l c).2]) := by
  have HC := CheckStreams_ok l c hl hn hh h1
  refine summW Tryz.func18 rfl rfl 24 rfl (by simp) (fun M0 => ?_)
  repeat (first
    | (apply s_a TY; exact rfl)
    | (apply s_f; exact rfl; (first | assumption | omega))
    | apply w_seq
    | apply w_region
    | apply s_nil
    | apply t_norm
    | apply t_ret
    | apply w_ret
    | (apply w_condT; exact rfl; exact rfl)
    | (apply s_k (HC); exact rfl))
  exact lv_ret (ret2 rfl (res_tmp rfl) (res_tmp rfl))
theorem stms_hits {l : List Site} {c : List Stm} (h1 : (arrChk l).2 = 0) (h2 : (stmsChk l c).2 = 0) : ∀ i (hi : i < c.length), c[i].hits.length ≤ 50 := fun i hi => by
  have := (hitsOk_of (arrOk_of h1) ((stmsChk_ok h2).2.2 i hi).1).len
  omega
set_option maxRecDepth 100000 in
theorem Merged_ok (l : List Site) (c : List Stm) (hl : l.length ≤ 1000000) (h1 : (arrChk l).2 = 0) (h2 : (stmsChk l c).2 = 0) (h40 : (mergeH (allH c)).length ≤ 40) : Summ Tryz.prog GG 18 [arrF l, .sl c.length (stmsF c)] (.tup [.sl (mergeH (allH c)).length (hitsF (mergeH (allH c))), iv 0]) := by
  have hc := stmsChk_ok h2
  have hh := stms_hits h1 h2
  have HC := CheckStreams_ok l c hl (by omega) (fun i hi => by have := hh i hi; omega) h1
  have HM := mergedH_s c (by omega) hh
  refine summW Tryz.func18 rfl rfl 24 rfl (by simp) (fun M0 => ?_)
  repeat (first
    | (apply s_a TY; exact rfl)
    | (apply s_t; exact rfl; (first | assumption | omega))
    | (apply s_f; exact rfl; (first | assumption | omega))
    | apply w_seq
    | apply w_region
    | apply s_nil
    | apply t_norm
    | apply w_ret
    | apply w_skip
    | (apply w_condF; exact rfl; exact rfl)
    | (apply s_k (HC); exact rfl)
    | (apply s_k (HM); exact rfl))
  exact lv_ret (ret2 rfl (res_tmp rfl) (res_tmp rfl))
def stP (l : List Hit) (fs : List Fire) (o : List Hit) (al : List Fire) (i j : Nat) : Prop := o.getD (al.getD j default).hit.toNat default = l.getD (fs.getD i default).hit.toNat default ∧ (al.getD j default).lo = (fs.getD i default).lo ∧ (al.getD j default).hi ≤ (fs.getD i default).hi
set_option maxRecDepth 100000 in
set_option maxHeartbeats 6400000 in
theorem still_s (l : List Hit) (fs : List Fire) (o : List Hit) (al : List Fire) (h1 : l.length ≤ 1000) (h2 : fs.length ≤ 1000) (h3 : o.length ≤ 1000) (h4 : al.length ≤ 1000) (hf : ∀ i (hi : i < fs.length), 0 ≤ fs[i].hit ∧ fs[i].hit < l.length) (ha : ∀ i (hi : i < al.length), 0 ≤ al[i].hit ∧ al[i].hit < o.length)
    (hs : ∀ i, i < fs.length → ∃ j, j < al.length ∧ stP l fs o al i j) : Summ Tryz.prog GG 17 [.sl l.length (hitsF l), .sl fs.length (firesF fs), .sl o.length (hitsF o), .sl al.length (firesF al)] (bv true) := by
  refine summW Tryz.func17 rfl rfl 96 rfl (by simp) (fun M0 => ?_)
  repeat (first
    | (apply s_a TY; exact rfl)
    | apply w_seq
    | apply w_region
    | apply s_nil
    | apply t_norm
    | apply w_block)
  apply w_loop (fun i : Nat => ⟨(Ab.upd (Ab.upd (Ab.upd (Ab.upd (Ab.upd (fun _ => .bot) 0 (.f (.sl l.length (hitsF l)))) 1 (.f (.sl fs.length (firesF fs)))) 2 (.f (.sl o.length (hitsF o)))) 3 (.f (.sl al.length (firesF al)))) 9 (.f (iv ((i : Nat) : Int)))), (fun _ => none), 0⟩) (fun i => i ≤ fs.length) (fun i => fs.length - i) 0 (Nat.zero_le _) (gh_le ⟨le_upd rfl trivial (le_upd rfl trivial (le_upd rfl trivial (le_upd rfl trivial (le_upd rfl trivial (le_nil _))))), le_h0 _ _⟩)
  intro i hi
  by_cases hc : i < fs.length
  · have hfi := hf i hc
    have gL : ((hitsF l).drop (fs[i].hit.toNat * 3)).take 3 = hitF (l.getD fs[i].hit.toNat default) := by
      rw [getD_at (show fs[i].hit.toNat < l.length by omega)]; exact hitsF_sub (show fs[i].hit.toNat < l.length by omega)
    have hlne : hitsF l ≠ [] := hitsF_ne (show fs[i].hit.toNat < l.length by omega)
    repeat (first
    | (apply s_a TY; exact rfl)
    | (apply s_t; exact rfl; (first | assumption | omega))
    | apply w_seq
    | apply w_region
    | apply s_nil
    | apply t_norm
    | apply w_block
    | apply w_skip
    | (apply w_condT; exact rfl; exact rfl)
    | (apply w_condF; exact rfl; exact rfl)
    | (apply s_k1 (bwithin_T _ _ _); exact rfl; (first | assumption | omega | decide))
    | (apply s_c TY; exact rfl; (first | omega | exact ⟨by omega, by (first | with_reducible assumption | ((with_reducible apply hitsF_ne); omega) | ((with_reducible apply firesF_ne); omega) | assumption)⟩))
    | (apply s_l TY; exact rfl; (first | exact rfl | with_reducible assumption | ((with_reducible apply hitsF_f0); omega) | ((with_reducible apply hitsF_f1); omega) | ((with_reducible apply hitsF_f2); omega) | ((with_reducible apply firesF_f0); omega) | ((with_reducible apply firesF_f1); omega) | ((with_reducible apply firesF_f2); omega) | assumption)))
    apply w_loop (fun q : Nat × Bool => ⟨(Ab.upd (Ab.upd (Ab.upd (Ab.upd (Ab.upd (Ab.upd (Ab.upd (fun _ => .bot) 0 (.f (.sl l.length (hitsF l)))) 1 (.f (.sl fs.length (firesF fs)))) 2 (.f (.sl o.length (hitsF o)))) 3 (.f (.sl al.length (firesF al)))) 9 (.f (iv ((i : Nat) : Int)))) 10 (.f (.v (.bool q.2)))) 11 (.f (iv ((q.1 : Nat) : Int)))), (fun _ => none), 0⟩) (fun q => q.1 ≤ al.length ∧ (q.2 = true ↔ ∃ j, j < al.length ∧ j < q.1 ∧ stP l fs o al i j)) (fun q => al.length - q.1) (0, false) (⟨Nat.zero_le _, by simp⟩) (gh_le ⟨le_upd rfl trivial (le_upd rfl trivial (le_upd rfl trivial (le_upd rfl trivial (le_upd rfl trivial (le_upd rfl trivial (le_upd rfl trivial (le_nil _))))))), le_h0 _ _⟩)
    rintro ⟨k, b⟩ ⟨hk, hb⟩
    simp only at hk hb
    change W _ _ _ _ (⟨(Ab.upd (Ab.upd (Ab.upd (Ab.upd (Ab.upd (Ab.upd (Ab.upd (fun _ => .bot) 0 (.f (.sl l.length (hitsF l)))) 1 (.f (.sl fs.length (firesF fs)))) 2 (.f (.sl o.length (hitsF o)))) 3 (.f (.sl al.length (firesF al)))) 9 (.f (iv ((i : Nat) : Int)))) 10 (.f (.v (.bool b)))) 11 (.f (iv ((k : Nat) : Int)))), (fun _ => none), 0⟩)
    by_cases hkc : k < al.length
    · have hak := ha k hkc
      have gO : ((hitsF o).drop (al[k].hit.toNat * 3)).take 3 = hitF (o.getD al[k].hit.toNat default) := by
        rw [getD_at (show al[k].hit.toNat < o.length by omega)]; exact hitsF_sub (show al[k].hit.toNat < o.length by omega)
      have hone : hitsF o ≠ [] := hitsF_ne (show al[k].hit.toNat < o.length by omega)
      have hP : stP l fs o al i k ↔ o.getD al[k].hit.toNat default = l.getD fs[i].hit.toNat default ∧ al[k].lo = fs[i].lo ∧ al[k].hi ≤ fs[i].hi := by unfold stP; rw [getD_at hkc, getD_at hc]
      cases b with
      | true =>
        repeat (first
    | (apply s_a TY; exact rfl)
    | (apply s_t; exact rfl; (first | assumption | omega))
    | apply w_seq
    | apply w_region
    | (apply w_draw (id := 12) 47 rfl (by kernel_rfl))
    | apply s_nil
    | apply t_norm
    | apply k_norm
    | apply w_block
    | apply w_skip
    | (apply w_condT; exact rfl; exact rfl)
    | (apply w_condF; exact rfl; exact rfl)
    | (apply s_k1 (bwithin_T _ _ _); exact rfl; (first | assumption | omega | decide))
    | (apply s_s; exact rfl)
    | (apply s_c TY; exact rfl; (first | omega | exact ⟨by omega, by (first | with_reducible assumption | ((with_reducible apply hitsF_ne); omega) | ((with_reducible apply firesF_ne); omega) | assumption)⟩))
    | (apply s_l TY; exact rfl; (first | exact rfl | with_reducible assumption | ((with_reducible apply hitsF_f0); omega) | ((with_reducible apply hitsF_f1); omega) | ((with_reducible apply hitsF_f2); omega) | ((with_reducible apply firesF_f0); omega) | ((with_reducible apply firesF_f1); omega) | ((with_reducible apply firesF_f2); omega) | assumption)))
        exact ⟨(k + 1, true), ⟨by simp only; omega, ⟨fun _ => (hb.1 rfl).imp fun j h => ⟨h.1, by simp only; omega, h.2.2⟩, fun _ => rfl⟩⟩, by simp only; omega, gh_le ⟨le_upd rfl trivial (le_upd rfl trivial (le_upd rfl trivial (le_upd rfl trivial (le_upd rfl trivial (le_upd rfl trivial (le_upd rfl trivial (le_nil _))))))), le_h0 _ _⟩⟩
      | false =>
        by_cases e1 : o.getD al[k].hit.toNat default = l.getD fs[i].hit.toNat default
        · by_cases e2 : al[k].lo = fs[i].lo
          · by_cases e3 : al[k].hi ≤ fs[i].hi
            · repeat (first
    | (apply s_bind; exact rfl; exact rfl; exact rfl; exact rfl; exact rfl; exact rfl; exact eq_hit (c := true) (decide_eq_true e1))
    | (apply s_a TY; exact rfl)
    | (apply s_t; exact rfl; (first | assumption | omega))
    | apply w_seq
    | apply w_region
    | (apply w_draw (id := 12) 47 rfl (by kernel_rfl))
    | apply s_nil
    | apply t_norm
    | apply k_norm
    | apply w_block
    | apply w_skip
    | (apply w_condT; exact rfl; exact rfl)
    | (apply w_condF; exact rfl; exact rfl)
    | (apply s_k1 (bwithin_T _ _ _); exact rfl; (first | assumption | omega | decide))
    | (apply s_c TY; exact rfl; (first | omega | exact ⟨by omega, by (first | with_reducible assumption | ((with_reducible apply hitsF_ne); omega) | ((with_reducible apply firesF_ne); omega) | assumption)⟩))
    | (apply s_z TY; exact rfl; (first | omega | exact ⟨by omega, by (first | with_reducible assumption | ((with_reducible apply hitsF_ne); omega) | ((with_reducible apply firesF_ne); omega) | assumption)⟩))
    | (apply s_l TY; exact rfl; (first | exact rfl | with_reducible assumption | ((with_reducible apply hitsF_f0); omega) | ((with_reducible apply hitsF_f1); omega) | ((with_reducible apply hitsF_f2); omega) | ((with_reducible apply firesF_f0); omega) | ((with_reducible apply firesF_f1); omega) | ((with_reducible apply firesF_f2); omega) | assumption))
    | (apply s_m TY; exact rfl; (first | with_reducible assumption | ((with_reducible apply hitsF_sub); omega) | ((with_reducible apply firesF_sub); omega) | exact rfl); exact rfl))
              exact ⟨(k + 1, true), ⟨by simp only; omega, ⟨fun _ => ⟨k, hkc, by simp only; omega, hP.2 ⟨e1, e2, e3⟩⟩, fun _ => rfl⟩⟩, by simp only; omega, gh_le ⟨le_upd rfl trivial (le_upd rfl trivial (le_upd rfl trivial (le_upd rfl trivial (le_upd rfl trivial (le_upd rfl trivial (le_upd rfl trivial (le_nil _))))))), le_h0 _ _⟩⟩
            · repeat (first
    | (apply s_bind; exact rfl; exact rfl; exact rfl; exact rfl; exact rfl; exact rfl; exact eq_hit (c := true) (decide_eq_true e1))
    | (apply s_a TY; exact rfl)
    | (apply s_t; exact rfl; (first | assumption | omega))
    | (apply s_f; exact rfl; (first | assumption | omega))
    | apply w_seq
    | apply w_region
    | (apply w_draw (id := 12) 47 rfl (by kernel_rfl))
    | apply s_nil
    | apply t_norm
    | apply k_norm
    | apply w_block
    | apply w_skip
    | (apply w_condT; exact rfl; exact rfl)
    | (apply w_condF; exact rfl; exact rfl)
    | (apply s_k1 (bwithin_T _ _ _); exact rfl; (first | assumption | omega | decide))
    | (apply s_c TY; exact rfl; (first | omega | exact ⟨by omega, by (first | with_reducible assumption | ((with_reducible apply hitsF_ne); omega) | ((with_reducible apply firesF_ne); omega) | assumption)⟩))
    | (apply s_z TY; exact rfl; (first | omega | exact ⟨by omega, by (first | with_reducible assumption | ((with_reducible apply hitsF_ne); omega) | ((with_reducible apply firesF_ne); omega) | assumption)⟩))
    | (apply s_l TY; exact rfl; (first | exact rfl | with_reducible assumption | ((with_reducible apply hitsF_f0); omega) | ((with_reducible apply hitsF_f1); omega) | ((with_reducible apply hitsF_f2); omega) | ((with_reducible apply firesF_f0); omega) | ((with_reducible apply firesF_f1); omega) | ((with_reducible apply firesF_f2); omega) | assumption))
    | (apply s_m TY; exact rfl; (first | with_reducible assumption | ((with_reducible apply hitsF_sub); omega) | ((with_reducible apply firesF_sub); omega) | exact rfl); exact rfl))
              exact ⟨(k + 1, false), ⟨by simp only; omega, ⟨(fun hf => by cases hf), fun ⟨j, hj, hjk, hp⟩ => by
                  simp only at hjk
                  by_cases e : j = k
                  · subst e; exact absurd hp (fun h => e3 (hP.1 h).2.2)
                  · exact hb.2 ⟨j, hj, by omega, hp⟩⟩⟩, by simp only; omega, gh_le ⟨le_upd rfl trivial (le_upd rfl trivial (le_upd rfl trivial (le_upd rfl trivial (le_upd rfl trivial (le_upd rfl trivial (le_upd rfl trivial (le_nil _))))))), le_h0 _ _⟩⟩
          · repeat (first
    | (apply s_bind; exact rfl; exact rfl; exact rfl; exact rfl; exact rfl; exact rfl; exact eq_hit (c := true) (decide_eq_true e1))
    | (apply s_a TY; exact rfl)
    | (apply s_t; exact rfl; (first | assumption | omega))
    | (apply s_f; exact rfl; (first | assumption | omega))
    | apply w_seq
    | apply w_region
    | (apply w_draw (id := 12) 47 rfl (by kernel_rfl))
    | apply s_nil
    | apply t_norm
    | apply k_norm
    | apply w_block
    | apply w_skip
    | (apply w_condT; exact rfl; exact rfl)
    | (apply w_condF; exact rfl; exact rfl)
    | (apply s_k1 (bwithin_T _ _ _); exact rfl; (first | assumption | omega | decide))
    | (apply s_s; exact rfl)
    | (apply s_c TY; exact rfl; (first | omega | exact ⟨by omega, by (first | with_reducible assumption | ((with_reducible apply hitsF_ne); omega) | ((with_reducible apply firesF_ne); omega) | assumption)⟩))
    | (apply s_z TY; exact rfl; (first | omega | exact ⟨by omega, by (first | with_reducible assumption | ((with_reducible apply hitsF_ne); omega) | ((with_reducible apply firesF_ne); omega) | assumption)⟩))
    | (apply s_l TY; exact rfl; (first | exact rfl | with_reducible assumption | ((with_reducible apply hitsF_f0); omega) | ((with_reducible apply hitsF_f1); omega) | ((with_reducible apply hitsF_f2); omega) | ((with_reducible apply firesF_f0); omega) | ((with_reducible apply firesF_f1); omega) | ((with_reducible apply firesF_f2); omega) | assumption))
    | (apply s_m TY; exact rfl; (first | with_reducible assumption | ((with_reducible apply hitsF_sub); omega) | ((with_reducible apply firesF_sub); omega) | exact rfl); exact rfl))
            exact ⟨(k + 1, false), ⟨by simp only; omega, ⟨(fun hf => by cases hf), fun ⟨j, hj, hjk, hp⟩ => by
                simp only at hjk
                by_cases e : j = k
                · subst e; exact absurd hp (fun h => e2 (hP.1 h).2.1)
                · exact hb.2 ⟨j, hj, by omega, hp⟩⟩⟩, by simp only; omega, gh_le ⟨le_upd rfl trivial (le_upd rfl trivial (le_upd rfl trivial (le_upd rfl trivial (le_upd rfl trivial (le_upd rfl trivial (le_upd rfl trivial (le_nil _))))))), le_h0 _ _⟩⟩
        · repeat (first
    | (apply s_bind; exact rfl; exact rfl; exact rfl; exact rfl; exact rfl; exact rfl; exact eq_hit (c := false) (decide_eq_false e1))
    | (apply s_a TY; exact rfl)
    | (apply s_t; exact rfl; (first | assumption | omega))
    | apply w_seq
    | apply w_region
    | (apply w_draw (id := 12) 47 rfl (by kernel_rfl))
    | apply s_nil
    | apply t_norm
    | apply k_norm
    | apply w_block
    | apply w_skip
    | (apply w_condT; exact rfl; exact rfl)
    | (apply w_condF; exact rfl; exact rfl)
    | (apply s_k1 (bwithin_T _ _ _); exact rfl; (first | assumption | omega | decide))
    | (apply s_s; exact rfl)
    | (apply s_c TY; exact rfl; (first | omega | exact ⟨by omega, by (first | with_reducible assumption | ((with_reducible apply hitsF_ne); omega) | ((with_reducible apply firesF_ne); omega) | assumption)⟩))
    | (apply s_z TY; exact rfl; (first | omega | exact ⟨by omega, by (first | with_reducible assumption | ((with_reducible apply hitsF_ne); omega) | ((with_reducible apply firesF_ne); omega) | assumption)⟩))
    | (apply s_l TY; exact rfl; (first | exact rfl | with_reducible assumption | ((with_reducible apply hitsF_f0); omega) | ((with_reducible apply hitsF_f1); omega) | ((with_reducible apply hitsF_f2); omega) | ((with_reducible apply firesF_f0); omega) | ((with_reducible apply firesF_f1); omega) | ((with_reducible apply firesF_f2); omega) | assumption))
    | (apply s_m TY; exact rfl; (first | with_reducible assumption | ((with_reducible apply hitsF_sub); omega) | ((with_reducible apply firesF_sub); omega) | exact rfl); exact rfl))
          exact ⟨(k + 1, false), ⟨by simp only; omega, ⟨(fun hf => by cases hf), fun ⟨j, hj, hjk, hp⟩ => by
              simp only at hjk
              by_cases e : j = k
              · subst e; exact absurd hp (fun h => e1 (hP.1 h).1)
              · exact hb.2 ⟨j, hj, by omega, hp⟩⟩⟩, by simp only; omega, gh_le ⟨le_upd rfl trivial (le_upd rfl trivial (le_upd rfl trivial (le_upd rfl trivial (le_upd rfl trivial (le_upd rfl trivial (le_upd rfl trivial (le_nil _))))))), le_h0 _ _⟩⟩
    · have hbt : b = true := hb.2 ((hs i hc).imp fun j h => ⟨h.1, by omega, h.2⟩)
      subst hbt
      repeat (first
    | (apply s_a TY; exact rfl)
    | (apply s_f; exact rfl; (first | assumption | omega))
    | apply w_seq
    | apply w_region
    | apply s_nil
    | apply t_norm
    | apply t_exit
    | apply k_hit
    | apply k_norm
    | apply w_exit
    | apply w_skip
    | (apply w_condF; exact rfl; exact rfl)
    | (apply s_c TY; exact rfl; (first | omega | exact ⟨by omega, by (first | with_reducible assumption | ((with_reducible apply hitsF_ne); omega) | ((with_reducible apply firesF_ne); omega) | assumption)⟩)))
      exact ⟨i + 1, by omega, by omega, gh_le ⟨le_upd rfl trivial (le_upd rfl trivial (le_upd rfl trivial (le_upd rfl trivial (le_upd rfl trivial (le_nil _))))), le_h0 _ _⟩⟩
  · repeat (first
    | (apply s_a TY; exact rfl)
    | (apply s_f; exact rfl; (first | assumption | omega))
    | apply w_seq
    | apply w_region
    | apply s_nil
    | apply t_norm
    | apply t_exit
    | apply k_hit
    | apply w_exit
    | apply w_ret
    | (apply w_condF; exact rfl; exact rfl))
    exact lv_ret (ret1 rfl (res_tmp rfl))
theorem stillR_s {l : List Site} {r r' : Rule} {h g : List Hit} (oh : HitsOk l h) (og : HitsOk l g) (hr : ruleErr r = 0) (E : Eases 1000000000000000 r r' h g) : Summ Tryz.prog GG 17 [.sl h.length (hitsF h), .sl (firesV l r h h.length).length (firesF (firesV l r h h.length)), .sl g.length (hitsF g), .sl (firesV l r' g g.length).length (firesF (firesV l r' g g.length))] (bv true) := by
  have b1 := firesV_len l r h h.length
  have b2 := firesV_len l r' g g.length
  have b3 := oh.len
  have b4 := og.len
  refine still_s h _ g _ (by omega) (by omega) (by omega) (by omega) (fun i hi => ?_) (fun i hi => ?_) (fun i hi => ?_)
  · obtain ⟨a, e, ha, _, he⟩ := firesV_mem (List.getElem_mem hi)
    rw [he]; simp only; omega
  · obtain ⟨a, e, ha, _, he⟩ := firesV_mem (List.getElem_mem hi)
    rw [he]; simp only; omega
  · obtain ⟨a, b, e, e', ha, he, hb, hm, heq, hle⟩ := fires_less oh og hr E (List.getElem_mem hi)
    obtain ⟨j, hj, hje⟩ := List.getElem_of_mem hm
    refine ⟨j, hj, ?_⟩
    unfold stP
    rw [getD_at hj, getD_at hi, hje, he]
    exact ⟨heq, rfl, hle⟩
theorem eases_more {r : Rule} {h g : List Hit} (hr : ruleErr r = 0) (sub : ∀ x, x ∈ h → x ∈ g) : Eases 1000000000000000 r r h g := eases_self hr fun x hx _ => sub x hx
theorem ruleErr_mk {r : Rule} (hk : 0 ≤ r.kind ∧ r.kind ≤ 3) (hc : 1 ≤ r.count ∧ r.count ≤ 40) (hw : 0 ≤ r.window ∧ r.window ≤ 1000000) (hr : 0 ≤ r.reach ∧ r.reach ≤ 1000000) (hh : 0 ≤ r.height ∧ r.height ≤ 1000000) (ho : r.kind = 3 → r.reach ≤ r.window) : ruleErr r = 0 := by
  unfold ruleErr
  repeat (first | rfl | (rw [if_neg (by omega)]) | omega | split)
set_option maxRecDepth 100000 in
set_option maxHeartbeats 12800000 in
theorem TriggerLess_s (l : List Site) (r : Rule) (h : List Hit) (x : Hit) (b : Bool) : Summ Tryz.prog GG 3 [arrF l, .agg (ruleF r), .agg [.sl h.length (hitsF h), iv x.tm, iv x.line, iv x.sensor, bv b]] (bv true) := by
  have HA := awake_s
  have HFw := Few_s l h
  have HLt := light_s r
  cases hfw : FewB l h with
  | false =>
    rw [hfw] at HFw
    refine summW Tryz.func3 rfl rfl 138 rfl (by simp) (fun M0 => ?_)
    repeat (first
    | (apply s_assign_f; exact rfl; exact rfl)
    | (apply s_move_f; exact rfl; exact rfl)
    | (apply s_a TY; exact rfl)
    | apply w_seq
    | apply w_region
    | apply s_nil
    | apply t_norm
    | apply t_ret
    | apply w_ret
    | apply w_skip
    | (apply w_condT; exact rfl; exact rfl)
    | (apply w_condF; exact rfl; exact rfl)
    | (apply s_k (HA); exact rfl)
    | (apply s_k (HFw); exact rfl)
    | (apply s_s; exact rfl))
    exact lv_ret (ret1 rfl (res_tmp rfl))
  | true =>
  rw [hfw] at HFw
  cases hlt : lightB r with
  | false =>
    rw [hlt] at HLt
    refine summW Tryz.func3 rfl rfl 138 rfl (by simp) (fun M0 => ?_)
    repeat (first
    | (apply s_assign_f; exact rfl; exact rfl)
    | (apply s_move_f; exact rfl; exact rfl)
    | (apply s_a TY; exact rfl)
    | apply w_seq
    | apply w_region
    | apply s_nil
    | apply t_norm
    | apply t_ret
    | apply w_ret
    | apply w_skip
    | (apply w_condT; exact rfl; exact rfl)
    | (apply w_condF; exact rfl; exact rfl)
    | (apply s_k (HA); exact rfl)
    | (apply s_k (HFw); exact rfl)
    | (apply s_k (HLt); exact rfl)
    | (apply s_s; exact rfl))
    exact lv_ret (ret1 rfl (res_tmp rfl))
  | true =>
  rw [hlt] at HLt
  by_cases h13 : 13 < h.length
  · refine summW Tryz.func3 rfl rfl 138 rfl (by simp) (fun M0 => ?_)
    repeat (first
    | (apply s_assign_f; exact rfl; exact rfl)
    | (apply s_move_f; exact rfl; exact rfl)
    | (apply g_move_f; exact rfl; exact rfl; exact rfl; exact rfl)
    | (apply s_a TY; exact rfl)
    | (apply s_t; exact rfl; (first | assumption | omega))
    | apply w_seq
    | apply w_region
    | apply s_nil
    | apply t_norm
    | apply t_ret
    | apply w_ret
    | apply w_skip
    | (apply w_condT; exact rfl; exact rfl)
    | (apply w_condF; exact rfl; exact rfl)
    | (apply s_k (HA); exact rfl)
    | (apply s_k (HFw); exact rfl)
    | (apply s_k (HLt); exact rfl)
    | (apply s_s; exact rfl))
    exact lv_ret (ret1 rfl (res_tmp rfl))
  have hl32 : l.length ≤ 32 ∧ h.length ≤ 42 := by
    unfold FewB at hfw
    rw [Bool.and_eq_true, decide_eq_true_eq] at hfw
    exact ⟨hfw.1, fewB_le hfw.2⟩
  have hl6 : l.length ≤ 1000000 := by omega
  have hh6 : h.length ≤ 1000000 := by omega
  have HC1 := CopyArray_s l hl6
  have HC3 := CopyHits_s h hh6
  have HRE := RuledErr_s l r h hl6 hh6
  by_cases he : ruledErr l r h = 0
  · rw [he] at HRE
    obtain ⟨e1, e2, e3⟩ := ruleErr_parts he
    have hl0 := arrOk_of e1
    have ho := hitsOk_of hl0 e3
    have HFo := FiresOf_ok l r h hl6 hh6 he
    obtain ⟨hk, hcc, hww, hre, hhe, hso⟩ := ruleOk_of e2
    have hce : r.count = max 1 r.count := by omega
    cases b with
    | true =>
      have hcq : 1 ≤ max 1 (r.count - 1) ∧ max 1 (r.count - 1) ≤ 40 := by omega
      have hwq := hww
      have hcc2 : 1 ≤ max 1 (r.count - 1) ∧ max 1 (r.count - 1) ≤ r.count := by omega
      have hww2 : r.window ≤ r.window := Int.le_refl _
      have hslow : r.kind = 3 → r.window = r.window := fun _ => rfl
      have hrq : ruleErr ⟨r.kind, max 1 (r.count - 1), r.window, r.reach, r.height⟩ = 0 := ruleErr_mk hk hcq hwq hre hhe hso
      have hE : Eases 1000000000000000 r ⟨r.kind, max 1 (r.count - 1), r.window, r.reach, r.height⟩ h h := ⟨rfl, rfl, rfl, hcc2, hww2, hslow, fun x hx _ => hx⟩
      have HFq := FiresOf_ok l ⟨r.kind, max 1 (r.count - 1), r.window, r.reach, r.height⟩ h hl6 hh6 (ruledErr_of e1 hrq e3)
      have HS1 := stillR_s ho ho e2 hE
      by_cases hx : (hitsChk l [x]).2 = 0
      · have hxl : HitsOk l [x] := hitsOk_of hl0 hx
        have hse := stmsChk_of (l := l) (c := ([⟨h, 0⟩, ⟨[x], 0⟩] : List Stm)) (by simp) (by simp) (fun i hi => by
          match i, hi with
    | 0, _ => exact stmE_ok.2 ⟨e3, (by show (0 : Int) ≤ 0; omega), (by show (0 : Int) ≤ 1000000000000; omega)⟩
    | 1, _ => exact stmE_ok.2 ⟨hx, (by show (0 : Int) ≤ 0; omega), (by show (0 : Int) ≤ 1000000000000; omega)⟩)
        have hml : (mergeH (allH ([⟨h, 0⟩, ⟨[x], 0⟩] : List Stm))).length ≤ h.length + 1 := by
          have := mergeH_len (allH ([⟨h, 0⟩, ⟨[x], 0⟩] : List Stm))
          simpa [allH] using this
        have hM : HitsOk l (mergeH (allH ([⟨h, 0⟩, ⟨[x], 0⟩] : List Stm))) := merge_ok hl0 (by rw [hse]) (by omega)
        have hsub : ∀ z, z ∈ h → z ∈ (mergeH (allH ([⟨h, 0⟩, ⟨[x], 0⟩] : List Stm))) := fun z hz => mergeH_mem.2 (by simp [allH, hz])
        have HM := Merged_ok l ([⟨h, 0⟩, ⟨[x], 0⟩] : List Stm) hl6 e1 (by rw [hse]) (by omega)
        have HCg := CopyHits_s (mergeH (allH ([⟨h, 0⟩, ⟨[x], 0⟩] : List Stm))) (by omega)
        have HFg := FiresOf_ok l r (mergeH (allH ([⟨h, 0⟩, ⟨[x], 0⟩] : List Stm))) hl6 (by omega) (ruledErr_of e1 e2 (hitsChk_ok hM))
        have HS2 := stillR_s ho hM e2 (eases_more e2 hsub)
        refine summW Tryz.func3 rfl rfl 138 rfl (by simp) (fun M0 => ?_)
        repeat (first
    | (apply s_assign_f; exact rfl; exact rfl)
    | (apply s_move_f; exact rfl; exact rfl)
    | (apply g_move_f; exact rfl; exact rfl; exact rfl; exact rfl)
    | (apply s_a TY; exact rfl)
    | (apply s_t; exact rfl; (first | assumption | omega))
    | (apply s_f; exact rfl; (first | assumption | omega))
    | apply w_seq
    | apply w_region
    | (apply w_draw (id := 6) 10 rfl (by kernel_rfl))
    | (apply w_draw (id := 12) 10 rfl (by kernel_rfl))
    | (apply w_draw (id := 15) 15 rfl (by kernel_rfl))
    | (apply w_draw (id := 18) 10 rfl (by kernel_rfl))
    | apply s_nil
    | apply t_norm
    | apply w_ret
    | apply w_skip
    | (apply w_condT; exact rfl; exact rfl)
    | (apply w_condF; exact rfl; exact rfl)
    | (apply s_k (HA); exact rfl)
    | (apply s_k (HFw); exact rfl)
    | (apply s_k (HLt); exact rfl)
    | (apply s_k (HC1); exact rfl)
    | (apply s_k (HC3); exact rfl)
    | (apply s_k (HRE); exact rfl)
    | (apply s_k (HFo); exact rfl)
    | (apply s_k (HFq); exact rfl)
    | (apply s_k (HS1); exact rfl)
    | (apply s_k (HM); exact rfl)
    | (apply s_k (HCg); exact rfl)
    | (apply s_k (HFg); exact rfl)
    | (apply s_k (HS2); exact rfl)
    | (apply s_c TY; exact rfl; omega)
    | (apply s_alloc TY; exact rfl; exact rfl; exact rfl)
    | (apply s_store TY; exact rfl; exact rfl; exact rfl; exact rfl; exact rfl; exact rfl))
        exact lv_ret (ret1 rfl (res_tmp rfl))
      · have hse : stmsChk l ([⟨h, 0⟩, ⟨[x], 0⟩] : List Stm) = (1, (hitsChk l [x]).2) := by
          have h0 : stmE l ⟨h, 0⟩ = 0 := stmE_ok.2 ⟨e3, (by show (0 : Int) ≤ 0; omega), (by show (0 : Int) ≤ 1000000000000; omega)⟩
          have h1 : stmE l ⟨[x], 0⟩ = (hitsChk l [x]).2 := by unfold stmE; simp [firstE, hx]
          unfold stmsChk
          rw [if_neg (by simp), if_neg (by simp), eachE_at (k := 1) (by simp) (fun i hi => by
            have : i = 0 := by omega
            subst this; exact h0) (by
            show stmE l ⟨[x], 0⟩ ≠ 0
            rw [h1]; exact hx)]
          show (1, stmE l ⟨[x], 0⟩) = _
          rw [h1]
        have HM := Merged_errB l ([⟨h, 0⟩, ⟨[x], 0⟩] : List Stm) hl6 (by simp) (fun i hi => by
          match i, hi with
    | 0, _ => exact hh6
    | 1, _ => simp) e1 (by rw [hse]; exact hx)
        rw [hse] at HM
        have HHE := HitsErr_s l [x] hl6 (by simp)
        refine summW Tryz.func3 rfl rfl 138 rfl (by simp) (fun M0 => ?_)
        repeat (first
    | (apply s_assign_f; exact rfl; exact rfl)
    | (apply s_move_f; exact rfl; exact rfl)
    | (apply g_move_f; exact rfl; exact rfl; exact rfl; exact rfl)
    | (apply s_a TY; exact rfl)
    | (apply s_t; exact rfl; (first | assumption | omega))
    | (apply s_f; exact rfl; (first | assumption | omega))
    | apply w_seq
    | apply w_region
    | (apply w_draw (id := 6) 10 rfl (by kernel_rfl))
    | (apply w_draw (id := 12) 10 rfl (by kernel_rfl))
    | (apply w_draw (id := 15) 15 rfl (by kernel_rfl))
    | apply s_nil
    | apply t_norm
    | apply t_ret
    | apply w_ret
    | apply w_skip
    | (apply w_condT; exact rfl; exact rfl)
    | (apply w_condF; exact rfl; exact rfl)
    | (apply s_k (HA); exact rfl)
    | (apply s_k (HFw); exact rfl)
    | (apply s_k (HLt); exact rfl)
    | (apply s_k (HC1); exact rfl)
    | (apply s_k (HC3); exact rfl)
    | (apply s_k (HRE); exact rfl)
    | (apply s_k (HFo); exact rfl)
    | (apply s_k (HFq); exact rfl)
    | (apply s_k (HS1); exact rfl)
    | (apply s_k (HM); exact rfl)
    | (apply s_k (HHE); exact rfl)
    | (apply s_s; exact rfl)
    | (apply s_c TY; exact rfl; omega)
    | (apply s_alloc TY; exact rfl; exact rfl; exact rfl)
    | (apply s_store TY; exact rfl; exact rfl; exact rfl; exact rfl; exact rfl; exact rfl))
        exact lv_ret (ret1 rfl (res_tmp rfl))
    | false =>
      by_cases h3 : r.kind = 3
      · have hcq := hcc
        have hwq := hww
        have hcc2 : 1 ≤ r.count ∧ r.count ≤ r.count := by omega
        have hww2 : r.window ≤ r.window := Int.le_refl _
        have hslow : r.kind = 3 → r.window = r.window := fun _ => rfl
        have hrq : ruleErr ⟨r.kind, r.count, r.window, r.reach, r.height⟩ = 0 := ruleErr_mk hk hcq hwq hre hhe hso
        have hE : Eases 1000000000000000 r ⟨r.kind, r.count, r.window, r.reach, r.height⟩ h h := ⟨rfl, rfl, rfl, hcc2, hww2, hslow, fun x hx _ => hx⟩
        have HFq := FiresOf_ok l ⟨r.kind, r.count, r.window, r.reach, r.height⟩ h hl6 hh6 (ruledErr_of e1 hrq e3)
        have HS1 := stillR_s ho ho e2 hE
        by_cases hx : (hitsChk l [x]).2 = 0
        · have hxl : HitsOk l [x] := hitsOk_of hl0 hx
          have hse := stmsChk_of (l := l) (c := ([⟨h, 0⟩, ⟨[x], 0⟩] : List Stm)) (by simp) (by simp) (fun i hi => by
            match i, hi with
    | 0, _ => exact stmE_ok.2 ⟨e3, (by show (0 : Int) ≤ 0; omega), (by show (0 : Int) ≤ 1000000000000; omega)⟩
    | 1, _ => exact stmE_ok.2 ⟨hx, (by show (0 : Int) ≤ 0; omega), (by show (0 : Int) ≤ 1000000000000; omega)⟩)
          have hml : (mergeH (allH ([⟨h, 0⟩, ⟨[x], 0⟩] : List Stm))).length ≤ h.length + 1 := by
            have := mergeH_len (allH ([⟨h, 0⟩, ⟨[x], 0⟩] : List Stm))
            simpa [allH] using this
          have hM : HitsOk l (mergeH (allH ([⟨h, 0⟩, ⟨[x], 0⟩] : List Stm))) := merge_ok hl0 (by rw [hse]) (by omega)
          have hsub : ∀ z, z ∈ h → z ∈ (mergeH (allH ([⟨h, 0⟩, ⟨[x], 0⟩] : List Stm))) := fun z hz => mergeH_mem.2 (by simp [allH, hz])
          have HM := Merged_ok l ([⟨h, 0⟩, ⟨[x], 0⟩] : List Stm) hl6 e1 (by rw [hse]) (by omega)
          have HCg := CopyHits_s (mergeH (allH ([⟨h, 0⟩, ⟨[x], 0⟩] : List Stm))) (by omega)
          have HFg := FiresOf_ok l r (mergeH (allH ([⟨h, 0⟩, ⟨[x], 0⟩] : List Stm))) hl6 (by omega) (ruledErr_of e1 e2 (hitsChk_ok hM))
          have HS2 := stillR_s ho hM e2 (eases_more e2 hsub)
          refine summW Tryz.func3 rfl rfl 138 rfl (by simp) (fun M0 => ?_)
          repeat (first
    | (apply s_assign_f; exact rfl; exact rfl)
    | (apply s_move_f; exact rfl; exact rfl)
    | (apply g_move_f; exact rfl; exact rfl; exact rfl; exact rfl)
    | (apply s_a TY; exact rfl)
    | (apply s_t; exact rfl; (first | assumption | omega))
    | (apply s_f; exact rfl; (first | assumption | omega))
    | apply w_seq
    | apply w_region
    | (apply w_draw (id := 6) 10 rfl (by kernel_rfl))
    | (apply w_draw (id := 12) 10 rfl (by kernel_rfl))
    | (apply w_draw (id := 15) 15 rfl (by kernel_rfl))
    | (apply w_draw (id := 18) 10 rfl (by kernel_rfl))
    | apply s_nil
    | apply t_norm
    | apply w_ret
    | apply w_skip
    | (apply w_condF; exact rfl; exact rfl)
    | (apply s_k (HA); exact rfl)
    | (apply s_k (HFw); exact rfl)
    | (apply s_k (HLt); exact rfl)
    | (apply s_k (HC1); exact rfl)
    | (apply s_k (HC3); exact rfl)
    | (apply s_k (HRE); exact rfl)
    | (apply s_k (HFo); exact rfl)
    | (apply s_k (HS1); exact rfl)
    | (apply s_k (HM); exact rfl)
    | (apply s_k (HCg); exact rfl)
    | (apply s_k (HFg); exact rfl)
    | (apply s_k (HS2); exact rfl)
    | (apply s_c TY; exact rfl; omega)
    | (apply s_alloc TY; exact rfl; exact rfl; exact rfl)
    | (apply s_store TY; exact rfl; exact rfl; exact rfl; exact rfl; exact rfl; exact rfl))
          exact lv_ret (ret1 rfl (res_tmp rfl))
        · have hse : stmsChk l ([⟨h, 0⟩, ⟨[x], 0⟩] : List Stm) = (1, (hitsChk l [x]).2) := by
            have h0 : stmE l ⟨h, 0⟩ = 0 := stmE_ok.2 ⟨e3, (by show (0 : Int) ≤ 0; omega), (by show (0 : Int) ≤ 1000000000000; omega)⟩
            have h1 : stmE l ⟨[x], 0⟩ = (hitsChk l [x]).2 := by unfold stmE; simp [firstE, hx]
            unfold stmsChk
            rw [if_neg (by simp), if_neg (by simp), eachE_at (k := 1) (by simp) (fun i hi => by
              have : i = 0 := by omega
              subst this; exact h0) (by
              show stmE l ⟨[x], 0⟩ ≠ 0
              rw [h1]; exact hx)]
            show (1, stmE l ⟨[x], 0⟩) = _
            rw [h1]
          have HM := Merged_errB l ([⟨h, 0⟩, ⟨[x], 0⟩] : List Stm) hl6 (by simp) (fun i hi => by
            match i, hi with
    | 0, _ => exact hh6
    | 1, _ => simp) e1 (by rw [hse]; exact hx)
          rw [hse] at HM
          have HHE := HitsErr_s l [x] hl6 (by simp)
          refine summW Tryz.func3 rfl rfl 138 rfl (by simp) (fun M0 => ?_)
          repeat (first
    | (apply s_assign_f; exact rfl; exact rfl)
    | (apply s_move_f; exact rfl; exact rfl)
    | (apply g_move_f; exact rfl; exact rfl; exact rfl; exact rfl)
    | (apply s_a TY; exact rfl)
    | (apply s_t; exact rfl; (first | assumption | omega))
    | (apply s_f; exact rfl; (first | assumption | omega))
    | apply w_seq
    | apply w_region
    | (apply w_draw (id := 6) 10 rfl (by kernel_rfl))
    | (apply w_draw (id := 12) 10 rfl (by kernel_rfl))
    | (apply w_draw (id := 15) 15 rfl (by kernel_rfl))
    | apply s_nil
    | apply t_norm
    | apply t_ret
    | apply w_ret
    | apply w_skip
    | (apply w_condT; exact rfl; exact rfl)
    | (apply w_condF; exact rfl; exact rfl)
    | (apply s_k (HA); exact rfl)
    | (apply s_k (HFw); exact rfl)
    | (apply s_k (HLt); exact rfl)
    | (apply s_k (HC1); exact rfl)
    | (apply s_k (HC3); exact rfl)
    | (apply s_k (HRE); exact rfl)
    | (apply s_k (HFo); exact rfl)
    | (apply s_k (HS1); exact rfl)
    | (apply s_k (HM); exact rfl)
    | (apply s_k (HHE); exact rfl)
    | (apply s_s; exact rfl)
    | (apply s_alloc TY; exact rfl; exact rfl; exact rfl)
    | (apply s_store TY; exact rfl; exact rfl; exact rfl; exact rfl; exact rfl; exact rfl))
          exact lv_ret (ret1 rfl (res_tmp rfl))
      · have hcq := hcc
        have hwq : 0 ≤ min 1000000 (r.window + 1) ∧ min 1000000 (r.window + 1) ≤ 1000000 := by omega
        have hso : r.kind = 3 → r.reach ≤ min 1000000 (r.window + 1) := fun h => absurd h h3
        have hcc2 : 1 ≤ r.count ∧ r.count ≤ r.count := by omega
        have hww2 : r.window ≤ min 1000000 (r.window + 1) := by omega
        have hslow : r.kind = 3 → min 1000000 (r.window + 1) = r.window := fun h => absurd h h3
        have hrq : ruleErr ⟨r.kind, r.count, min 1000000 (r.window + 1), r.reach, r.height⟩ = 0 := ruleErr_mk hk hcq hwq hre hhe hso
        have hE : Eases 1000000000000000 r ⟨r.kind, r.count, min 1000000 (r.window + 1), r.reach, r.height⟩ h h := ⟨rfl, rfl, rfl, hcc2, hww2, hslow, fun x hx _ => hx⟩
        have HFq := FiresOf_ok l ⟨r.kind, r.count, min 1000000 (r.window + 1), r.reach, r.height⟩ h hl6 hh6 (ruledErr_of e1 hrq e3)
        have HS1 := stillR_s ho ho e2 hE
        by_cases hx : (hitsChk l [x]).2 = 0
        · have hxl : HitsOk l [x] := hitsOk_of hl0 hx
          have hse := stmsChk_of (l := l) (c := ([⟨h, 0⟩, ⟨[x], 0⟩] : List Stm)) (by simp) (by simp) (fun i hi => by
            match i, hi with
    | 0, _ => exact stmE_ok.2 ⟨e3, (by show (0 : Int) ≤ 0; omega), (by show (0 : Int) ≤ 1000000000000; omega)⟩
    | 1, _ => exact stmE_ok.2 ⟨hx, (by show (0 : Int) ≤ 0; omega), (by show (0 : Int) ≤ 1000000000000; omega)⟩)
          have hml : (mergeH (allH ([⟨h, 0⟩, ⟨[x], 0⟩] : List Stm))).length ≤ h.length + 1 := by
            have := mergeH_len (allH ([⟨h, 0⟩, ⟨[x], 0⟩] : List Stm))
            simpa [allH] using this
          have hM : HitsOk l (mergeH (allH ([⟨h, 0⟩, ⟨[x], 0⟩] : List Stm))) := merge_ok hl0 (by rw [hse]) (by omega)
          have hsub : ∀ z, z ∈ h → z ∈ (mergeH (allH ([⟨h, 0⟩, ⟨[x], 0⟩] : List Stm))) := fun z hz => mergeH_mem.2 (by simp [allH, hz])
          have HM := Merged_ok l ([⟨h, 0⟩, ⟨[x], 0⟩] : List Stm) hl6 e1 (by rw [hse]) (by omega)
          have HCg := CopyHits_s (mergeH (allH ([⟨h, 0⟩, ⟨[x], 0⟩] : List Stm))) (by omega)
          have HFg := FiresOf_ok l r (mergeH (allH ([⟨h, 0⟩, ⟨[x], 0⟩] : List Stm))) hl6 (by omega) (ruledErr_of e1 e2 (hitsChk_ok hM))
          have HS2 := stillR_s ho hM e2 (eases_more e2 hsub)
          refine summW Tryz.func3 rfl rfl 138 rfl (by simp) (fun M0 => ?_)
          repeat (first
    | (apply s_assign_f; exact rfl; exact rfl)
    | (apply s_move_f; exact rfl; exact rfl)
    | (apply g_move_f; exact rfl; exact rfl; exact rfl; exact rfl)
    | (apply s_a TY; exact rfl)
    | (apply s_t; exact rfl; (first | assumption | omega))
    | (apply s_f; exact rfl; (first | assumption | omega))
    | apply w_seq
    | apply w_region
    | (apply w_draw (id := 6) 10 rfl (by kernel_rfl))
    | (apply w_draw (id := 12) 10 rfl (by kernel_rfl))
    | (apply w_draw (id := 15) 15 rfl (by kernel_rfl))
    | (apply w_draw (id := 18) 10 rfl (by kernel_rfl))
    | apply s_nil
    | apply t_norm
    | apply w_ret
    | apply w_skip
    | (apply w_condT; exact rfl; exact rfl)
    | (apply w_condF; exact rfl; exact rfl)
    | (apply s_k (HA); exact rfl)
    | (apply s_k (HFw); exact rfl)
    | (apply s_k (HLt); exact rfl)
    | (apply s_k (HC1); exact rfl)
    | (apply s_k (HC3); exact rfl)
    | (apply s_k (HRE); exact rfl)
    | (apply s_k (HFo); exact rfl)
    | (apply s_k (HFq); exact rfl)
    | (apply s_k (HS1); exact rfl)
    | (apply s_k (HM); exact rfl)
    | (apply s_k (HCg); exact rfl)
    | (apply s_k (HFg); exact rfl)
    | (apply s_k (HS2); exact rfl)
    | (apply s_c TY; exact rfl; omega)
    | (apply s_alloc TY; exact rfl; exact rfl; exact rfl)
    | (apply s_store TY; exact rfl; exact rfl; exact rfl; exact rfl; exact rfl; exact rfl))
          exact lv_ret (ret1 rfl (res_tmp rfl))
        · have hse : stmsChk l ([⟨h, 0⟩, ⟨[x], 0⟩] : List Stm) = (1, (hitsChk l [x]).2) := by
            have h0 : stmE l ⟨h, 0⟩ = 0 := stmE_ok.2 ⟨e3, (by show (0 : Int) ≤ 0; omega), (by show (0 : Int) ≤ 1000000000000; omega)⟩
            have h1 : stmE l ⟨[x], 0⟩ = (hitsChk l [x]).2 := by unfold stmE; simp [firstE, hx]
            unfold stmsChk
            rw [if_neg (by simp), if_neg (by simp), eachE_at (k := 1) (by simp) (fun i hi => by
              have : i = 0 := by omega
              subst this; exact h0) (by
              show stmE l ⟨[x], 0⟩ ≠ 0
              rw [h1]; exact hx)]
            show (1, stmE l ⟨[x], 0⟩) = _
            rw [h1]
          have HM := Merged_errB l ([⟨h, 0⟩, ⟨[x], 0⟩] : List Stm) hl6 (by simp) (fun i hi => by
            match i, hi with
    | 0, _ => exact hh6
    | 1, _ => simp) e1 (by rw [hse]; exact hx)
          rw [hse] at HM
          have HHE := HitsErr_s l [x] hl6 (by simp)
          refine summW Tryz.func3 rfl rfl 138 rfl (by simp) (fun M0 => ?_)
          repeat (first
    | (apply s_assign_f; exact rfl; exact rfl)
    | (apply s_move_f; exact rfl; exact rfl)
    | (apply g_move_f; exact rfl; exact rfl; exact rfl; exact rfl)
    | (apply s_a TY; exact rfl)
    | (apply s_t; exact rfl; (first | assumption | omega))
    | (apply s_f; exact rfl; (first | assumption | omega))
    | apply w_seq
    | apply w_region
    | (apply w_draw (id := 6) 10 rfl (by kernel_rfl))
    | (apply w_draw (id := 12) 10 rfl (by kernel_rfl))
    | (apply w_draw (id := 15) 15 rfl (by kernel_rfl))
    | apply s_nil
    | apply t_norm
    | apply t_ret
    | apply w_ret
    | apply w_skip
    | (apply w_condT; exact rfl; exact rfl)
    | (apply w_condF; exact rfl; exact rfl)
    | (apply s_k (HA); exact rfl)
    | (apply s_k (HFw); exact rfl)
    | (apply s_k (HLt); exact rfl)
    | (apply s_k (HC1); exact rfl)
    | (apply s_k (HC3); exact rfl)
    | (apply s_k (HRE); exact rfl)
    | (apply s_k (HFo); exact rfl)
    | (apply s_k (HFq); exact rfl)
    | (apply s_k (HS1); exact rfl)
    | (apply s_k (HM); exact rfl)
    | (apply s_k (HHE); exact rfl)
    | (apply s_s; exact rfl)
    | (apply s_c TY; exact rfl; omega)
    | (apply s_alloc TY; exact rfl; exact rfl; exact rfl)
    | (apply s_store TY; exact rfl; exact rfl; exact rfl; exact rfl; exact rfl; exact rfl))
          exact lv_ret (ret1 rfl (res_tmp rfl))
  · refine summW Tryz.func3 rfl rfl 138 rfl (by simp) (fun M0 => ?_)
    repeat (first
    | (apply s_assign_f; exact rfl; exact rfl)
    | (apply s_move_f; exact rfl; exact rfl)
    | (apply g_move_f; exact rfl; exact rfl; exact rfl; exact rfl)
    | (apply s_a TY; exact rfl)
    | (apply s_f; exact rfl; (first | assumption | omega))
    | apply w_seq
    | apply w_region
    | apply s_nil
    | apply t_norm
    | apply t_ret
    | apply w_ret
    | apply w_skip
    | (apply w_condT; exact rfl; exact rfl)
    | (apply w_condF; exact rfl; exact rfl)
    | (apply s_k (HA); exact rfl)
    | (apply s_k (HFw); exact rfl)
    | (apply s_k (HLt); exact rfl)
    | (apply s_k (HRE); exact rfl))
    exact lv_ret (ret1 rfl (res_tmp rfl))
end Go.Proofs.YtdmdpkoapllkkaaGreat
namespace Go.Ab
open Go Go.RowKit Go.Shelf Go.Proofs
def OpensFs (P : Program) (w : World) (fs : List Field) (off tot : Nat) {α : Type} (k : α → List FV) : Prop :=
  ∀ (H : Type) (enc : TypeId × Value → H) (base : Nat) (sp : Nat → Bool) (hd : Bool) (n : Nat) (cs : List Value), cs.length = off + tot → (∀ (i : Nat) (f : Field), fs[i]? = some f → ∃ x, DataW.trod enc P w base sp hd n f.type ((cs.drop f.offset).take (P.cellsOf f.type)) = some x) → ∃ a : α, RepL w (fun _ => False) (cs.drop off) (k a) ∧ ∀ u ∈ cs.drop off, u.oneCell'
section
variable {P : Program} {w : World}
theorem ofs_nil {off : Nat} : OpensFs P w [] off 0 (fun _ : Unit => []) := fun H enc base sp hd n cs hl _ => by
  rw [List.drop_eq_nil_of_le (by omega)]
  exact ⟨(), RepL.nil _ _, by simp⟩
theorem ofs_cons {f : Field} {fs : List Field} {off s tot : Nat} {α β : Type} {g : α → List FV} {k : β → List FV} (hc : P.cellsOf f.type = s) (ho : f.offset = off) (h : Opens P w f.type g) (hr : OpensFs P w fs (off + s) tot k) : OpensFs P w (f :: fs) off (s + tot) (fun p : α × β => g p.1 ++ k p.2) := fun H enc base sp hd n cs hl hx => by
  obtain ⟨x, hx0⟩ := hx 0 f rfl
  obtain ⟨a, r0, q0⟩ := h H enc base sp hd n _ _ hx0
  obtain ⟨b, r1, q1⟩ := hr H enc base sp hd n cs (by omega) (fun i f' hf => hx (i + 1) f' hf)
  rw [ho, hc] at r0 q0
  have hs : cs.drop off = (cs.drop off).take s ++ cs.drop (off + s) := by rw [← List.drop_drop, List.take_append_drop]
  refine ⟨(a, b), ?_, fun u hu => ?_⟩
  · rw [hs]; exact RepL.append r0 r1
  · rw [hs] at hu
    rcases List.mem_append.1 hu with h | h
    · exact q0 u h
    · exact q1 u h
theorem opens_st {T : TypeId} {fs : Array Field} {tot : Nat} {α : Type} {k : α → List FV} (ht : P.underlying T = some (.struct fs)) (ct : P.cellsOf T = tot) (h : OpensFs P w fs.toList 0 tot k) : Opens P w T k := fun H enc base sp hd fuel cs x hx => by
  obtain ⟨xs, n, _, _, hlen, hxl, hf⟩ := DataW.trod_struct ht hx
  have := h H enc base sp hd n cs (by rw [hlen, ct]; omega) (fun i f hi => by
    have hi' : fs[i]? = some f := by rw [← hi]; simp
    have e := hf i f hi'
    have hlt : i < xs.length := by
      rw [hxl]
      exact (Array.getElem?_eq_some_iff.1 hi').1
    rw [List.getElem?_eq_getElem hlt] at e
    exact ⟨_, e⟩)
  rwa [List.drop_zero] at this
end
end Go.Ab
namespace Go.Proofs.YtdmdpkoapllkkaaGreat
open Go Go.Ab Go.ChangeShapes Go.WideShapes Go.ChangeAt Go.RowKit
theorem ownKnobT : ownKnob Tryz.prog.godebug = none := by kernel_rfl
theorem laidOutT : laidOutB Tryz.prog = true := by kernel_rfl
theorem trodAll_stays {H : Type} {enc : TypeId × Value → H} {W W' : World} {sp : Nat → Bool} (hb : Below W.heap.size W W') : ∀ {ts : List TypeId} {vs : List Value} {ds : List (DataW H)} {ps : List MemPlace}, (∀ t ∈ ts, Tryz.prog.readableRec t = true ∧ t < Tryz.prog.types.size) → DataW.TrodAll enc Tryz.prog W 0 (fun _ => true) true ts vs ds ps → (∀ p ∈ ps, p.block < W.heap.size) → (∀ p ∈ ps, sp p.block = true) → DataW.TrodAll enc Tryz.prog W' 0 sp true ts vs ds ps
  | [], [], [], _, _, h, _, _ => h
  | t :: ts, v :: vs, d :: ds, ps, ht, ⟨p, q, h1, h2, e⟩, hlt, hsp => by
    have hp : ∀ x ∈ p, x ∈ ps := fun x hx => by rw [e]; exact List.mem_append_left _ hx
    have hq : ∀ x ∈ q, x ∈ ps := fun x hx => by rw [e]; exact List.mem_append_right _ hx
    exact ⟨p, q, WideElems.Trod_stays laidOutT (ht t (by simp)).1 (ht t (by simp)).2 h1 (fun x hx => hb.same (hlt x (hp x hx))) (fun x hx => hsp x (hp x hx)),
      trodAll_stays hb (fun u hu => ht u (by simp [hu])) h2 (fun x hx => hlt x (hq x hx)) (fun x hx => hsp x (hq x hx)), e⟩
theorem post_law {H : Type} {enc : TypeId × Value → H} {f : Func} {s : ChangeSpec} {W W' : World} {args : Array Value} {ds gs : List (DataW H)} {before : List MemPlace}
    (hW : DataW.Whole enc Tryz.prog f.params.toList s.vars false W args.toList ds gs before) (hv : s.vars = []) (hr : f.resultTypes = #[4])
    (ht : ∀ t ∈ f.params.toList, Tryz.prog.readableRec t = true ∧ t < Tryz.prog.types.size)
    (hres : (s.fn H (ds ++ gs)).results = [.lit (.bool true)]) (hargs : (s.fn H (ds ++ gs)).args = ds) (hvs : (s.fn H (ds ++ gs)).vars = [])
    (hb : Below W.heap.size W W') : s.post enc Tryz.prog f false true false false W args (.bool true) W' := by
  have hlt := hW.lt
  have hW0 := hW
  obtain ⟨p, q, h1, h2, e, hz, hn⟩ := hW
  have h2' := h2
  rw [hv] at h2'
  have hq : gs = [] ∧ q = [] := by
    cases gs with
    | nil => exact ⟨rfl, h2'⟩
    | cons g r => exact absurd h2' (by intro h; cases h)
  obtain ⟨rfl, rfl⟩ := hq
  rw [List.append_nil] at e
  subst e
  refine ⟨ds, [], before, [], before, [], hW0, ?_, ?_, ?_, Below.frame hb _, fun h => by cases h⟩
  · rw [hr, hres]; exact trodAll_mk1 (shut_bool Tryz.underlying4 true)
  · rw [hargs]
    exact trodAll_stays hb ht h1 hlt (fun x hx => by simpa using hlt x hx)
  · rw [hv, hvs]; rfl
section
variable {W : World}
theorem opens_i : Opens Tryz.prog W 3 (fun z : Int => [iv z]) := opens_int Tryz.underlying3
theorem opens_site : Opens Tryz.prog W 121 siteF := (opens_st Tryz.underlying121 (by kernel_rfl) (ofs_cons (s := 1) (by kernel_rfl) rfl opens_i (ofs_cons (s := 1) (by kernel_rfl) rfl opens_i (ofs_cons (s := 1) (by kernel_rfl) rfl opens_i (ofs_cons (s := 1) (by kernel_rfl) rfl opens_i (ofs_cons (s := 1) (by kernel_rfl) rfl opens_i (ofs_nil))))))).map (fun p => ⟨p.1, p.2.1, p.2.2.1, p.2.2.2.1, p.2.2.2.2.1⟩) fun _ => rfl
theorem opens_sites : Opens Tryz.prog W 22 (fun l : List Site => [.sl l.length (sitesF l)]) := opens_sl (s := 5) Tryz.underlying22 (by kernel_rfl) (by decide) opens_site
theorem opens_arr : Opens Tryz.prog W 24 (fun l : List Site => [.sl l.length (sitesF l)]) := (opens_st Tryz.underlying24 (by kernel_rfl) (ofs_cons (s := 1) (by kernel_rfl) rfl opens_sites (ofs_nil))).map (fun p => p.1) fun _ => rfl
theorem opens_hit : Opens Tryz.prog W 29 hitF := (opens_st Tryz.underlying29 (by kernel_rfl) (ofs_cons (s := 1) (by kernel_rfl) rfl opens_i (ofs_cons (s := 1) (by kernel_rfl) rfl opens_i (ofs_cons (s := 1) (by kernel_rfl) rfl opens_i (ofs_nil))))).map (fun p => ⟨p.1, p.2.1, p.2.2.1⟩) fun _ => rfl
theorem opens_hits : Opens Tryz.prog W 27 (fun l : List Hit => [.sl l.length (hitsF l)]) := opens_sl (s := 3) Tryz.underlying27 (by kernel_rfl) (by decide) opens_hit
theorem opens_rule : Opens Tryz.prog W 26 ruleF := (opens_st Tryz.underlying26 (by kernel_rfl) (ofs_cons (s := 1) (by kernel_rfl) rfl opens_i (ofs_cons (s := 1) (by kernel_rfl) rfl opens_i (ofs_cons (s := 1) (by kernel_rfl) rfl opens_i (ofs_cons (s := 1) (by kernel_rfl) rfl opens_i (ofs_cons (s := 1) (by kernel_rfl) rfl opens_i (ofs_nil))))))).map (fun p => ⟨p.1, p.2.1, p.2.2.1, p.2.2.2.1, p.2.2.2.2.1⟩) fun _ => rfl
theorem opens_b : Opens Tryz.prog W 4 (fun z : Bool => [bv z]) := opens_bool Tryz.underlying4
theorem opens_further : Opens Tryz.prog W 31 (fun p : List Hit × Hit × Bool => [.sl p.1.length (hitsF p.1), iv p.2.1.tm, iv p.2.1.line, iv p.2.1.sensor, bv p.2.2]) := (opens_st Tryz.underlying31 (by kernel_rfl) (ofs_cons (s := 1) (by kernel_rfl) rfl opens_hits (ofs_cons (s := 3) (by kernel_rfl) rfl opens_hit (ofs_cons (s := 1) (by kernel_rfl) rfl opens_b (ofs_nil))))).map (fun p => (p.1, p.2.1, p.2.2.1)) fun _ => rfl
end
set_option maxRecDepth 100000 in
theorem arg_st {H : Type} {enc : TypeId × Value → H} {W : World} {base : Nat} {T : TypeId} {fs : Array Field} {α : Type} {f : α → List FV} {v : Value} {d : DataW H} {ps : List MemPlace} (h : Opens Tryz.prog W T f) (ht : Tryz.prog.underlying T = some (.struct fs)) (hv : Value.okWide Tryz.prog W .any base T v) (hd : DataW.Trod enc Tryz.prog W 0 (fun _ => true) true T v d ps) : ∃ a, RepF W (fun _ => False) v (.agg (f a)) := by
  obtain ⟨cs, e, _⟩ := okWide_struct ht hv
  exact arg_agg h e hd
theorem law_calls {f : Nat} {xs : List FV} (S : Summ Tryz.prog GG f xs (.v (.bool true))) {W : World} {args : Array Value} (R : RepL W (fun _ => False) args.toList xs) : Calls Tryz.prog f args W fun e W' => e = .returned (.bool true) ∧ Below W.heap.size W W' := by
  have := S.call W (fun _ => False) args.toList (fun _ h => h.elim) (fun g cs h => by cases h) R
  simp only [Array.toArray_toList] at this
  refine this.mono fun e w' ⟨v, h1, h2, h3⟩ => ⟨?_, h3⟩
  rw [h1, repV h2]
end Go.Proofs.YtdmdpkoapllkkaaGreat
