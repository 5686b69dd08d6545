/- Laws on which the proofs of this seat stand. No condition. -/
import Derived.Test.YtienhiloecfgnaaDoorProofs5
namespace Go.Proofs.YtienhiloecfgnaaDoor
open Go Go.RowKit Go.Proofs Go.Shelf Go.Ab
theorem flasF_el {l : List Flash} {k j : Nat} (h : k < l.length) (hj : j < 7) : (flasF l)[k * 7 + j]? = (flaF l[k])[j]? := by
  rw [← flat_sub (f := flaF) (s := 7) (fun _ => rfl) h]
  rw [List.getElem?_take, if_pos hj, List.getElem?_drop]; rfl
theorem flasF_two {l : List Flash} {k j : Nat} (h : k < l.length) (hj : j + 2 ≤ 7) : ((flasF l).drop (k * 7 + j)).take 2 = ((flaF l[k]).drop j).take 2 := by
  apply List.ext_getElem?
  intro m
  rw [List.getElem?_take, List.getElem?_take]
  by_cases hm : m < 2
  · rw [if_pos hm, if_pos hm, List.getElem?_drop, List.getElem?_drop, Nat.add_assoc, flasF_el h (by omega)]
  · rw [if_neg hm, if_neg hm]
theorem firstE_hdd {a : Int} {l : List Int} (h : a ≠ 0) : firstE (a :: l) = a := by unfold firstE; rw [if_neg h]
theorem firstE_tll {l : List Int} : firstE (0 :: l) = firstE l := by rw [firstE, if_pos rfl]
theorem fscan_bad {x : Grid} {l : List Flash} {i : Nat} (h : i < l.length) (hr : flashE x (l.take i) l[i] ≠ 0) : flashScan x l (l.length - i) i = ((i : Int), flashE x (l.take i) l[i]) := by
  obtain ⟨f, hf⟩ : ∃ f, l.length - i = f + 1 := ⟨l.length - i - 1, by omega⟩
  rw [hf, flashScan, getDF h, if_pos (by simpa using hr)]
theorem fscan_ok {x : Grid} {l : List Flash} {i : Nat} (h : i < l.length) (hr : flashE x (l.take i) l[i] = 0) : flashScan x l (l.length - i) i = flashScan x l (l.length - (i + 1)) (i + 1) := by
  obtain ⟨f, hf⟩ : ∃ f, l.length - i = f + 1 := ⟨l.length - i - 1, by omega⟩
  rw [hf, flashScan, getDF h, if_neg (by simp [hr]), show l.length - (i + 1) = f by omega]
theorem fchk_many {x : Grid} {rs : List Rng} {l : List Flash} (hc : (checkClass x rs).2 = 0) (h : ¬ l.length ≤ 8) : checkFlashes x rs l = (0, 8) := by
  have e : flashE0 x rs l = 8 := by unfold flashE0; rw [hc, decide_eq_false (by omega)]; rfl
  unfold checkFlashes; rw [e]; rfl
theorem fchk_scan {x : Grid} {rs : List Rng} {l : List Flash} (hc : (checkClass x rs).2 = 0) (h : l.length ≤ 8) : checkFlashes x rs l = flashScan x l (l.length - 0) 0 := by
  have e : flashE0 x rs l = 0 := by unfold flashE0; rw [hc, decide_eq_true (by omega)]; rfl
  unfold checkFlashes; rw [e]; rfl
theorem fE_cls {x : Grid} {rs : List Rng} {l : List Flash} (hc : (checkClass x rs).2 ≠ 0) : checkFlashes x rs l = (0, (checkClass x rs).2) := by
  have e : flashE0 x rs l = (checkClass x rs).2 := by unfold flashE0; exact firstE_hdd hc
  unfold checkFlashes; rw [e, if_pos (by simpa using hc)]
set_option maxRecDepth 100000 in
set_option maxHeartbeats 4000000 in
theorem RFlashes_s (x : Grid) (rs : List Rng) (l : List Flash) (hc : (checkClass x rs).2 = 0) (hl : l.length ≤ 1000) : Summ Tryd.prog GG 30 [classF x rs, .sl l.length (flasF l)] (.tup [iv (checkFlashes x rs l).1, iv (checkFlashes x rs l).2]) := by
  have v := (classOk hc).v
  refine summW Tryd.func30 rfl rfl 96 rfl (by simp) (fun M0 => ?_)
  by_cases h8 : l.length ≤ 8
  case neg =>
    have e := fchk_many (x := x) hc h8
    repeat (first
    | (apply s_a TY; exact rfl)
    | (apply s_t; exact rfl; (first | assumption | omega))
    | apply w_seq
    | apply w_region
    | apply s_nil
    | apply t_norm
    | apply t_ret
    | apply w_ret
    | (apply w_condT; exact rfl; exact rfl))
    exact lv_ret (ret2 rfl (res_tmp (av1 e)) (res_tmp (av2 e)))
  repeat (first
    | (apply s_a TY; exact rfl)
    | (apply s_f; exact rfl; (first | assumption | omega))
    | apply w_seq
    | apply w_region
    | apply s_nil
    | apply t_norm
    | apply w_block
    | apply w_skip
    | (apply w_condF; exact rfl; exact rfl))
  apply w_loop (fun i : Nat => ⟨(Ab.upd (Ab.upd (Ab.upd (fun _ => .bot) 1 (.f (.sl l.length (flasF l)))) 2 (.f (.pt (classL x rs) 0))) 6 (.f (iv (i : Nat)))), (fun _ => none), 0⟩) (fun i => i ≤ l.length ∧ checkFlashes x rs l = flashScan x l (l.length - i) i) (fun i => l.length - i) 0 (⟨Nat.zero_le _, fchk_scan hc h8⟩) (gh_le ⟨le_upd rfl trivial (le_upd rfl trivial (le_upd rfl trivial (le_nil _))), le_h0 _ _⟩)
  intro i ⟨hi, hs⟩
  by_cases hic : i < l.length
  case neg =>
    have hie : i = l.length := by omega
    have e := hs.trans (show flashScan x l (l.length - i) i = (0, 0) by rw [hie, Nat.sub_self]; rfl)
    subst hie
    repeat (first
    | (apply s_a TY; exact rfl)
    | (apply s_f; exact rfl; (first | assumption | omega))
    | apply w_seq
    | apply w_region
    | apply s_nil
    | apply t_norm
    | apply t_exit
    | apply k_hit
    | apply w_exit
    | apply w_ret
    | (apply w_condF; exact rfl; exact rfl))
    exact lv_ret (ret2 rfl (res_tmp (av1 e)) (res_tmp (av2 e)))
  have n0 : (flasF l)[i * 7 + 0]? = some (.v (.string l[i].name)) := flasF_el hic (by decide)
  have n5 : (flasF l)[i * 7 + 5 + 0]? = some (iv l[i].time.lo) := flasF_el hic (j := 5) (by decide)
  have n6 : (flasF l)[i * 7 + 5 + 1]? = some (iv l[i].time.hi) := flasF_el hic (j := 6) (by decide)
  have m1 : ((flasF l).drop (i * 7 + 1)).take 2 = celF l[i].frm := flasF_two hic (by decide)
  have m3 : ((flasF l).drop (i * 7 + 3)).take 2 = celF l[i].to := flasF_two hic (by decide)
  have C1 := CellErr_s x l[i].frm v
  have C2 := CellErr_s x l[i].to v
  cases hn : nameB l[i].name
  · have NB := IsName_s l[i].name
    rw [hn] at NB
    have hE : flashE x (l.take i) l[i] = 4 := by unfold flashE; rw [hn]; rfl
    have e := hs.trans (fscan_bad hic (by rw [hE]; decide))
    rw [hE] at e
    repeat (first
    | (apply s_a TY; exact rfl)
    | (apply s_t; exact rfl; (first | assumption | omega))
    | apply w_seq
    | apply w_region
    | apply s_nil
    | apply t_norm
    | apply t_ret
    | apply k_ret
    | apply w_block
    | apply w_ret
    | apply w_skip
    | (apply w_condT; exact rfl; exact rfl)
    | (apply s_k (NB); exact rfl)
    | (apply s_c TY; exact rfl; (first | omega | exact ⟨by omega, by (first | with_reducible assumption | ((with_reducible apply flasF_ne); omega) | assumption)⟩))
    | (apply s_l TY; exact rfl; (first | exact rfl | with_reducible assumption | assumption)))
    exact lv_ret (ret2 rfl (res_tmp (av1 e)) (res_tmp (av2 e)))
  have NB := IsName_s l[i].name
  rw [hn] at NB
  repeat (first
    | (apply s_a TY; exact rfl)
    | (apply s_t; exact rfl; (first | assumption | omega))
    | apply w_seq
    | apply w_region
    | apply s_nil
    | apply t_norm
    | apply w_block
    | apply w_skip
    | (apply w_condT; exact rfl; exact rfl)
    | (apply w_condF; exact rfl; exact rfl)
    | (apply s_k (NB); exact rfl)
    | (apply s_c TY; exact rfl; (first | omega | exact ⟨by omega, by (first | with_reducible assumption | ((with_reducible apply flasF_ne); omega) | assumption)⟩))
    | (apply s_l TY; exact rfl; (first | exact rfl | with_reducible assumption | assumption)))
  apply w_loop (fun k : Nat => ⟨(Ab.upd (Ab.upd (Ab.upd (Ab.upd (fun _ => .bot) 1 (.f (.sl l.length (flasF l)))) 2 (.f (.pt (classL x rs) 0))) 6 (.f (iv (i : Nat)))) 7 (.f (iv (k : Nat)))), (fun _ => none), 0⟩) (fun k => k ≤ i ∧ ∀ j (h : j < l.length), j < k → sameName l[j].name l[i].name = false) (fun k => i - k) 0 (⟨Nat.zero_le _, fun j _ h => absurd h (Nat.not_lt_zero j)⟩) (gh_le ⟨le_upd rfl trivial (le_upd rfl trivial (le_upd rfl trivial (le_upd rfl trivial (le_nil _)))), le_h0 _ _⟩)
  intro k ⟨hk, hall⟩
  by_cases hkc : k < i
  · have hkl : k < l.length := by omega
    have k0 : (flasF l)[k * 7 + 0]? = some (.v (.string l[k].name)) := flasF_el hkl (by decide)
    cases hsn : sameName l[k].name l[i].name
    · repeat (first
    | (apply s_bind; exact rfl; exact rfl; exact rfl; exact rfl; exact rfl; exact rfl; exact eqs_f (by assumption))
    | (apply s_a TY; exact rfl)
    | (apply s_t; exact rfl; (first | assumption | omega))
    | apply w_seq
    | apply w_region
    | (apply w_draw (id := 11) 10 rfl (by kernel_rfl))
    | apply s_nil
    | apply t_norm
    | apply k_norm
    | apply w_block
    | apply w_skip
    | (apply w_condT; exact rfl; exact rfl)
    | (apply w_condF; exact rfl; exact rfl)
    | (apply s_c TY; exact rfl; (first | omega | exact ⟨by omega, by (first | with_reducible assumption | ((with_reducible apply flasF_ne); omega) | assumption)⟩))
    | (apply s_l TY; exact rfl; (first | exact rfl | with_reducible assumption | assumption)))
      exact ⟨k + 1, ⟨by omega, fun j h hj => by
        by_cases e : j = k
        · subst e; exact hsn
        · exact hall j h (by omega)⟩, by omega, gh_le ⟨le_upd rfl trivial (le_upd rfl trivial (le_upd rfl trivial (le_upd rfl trivial (le_nil _)))), le_h0 _ _⟩⟩
    · have ha : ((l.take i).any fun o => sameName o.name l[i].name) = true := List.any_eq_true.2 ⟨l[k], List.mem_take_iff_getElem.2 ⟨k, by omega, rfl⟩, hsn⟩
      have hE : flashE x (l.take i) l[i] = 5 := by unfold flashE; rw [hn, ha]; rfl
      have e := hs.trans (fscan_bad hic (by rw [hE]; decide))
      rw [hE] at e
      repeat (first
    | (apply s_bind; exact rfl; exact rfl; exact rfl; exact rfl; exact rfl; exact rfl; exact eqs_t (by assumption))
    | (apply s_a TY; exact rfl)
    | (apply s_t; exact rfl; (first | assumption | omega))
    | apply w_seq
    | apply w_region
    | (apply w_draw (id := 11) 10 rfl (by kernel_rfl))
    | apply s_nil
    | apply t_norm
    | apply t_ret
    | apply k_ret
    | apply w_block
    | apply w_ret
    | apply w_skip
    | (apply w_condT; exact rfl; exact rfl)
    | (apply s_c TY; exact rfl; (first | omega | exact ⟨by omega, by (first | with_reducible assumption | ((with_reducible apply flasF_ne); omega) | assumption)⟩))
    | (apply s_l TY; exact rfl; (first | exact rfl | with_reducible assumption | assumption)))
      exact lv_ret (ret2 rfl (res_tmp (av1 e)) (res_tmp (av2 e)))
  have hke : k = i := by omega
  subst hke
  have ha : ((l.take k).any fun o => sameName o.name l[k].name) = false := List.any_eq_false.2 fun o ho => by
    obtain ⟨j, hj, rfl⟩ := List.mem_take_iff_getElem.1 ho
    rw [hall j (by omega) (by omega)]; decide
  have f0 : flashE x (l.take k) l[k] = firstE [cellErrE x l[k].frm, cellErrE x l[k].to, unlessE (withinB l[k].time.lo 0 1000000 && withinB l[k].time.hi 0 1000000) 2, unlessE (decide (l[k].time.lo ≤ l[k].time.hi)) 9] := by unfold flashE; rw [hn, ha]; rfl
  by_cases c1 : cellErrE x l[k].frm = 0
  case neg =>
    have hE : flashE x (l.take k) l[k] = 6 := by rw [f0, firstE_hdd c1, cellE_six c1]
    have e := hs.trans (fscan_bad hic (by rw [hE]; decide))
    rw [hE] at e
    repeat (first
    | (apply s_a TY; exact rfl)
    | (apply s_f; exact rfl; (first | assumption | omega))
    | apply w_seq
    | apply w_region
    | (apply w_draw (id := 13) 17 rfl (by kernel_rfl))
    | apply s_nil
    | apply t_norm
    | apply t_exit
    | apply t_ret
    | apply k_hit
    | apply k_ret
    | apply w_exit
    | apply w_ret
    | (apply w_condT; exact rfl; exact rfl)
    | (apply w_condF; exact rfl; exact rfl)
    | (apply s_k (C1); exact rfl)
    | (apply s_s; exact rfl)
    | (apply s_c TY; exact rfl; (first | omega | exact ⟨by omega, by (first | with_reducible assumption | ((with_reducible apply flasF_ne); omega) | assumption)⟩))
    | (apply s_m TY; exact rfl; (first | with_reducible assumption | ((with_reducible apply flasF_sub); omega) | exact rfl); exact rfl))
    exact lv_ret (ret2 rfl (res_tmp (av1 e)) (res_tmp (av2 e)))
  by_cases c2 : cellErrE x l[k].to = 0
  case neg =>
    have hE : flashE x (l.take k) l[k] = 6 := by rw [f0, c1, firstE_tll, firstE_hdd c2, cellE_six c2]
    have e := hs.trans (fscan_bad hic (by rw [hE]; decide))
    rw [hE] at e
    repeat (first
    | (apply s_a TY; exact rfl)
    | (apply s_t; exact rfl; (first | assumption | omega))
    | (apply s_f; exact rfl; (first | assumption | omega))
    | apply w_seq
    | apply w_region
    | (apply w_draw (id := 13) 17 rfl (by kernel_rfl))
    | apply s_nil
    | apply t_norm
    | apply t_exit
    | apply t_ret
    | apply k_hit
    | apply k_ret
    | apply w_exit
    | apply w_ret
    | (apply w_condT; exact rfl; exact rfl)
    | (apply w_condF; exact rfl; exact rfl)
    | (apply s_k (C1); exact rfl)
    | (apply s_k (C2); exact rfl)
    | (apply s_c TY; exact rfl; (first | omega | exact ⟨by omega, by (first | with_reducible assumption | ((with_reducible apply flasF_ne); omega) | assumption)⟩))
    | (apply s_m TY; exact rfl; (first | with_reducible assumption | ((with_reducible apply flasF_sub); omega) | exact rfl); exact rfl))
    exact lv_ret (ret2 rfl (res_tmp (av1 e)) (res_tmp (av2 e)))
  rw [c1, firstE_tll, c2, firstE_tll] at f0
  by_cases w1 : 0 ≤ l[k].time.lo ∧ l[k].time.lo ≤ 1000000
  case neg =>
    have hE : flashE x (l.take k) l[k] = 2 := by rw [f0, show (withinB l[k].time.lo 0 1000000 && withinB l[k].time.hi 0 1000000) = false by simp [withinB]; omega]; rfl
    have e := hs.trans (fscan_bad hic (by rw [hE]; decide))
    rw [hE] at e
    repeat (first
    | (apply s_a TY; exact rfl)
    | (apply s_t; exact rfl; (first | assumption | omega))
    | (apply s_f; exact rfl; (first | assumption | omega))
    | apply w_seq
    | apply w_region
    | (apply w_draw (id := 13) 17 rfl (by kernel_rfl))
    | apply s_nil
    | apply t_norm
    | apply t_exit
    | apply t_ret
    | apply k_hit
    | apply k_ret
    | apply w_exit
    | apply w_ret
    | apply w_skip
    | (apply w_condT; exact rfl; exact rfl)
    | (apply w_condF; exact rfl; exact rfl)
    | (apply s_k (C1); exact rfl)
    | (apply s_k (C2); exact rfl)
    | (apply s_k1 (Within_f _ _ _); exact rfl; (first | assumption | omega | decide))
    | (apply s_s; exact rfl)
    | (apply s_c TY; exact rfl; (first | omega | exact ⟨by omega, by (first | with_reducible assumption | ((with_reducible apply flasF_ne); omega) | assumption)⟩))
    | (apply s_l TY; exact rfl; (first | exact rfl | with_reducible assumption | assumption))
    | (apply s_m TY; exact rfl; (first | with_reducible assumption | ((with_reducible apply flasF_sub); omega) | exact rfl); exact rfl))
    exact lv_ret (ret2 rfl (res_tmp (av1 e)) (res_tmp (av2 e)))
  by_cases w2 : 0 ≤ l[k].time.hi ∧ l[k].time.hi ≤ 1000000
  case neg =>
    have hE : flashE x (l.take k) l[k] = 2 := by rw [f0, show (withinB l[k].time.lo 0 1000000 && withinB l[k].time.hi 0 1000000) = false by simp [withinB]; omega]; rfl
    have e := hs.trans (fscan_bad hic (by rw [hE]; decide))
    rw [hE] at e
    repeat (first
    | (apply s_a TY; exact rfl)
    | (apply s_t; exact rfl; (first | assumption | omega))
    | (apply s_f; exact rfl; (first | assumption | omega))
    | apply w_seq
    | apply w_region
    | (apply w_draw (id := 13) 17 rfl (by kernel_rfl))
    | apply s_nil
    | apply t_norm
    | apply t_exit
    | apply t_ret
    | apply k_hit
    | apply k_ret
    | apply w_exit
    | apply w_ret
    | apply w_skip
    | (apply w_condT; exact rfl; exact rfl)
    | (apply w_condF; exact rfl; exact rfl)
    | (apply s_k (C1); exact rfl)
    | (apply s_k (C2); exact rfl)
    | (apply s_k1 (Within_t _ _ _); exact rfl; (first | assumption | omega | decide))
    | (apply s_k1 (Within_f _ _ _); exact rfl; (first | assumption | omega | decide))
    | (apply s_c TY; exact rfl; (first | omega | exact ⟨by omega, by (first | with_reducible assumption | ((with_reducible apply flasF_ne); omega) | assumption)⟩))
    | (apply s_l TY; exact rfl; (first | exact rfl | with_reducible assumption | assumption))
    | (apply s_m TY; exact rfl; (first | with_reducible assumption | ((with_reducible apply flasF_sub); omega) | exact rfl); exact rfl))
    exact lv_ret (ret2 rfl (res_tmp (av1 e)) (res_tmp (av2 e)))
  rw [show (withinB l[k].time.lo 0 1000000 && withinB l[k].time.hi 0 1000000) = true by simp [withinB]; omega] at f0
  by_cases w3 : l[k].time.hi < l[k].time.lo
  · have hE : flashE x (l.take k) l[k] = 9 := by rw [f0, decide_eq_false (by omega)]; rfl
    have e := hs.trans (fscan_bad hic (by rw [hE]; decide))
    rw [hE] at e
    repeat (first
    | (apply s_a TY; exact rfl)
    | (apply s_t; exact rfl; (first | assumption | omega))
    | (apply s_f; exact rfl; (first | assumption | omega))
    | apply w_seq
    | apply w_region
    | (apply w_draw (id := 13) 17 rfl (by kernel_rfl))
    | (apply w_draw (id := 17) 12 rfl (by kernel_rfl))
    | apply s_nil
    | apply t_norm
    | apply t_exit
    | apply t_ret
    | apply k_hit
    | apply k_ret
    | apply w_exit
    | apply w_ret
    | apply w_skip
    | (apply w_condT; exact rfl; exact rfl)
    | (apply w_condF; exact rfl; exact rfl)
    | (apply s_k (C1); exact rfl)
    | (apply s_k (C2); exact rfl)
    | (apply s_k1 (Within_t _ _ _); exact rfl; (first | assumption | omega | decide))
    | (apply s_c TY; exact rfl; (first | omega | exact ⟨by omega, by (first | with_reducible assumption | ((with_reducible apply flasF_ne); omega) | assumption)⟩))
    | (apply s_l TY; exact rfl; (first | exact rfl | with_reducible assumption | assumption))
    | (apply s_m TY; exact rfl; (first | with_reducible assumption | ((with_reducible apply flasF_sub); omega) | exact rfl); exact rfl))
    exact lv_ret (ret2 rfl (res_tmp (av1 e)) (res_tmp (av2 e)))
  · have hE : flashE x (l.take k) l[k] = 0 := by rw [f0, decide_eq_true (by omega)]; rfl
    have e := hs.trans (fscan_ok hic hE)
    repeat (first
    | (apply s_a TY; exact rfl)
    | (apply s_t; exact rfl; (first | assumption | omega))
    | (apply s_f; exact rfl; (first | assumption | omega))
    | apply w_seq
    | apply w_region
    | (apply w_draw (id := 13) 17 rfl (by kernel_rfl))
    | (apply w_draw (id := 17) 12 rfl (by kernel_rfl))
    | apply s_nil
    | apply t_norm
    | apply t_exit
    | apply k_hit
    | apply k_norm
    | apply w_exit
    | apply w_skip
    | (apply w_condF; exact rfl; exact rfl)
    | (apply s_k (C1); exact rfl)
    | (apply s_k (C2); exact rfl)
    | (apply s_k1 (Within_t _ _ _); exact rfl; (first | assumption | omega | decide))
    | (apply s_c TY; exact rfl; (first | omega | exact ⟨by omega, by (first | with_reducible assumption | ((with_reducible apply flasF_ne); omega) | assumption)⟩))
    | (apply s_l TY; exact rfl; (first | exact rfl | with_reducible assumption | assumption))
    | (apply s_m TY; exact rfl; (first | with_reducible assumption | ((with_reducible apply flasF_sub); omega) | exact rfl); exact rfl))
    exact ⟨k + 1, ⟨by omega, e⟩, by omega, gh_le ⟨le_upd rfl trivial (le_upd rfl trivial (le_upd rfl trivial (le_nil _))), le_h0 _ _⟩⟩
end Go.Proofs.YtienhiloecfgnaaDoor
namespace Go.Proofs.YtienhiloecfgnaaDoor
open Go Go.RowKit Go.Proofs Go.Shelf Go.Ab
theorem setsL_out {n : Nat} : ∀ {d : Nat} {begun s : List Int} {fr : Nat}, s ∈ setsL n d begun fr → ∃ t, s = begun ++ t ∧ t.length = d ∧ (∀ z ∈ t, (fr : Int) ≤ z ∧ z < n) ∧ t.Pairwise (· < ·)
  | 0, begun, s, fr, h => ⟨[], by simpa [setsL] using h, rfl, by simp, List.Pairwise.nil⟩
  | d + 1, begun, s, fr, h => by
    rw [setsL] at h
    obtain ⟨i, hi, h⟩ := List.mem_flatMap.1 h
    rw [List.mem_range'_1] at hi
    obtain ⟨t, e, hl, hb, hp⟩ := setsL_out h
    refine ⟨(i : Int) :: t, by rw [e]; simp, by simp [hl], fun z hz => ?_, List.pairwise_cons.2 ⟨fun z hz => by have := (hb z hz).1; omega, hp⟩⟩
    rcases List.mem_cons.1 hz with rfl | hz
    · omega
    · have := hb z hz; omega
theorem setsL_in {n : Nat} : ∀ {d : Nat} {begun t : List Int} {fr : Nat}, t.length = d → (∀ z ∈ t, (fr : Int) ≤ z ∧ z < n) → t.Pairwise (· < ·) → begun ++ t ∈ setsL n d begun fr
  | 0, begun, t, fr, hl, _, _ => by
    have : t = [] := List.eq_nil_of_length_eq_zero hl
    subst this; simp [setsL]
  | d + 1, begun, t, fr, hl, hb, hp => by
    cases t with
    | nil => simp at hl
    | cons z t =>
      have h0 := hb z (by simp)
      obtain ⟨p1, p2⟩ := List.pairwise_cons.1 hp
      rw [setsL]
      refine List.mem_flatMap.2 ⟨z.toNat, List.mem_range'_1.2 ⟨by omega, by omega⟩, ?_⟩
      have e : ((z.toNat : Nat) : Int) = z := by omega
      rw [e]
      have := setsL_in (n := n) (d := d) (begun := begun ++ [z]) (t := t) (fr := z.toNat + 1) (by simpa using hl) (fun y hy => by have := p1 y hy; have := (hb y (by simp [hy])).2; omega) p2
      rwa [List.append_assoc] at this
def subL (l : List Flash) (s : List Int) : List Flash := s.map fun i => l.getD i.toNat flash0
theorem cov_sub {x : Grid} {l : List Flash} {ds : List Int} {s : List Int} (hs : ∀ i ∈ s, 0 ≤ i ∧ i < (l.length : Int)) : covB s (mo x l ds) = (subL l s).all (expB x ds) := by
  rw [Bool.eq_iff_iff]
  unfold covB explAll
  rw [Bool.not_eq_true', List.any_eq_false, List.all_eq_true]
  have key : ∀ i ∈ s, (missB (mo x l ds) i = true ↔ ¬ expB x ds (l.getD i.toNat flash0) = true) := fun i hi => by
    have hl : i.toNat < l.length := by have := hs i hi; omega
    unfold missB mo explains
    simp only [List.getD_eq_getElem?_getD, List.getElem?_map, List.getElem?_eq_getElem hl, Option.map_some, Option.getD_some]
    rw [Bool.not_eq_true', ← Bool.not_eq_true]; rfl
  constructor
  · intro h f hf
    obtain ⟨i, hi, rfl⟩ := List.mem_map.1 hf
    have h1 := h i hi
    rw [key i hi] at h1
    exact Classical.not_not.1 h1
  · intro h i hi
    rw [key i hi]
    exact fun h1 => h1 (h _ (List.mem_map.2 ⟨i, hi, rfl⟩))
theorem any_cov {x : Grid} {rs : List Rng} {l : List Flash} {s : List Int} (hs : ∀ i ∈ s, 0 ≤ i ∧ i < (l.length : Int)) : (allMo x rs l).any (covB s) = true ↔ 0 < (modelsM x rs (subL l s)).length := by
  rw [models_eq, List.any_eq_true, List.length_pos_iff_exists_mem]
  unfold allMo news
  constructor
  · rintro ⟨m, hm, hc⟩
    obtain ⟨ds, hds, rfl⟩ := List.mem_map.1 hm
    rw [cov_sub hs] at hc
    exact ⟨ds, List.mem_filter.2 ⟨hds, hc⟩⟩
  · rintro ⟨ds, hds⟩
    obtain ⟨h1, h2⟩ := List.mem_filter.1 hds
    exact ⟨mo x l ds, List.mem_map.2 ⟨ds, h1, rfl⟩, by rw [cov_sub hs]; exact h2⟩
structure SetOk (n : Nat) (s : List Int) : Prop where
  rng : ∀ z ∈ s, 0 ≤ z ∧ z < (n : Int)
  inc : s.Pairwise (· < ·)
theorem conK_some {x : Grid} {rs : List Rng} {l : List Flash} {k : Nat} {s : List Int} (h : conK x rs l k = some s) : SetOk l.length s ∧ s.length = k ∧ (modelsM x rs (subL l s)).length = 0 := by
  unfold conK openOf at h
  have h1 := List.find?_some h
  obtain ⟨t, e, hl, hb, hp⟩ := setsL_out (List.mem_of_find?_eq_some h)
  have e : s = t := by simpa using e
  subst e
  have hr : ∀ z ∈ s, 0 ≤ z ∧ z < (l.length : Int) := fun z hz => by have := hb z hz; omega
  refine ⟨⟨hr, hp⟩, hl, ?_⟩
  refine Nat.eq_zero_of_not_pos fun h2 => ?_
  rw [(any_cov hr).2 h2] at h1; cases h1
theorem conK_none {x : Grid} {rs : List Rng} {l : List Flash} {s : List Int} (h : conK x rs l s.length = none) (ok : SetOk l.length s) : 0 < (modelsM x rs (subL l s)).length := by
  unfold conK openOf at h
  have h1 := List.find?_eq_none.1 h s (by
    have := setsL_in (n := l.length) (begun := []) (t := s) (fr := 0) rfl (fun z hz => by have := ok.rng z hz; omega) ok.inc
    simpa using this)
  refine (any_cov ok.rng).1 ?_
  simpa using h1
theorem models_part {x : Grid} {rs : List Rng} {l : List Flash} {s : List Int} (ok : SetOk l.length s) (h : (modelsM x rs (subL l s)).length = 0) : (modelsM x rs l).length = 0 := by
  refine Nat.eq_zero_of_not_pos fun h2 => ?_
  rw [models_eq, List.length_pos_iff_exists_mem] at h2
  obtain ⟨ds, hds⟩ := h2
  obtain ⟨h3, h4⟩ := List.mem_filter.1 hds
  have : ds ∈ modelsM x rs (subL l s) := by
    rw [models_eq]
    refine List.mem_filter.2 ⟨h3, List.all_eq_true.2 fun f hf => ?_⟩
    obtain ⟨i, hi, rfl⟩ := List.mem_map.1 hf
    have hl : i.toNat < l.length := by have := ok.rng i hi; omega
    rw [List.getD_eq_getElem?_getD, List.getElem?_eq_getElem hl, Option.getD_some]
    exact List.all_eq_true.1 h4 _ (List.getElem_mem hl)
  rw [List.eq_nil_of_length_eq_zero h] at this; cases this
def fullS (n : Nat) : List Int := (List.range n).map fun (k : Nat) => (k : Int)
theorem full_ok (n : Nat) : SetOk n (fullS n) ∧ (fullS n).length = n := by
  refine ⟨⟨fun z hz => ?_, ?_⟩, by simp [fullS]⟩
  · obtain ⟨k, hk, rfl⟩ := List.mem_map.1 hz
    have := List.mem_range.1 hk; omega
  · unfold fullS
    rw [List.pairwise_map]
    exact List.pairwise_lt_range.imp fun h => by omega
theorem sub_full (l : List Flash) : subL l (fullS l.length) = l := by
  unfold subL fullS
  rw [List.map_map]
  refine List.ext_getElem (by simp) fun i h1 h2 => ?_
  simp [List.getD_eq_getElem?_getD, h2]
theorem sub_len (l : List Flash) (s : List Int) : (subL l s).length = s.length := by simp [subL]
theorem sub_app (l : List Flash) (s t : List Int) : subL l (s ++ t) = subL l s ++ subL l t := by simp [subL]
end Go.Proofs.YtienhiloecfgnaaDoor
namespace Go.Ab
open Go Go.RowKit Go.Shelf Go.Proofs
def pw (k : Nat) : Nat := 2 ^ k
theorem pw_succ (k : Nat) : pw (k + 1) = 2 * pw k := by unfold pw; rw [Nat.pow_succ, Nat.mul_comm]
theorem pw_pos (k : Nat) : 1 ≤ pw k := Nat.one_le_two_pow
theorem pw_le {k n : Nat} (h : k ≤ n) : pw k ≤ pw n := Nat.pow_le_pow_right (by decide) h
def shrN (a k : Nat) : Nat := a / 2 ^ k
def andP (a b : Nat) : Nat := a &&& b
def andN (a b : Nat) : Nat := a &&& (18446744073709551615 - b)
theorem andP_le (a b : Nat) : andP a b ≤ a := Nat.and_le_left
theorem andN_le (a b : Nat) : andN a b ≤ a := Nat.and_le_left
theorem wrapN {a : Nat} (h : a ≤ 9223372036854775807) : IntKind.i64.wrap (a : Int) = a := IntWalk.i64_in _ (by omega)
theorem b_shl1 {P : Program} {T : TypeId} {x y : Operand} {k : Nat} (h : k ≤ 62) (w : World) : (do eqGuard .shl T x y (.int .i64 1) (.int .i64 (k : Int)); binOp .shl T (.int .i64 1) (.int .i64 (k : Int)) : Sem Value).run P w = .ok (.int .i64 (pw k : Nat)) w := by
  have e : min ((k : Int).toNat) IntKind.i64.bits = k := by simp [IntKind.bits]; omega
  have hp : 2 ^ k ≤ 2 ^ 62 := Nat.pow_le_pow_right (by decide) h
  have e2 : IntKind.i64.wrap ((2 : Int) ^ k) = (pw k : Nat) := by
    have : ((2 : Int) ^ k) = ((pw k : Nat) : Int) := by unfold pw; simp
    rw [this]
    exact wrapN (by unfold pw; omega)
  have h0 : ¬ ((k : Int) < 0) := by omega
  simp [eqGuard, binOp]
  exact e2
theorem b_shrN {P : Program} {T : TypeId} {x y : Operand} {a k : Nat} (h : k ≤ 62) (w : World) : (do eqGuard .shr T x y (.int .i64 (a : Int)) (.int .i64 (k : Int)); binOp .shr T (.int .i64 (a : Int)) (.int .i64 (k : Int)) : Sem Value).run P w = .ok (.int .i64 (shrN a k : Nat)) w := by
  have h0 : ¬ ((k : Int) < 0) := by omega
  simp [eqGuard, binOp]
  unfold shrN
  simp
theorem b_andP {P : Program} {T : TypeId} {x y : Operand} {a b : Nat} (ha : a ≤ 9223372036854775807) (hb : b ≤ 9223372036854775807) (w : World) : (do eqGuard .and T x y (.int .i64 (a : Int)) (.int .i64 (b : Int)); binOp .and T (.int .i64 (a : Int)) (.int .i64 (b : Int)) : Sem Value).run P w = .ok (.int .i64 (andP a b : Nat)) w := by
  have e : (BitVec.ofInt 64 (a : Int) &&& BitVec.ofInt 64 (b : Int)).toNat = andP a b := by
    rw [BitVec.ofInt_natCast, BitVec.ofInt_natCast, BitVec.toNat_and, BitVec.toNat_ofNat, BitVec.toNat_ofNat, Nat.mod_eq_of_lt (by omega), Nat.mod_eq_of_lt (by omega)]
    rfl
  have := andP_le a b
  simp only [eqGuard, binOp, Op.intBits]
  simp
  show IntKind.i64.wrap ((BitVec.ofInt 64 (a : Int) &&& BitVec.ofInt 64 (b : Int)).toNat : Int) = _
  rw [e, wrapN (by omega)]
theorem b_andN {P : Program} {T : TypeId} {x y : Operand} {a b : Nat} (ha : a ≤ 9223372036854775807) (hb : b ≤ 9223372036854775807) (w : World) : (do eqGuard .andNot T x y (.int .i64 (a : Int)) (.int .i64 (b : Int)); binOp .andNot T (.int .i64 (a : Int)) (.int .i64 (b : Int)) : Sem Value).run P w = .ok (.int .i64 (andN a b : Nat)) w := by
  have := andN_le a b
  simp only [eqGuard, binOp, Op.intBits]
  simp
  show IntKind.i64.wrap ((a % 2 ^ 64 &&& 2 ^ 64 - 1 - b % 2 ^ 64 : Nat) : Int) = _
  rw [Nat.mod_eq_of_lt (by omega), Nat.mod_eq_of_lt (by omega)]
  exact wrapN (a := andN a b) (by omega)
section
variable {C : Ctx} {N : Nat} {st : St}
theorem v_buildA {o : Oper} {T E n s : Nat} {parts : Array (Nat × Operand)} {zs : List Value} {xs : List (Nat × FV)} {cs : List FV} {ie : TypeInfo} (ty : Ty C.P) (ho : o.op = .build T parts) (hd : dstB N o.dst = true) (hu : C.P.underlying T = some (.array n E)) (he : C.P.info? E = some ie) (hs : ie.size = s)
    (hz : (ty.ty T).zero = some zs) (hp : st.evP C parts.toList = some xs) (hf : fillF (fun i => some (i * s, s)) (zs.map .v) xs = some cs) : ValOp C N o st (.f (.agg cs)) :=
  valop_run hd fun w0 a w J st' hA S => by
    subst hs
    obtain ⟨q1, q2⟩ := evP_rep (st := st) S (fun x hx => hA.ev x.2 (by simp only [ho, Op.operands]; simp; exact ⟨x.1, by simpa using hx⟩)) hp
    have hz' := (ty.ok T).zero zs hz
    have h1 := (ty.ok T).one zs hz
    obtain ⟨it, hi⟩ : ∃ it, C.P.info? T = some it := by unfold zeroC at hz'; cases h : C.P.info? T with | none => simp [h] at hz' | some it => exact ⟨it, rfl⟩
    obtain ⟨z, hzz, hzl⟩ : ∃ z, it.zero = some z ∧ z.cells.toList = zs := by unfold zeroC at hz'; simp [hi] at hz'; exact hz'
    obtain ⟨us, r1, r2, r3⟩ := fill_of (M := Mb C st'.h J) (w := w) (fun i => some (i * ie.size, ie.size)) (parts.toList.map fun p => (p.1, a.eval p.2)) xs z.cells (zs.map .v) cs (by rw [hzl]; exact repV_list zs) (by rw [hzl]; exact h1) q1 q2 hf
    refine ⟨.agg us, w, ?_, Ext.refl _, ?_⟩
    · simp only [execOp, ho, Sem.run_bind]
      rw [run_build w T _ us ?_]
      · rfl
      · unfold Program.built
        simp only [hu, hi, hzz, he]
        simpa using r1
    · have := RepF.agg (w := w) (M := Mb C st'.h J) cs us.toList r2.1 r3 r2.2
      show RepF _ _ _ _
      simpa using this
variable {ops : Array Oper} {pr : Bool} {K : St → Prop} {rest : List Oper} {d : Option Tmp} {T0 T T' : TypeId} {pos : String} {af : Array Edge} {g : Option (Nat × Bool)} {x y : Operand}
theorem s_buildA (ty : Ty C.P) {E n s : Nat} {parts : Array (Nat × Operand)} {zs : List Value} {xs : List (Nat × FV)} {cs : List FV} {ie : TypeInfo} (hu : C.P.underlying T = some (.array n E)) (he : C.P.info? E = some ie) (hs : ie.size = s) (hw : wantB st ops ⟨d, .build T parts, T0, pos, af, g⟩ = some true) (hd : dstB N d = true)
    (hz : (ty.ty T).zero = some zs) (hp : st.evP C parts.toList = some xs) (hf : fillF (fun i => some (i * s, s)) (zs.map .v) xs = some cs) (k : R C N ops pr K rest (st.put d (.f (.agg cs)))) : R C N ops pr K (⟨d, .build T parts, T0, pos, af, g⟩ :: rest) st := ⟨r_val hw (v_buildA ty rfl hd hu he hs hz hp hf) k.out⟩
theorem s_idxAw {E n s q : Nat} {cs : List FV} {k : IntKind} {z : Int} {i : TypeInfo} (hu : C.P.underlying T = some (.array n E)) (hi : C.P.info? E = some i) (hs : i.size = s) (hw : wantB st ops ⟨d, .indexAddr T x y, T0, pos, af, g⟩ = some true) (hd : dstB N d = true) (hx : st.ev C x = .f (.pt cs q)) (hy : st.ev C y = .f (.v (.int k z))) (h0 : 0 ≤ z) (hn : z < n) (h : R C N ops pr K rest (st.put d (.f (.pt cs (q + z.toNat * s))))) : R C N ops pr K (⟨d, .indexAddr T x y, T0, pos, af, g⟩ :: rest) st := ⟨r_val hw (v_idxA rfl hd hu hi hs hx hy h0 hn) h.out⟩
theorem s_shl1 {k : Nat} (hw : wantB st ops ⟨d, .binOp .shl T x y T', T0, pos, af, g⟩ = some true) (hd : dstB N d = true) (hx : st.ev C x = .f (.v (.int .i64 1))) (hy : st.ev C y = .f (.v (.int .i64 (k : Nat)))) (h : k ≤ 62) (c : R C N ops pr K rest (st.put d (.f (.v (.int .i64 (pw k : Nat)))))) : R C N ops pr K (⟨d, .binOp .shl T x y T', T0, pos, af, g⟩ :: rest) st := ⟨r_val hw (v_bin rfl hd hx hy (b_shl1 h)) c.out⟩
theorem s_shrN {a k : Nat} (hw : wantB st ops ⟨d, .binOp .shr T x y T', T0, pos, af, g⟩ = some true) (hd : dstB N d = true) (hx : st.ev C x = .f (.v (.int .i64 (a : Nat)))) (hy : st.ev C y = .f (.v (.int .i64 (k : Nat)))) (h : k ≤ 62) (c : R C N ops pr K rest (st.put d (.f (.v (.int .i64 (shrN a k : Nat)))))) : R C N ops pr K (⟨d, .binOp .shr T x y T', T0, pos, af, g⟩ :: rest) st := ⟨r_val hw (v_bin rfl hd hx hy (b_shrN h)) c.out⟩
theorem s_andP {a b : Nat} (hw : wantB st ops ⟨d, .binOp .and T x y T', T0, pos, af, g⟩ = some true) (hd : dstB N d = true) (hx : st.ev C x = .f (.v (.int .i64 (a : Nat)))) (hy : st.ev C y = .f (.v (.int .i64 (b : Nat)))) (ha : a ≤ 9223372036854775807) (hb : b ≤ 9223372036854775807) (c : R C N ops pr K rest (st.put d (.f (.v (.int .i64 (andP a b : Nat)))))) : R C N ops pr K (⟨d, .binOp .and T x y T', T0, pos, af, g⟩ :: rest) st := ⟨r_val hw (v_bin rfl hd hx hy (b_andP ha hb)) c.out⟩
theorem s_andN {a b : Nat} (hw : wantB st ops ⟨d, .binOp .andNot T x y T', T0, pos, af, g⟩ = some true) (hd : dstB N d = true) (hx : st.ev C x = .f (.v (.int .i64 (a : Nat)))) (hy : st.ev C y = .f (.v (.int .i64 (b : Nat)))) (ha : a ≤ 9223372036854775807) (hb : b ≤ 9223372036854775807) (c : R C N ops pr K rest (st.put d (.f (.v (.int .i64 (andN a b : Nat)))))) : R C N ops pr K (⟨d, .binOp .andNot T x y T', T0, pos, af, g⟩ :: rest) st := ⟨r_val hw (v_bin rfl hd hx hy (b_andN ha hb)) c.out⟩
end
end Go.Ab
namespace Go.Proofs.YtienhiloecfgnaaDoor
open Go Go.RowKit Go.Proofs Go.Shelf Go.Ab
set_option maxRecDepth 100000 in
theorem Disagree_err (x : Grid) (rs : List Rng) (l : List Flash) (b : Small x rs l) (h : (checkFlashes x rs l).2 ≠ 0) : Summ Tryd.prog GG 77 [classF x rs, .sl l.length (flasF l)] (.tup [.agg [.v (.slice none 0 0), .v (.slice none 0 0)], iv (checkFlashes x rs l).2]) := by
  obtain ⟨i23, hi23, _, hz23, _⟩ := info_parts Tryd.info23
  have OE := ModelsOf_err x rs l b h
  refine summW Tryd.func77 rfl rfl 35 rfl (by simp) (fun M0 => ?_)
  repeat (first
    | (apply s_buildA TY Tryd.underlying119 hi23 hz23; exact rfl; exact rfl; exact rfl; exact rfl; exact rfl)
    | (apply s_a TY; exact rfl)
    | (apply s_f; exact rfl; (first | assumption | omega))
    | apply w_seq
    | apply w_region
    | apply s_nil
    | apply t_norm
    | apply t_ret
    | apply w_ret
    | (apply w_condT; exact rfl; exact rfl)
    | (apply s_k (OE); exact rfl)
    | (apply s_k1 (first2_0 _ _); exact rfl; (first | assumption | omega | decide))
    | (apply s_k (unless_F _); exact rfl)
    | (apply s_alloc TY; exact rfl; exact rfl; exact rfl)
    | (apply s_store TY; exact rfl; exact rfl; exact rfl; exact rfl; exact rfl; exact rfl))
  exact lv_ret (ret2 rfl (res_bxs (sub := [.v (.slice none 0 0), .v (.slice none 0 0)]) TY rfl rfl rfl rfl rfl) (res_tmp rfl))
set_option maxRecDepth 100000 in
theorem Disagree_few (x : Grid) (rs : List Rng) (l : List Flash) (b : Small x rs l) (h : (checkFlashes x rs l).2 = 0) (hm : (modelsM x rs l).length < 2) : Summ Tryd.prog GG 77 [classF x rs, .sl l.length (flasF l)] (.tup [.agg [.v (.slice none 0 0), .v (.slice none 0 0)], iv 12]) := by
  obtain ⟨i23, hi23, _, hz23, _⟩ := info_parts Tryd.info23
  have OE := ModelsOf_ok x rs l b h
  refine summW Tryd.func77 rfl rfl 35 rfl (by simp) (fun M0 => ?_)
  repeat (first
    | (apply s_buildA TY Tryd.underlying119 hi23 hz23; exact rfl; exact rfl; exact rfl; exact rfl; exact rfl)
    | (apply s_a TY; exact rfl)
    | (apply s_f; exact rfl; (first | assumption | omega))
    | apply w_seq
    | apply w_region
    | apply s_nil
    | apply t_norm
    | apply t_ret
    | apply w_ret
    | (apply w_condT; exact rfl; exact rfl)
    | (apply s_k (OE); exact rfl)
    | (apply s_k1 (first2_1 _ _); exact rfl; (first | assumption | omega | decide))
    | (apply s_k (unless_F _); exact rfl)
    | (apply s_alloc TY; exact rfl; exact rfl; exact rfl)
    | (apply s_store TY; exact rfl; exact rfl; exact rfl; exact rfl; exact rfl; exact rfl))
  exact lv_ret (ret2 rfl (res_bxs (sub := [.v (.slice none 0 0), .v (.slice none 0 0)]) TY rfl rfl rfl rfl rfl) (res_tmp rfl))
set_option maxRecDepth 100000 in
theorem Disagree_ok (x : Grid) (rs : List Rng) (l : List Flash) (b : Small x rs l) (h : (checkFlashes x rs l).2 = 0) (hm : 2 ≤ (modelsM x rs l).length) : Summ Tryd.prog GG 77 [classF x rs, .sl l.length (flasF l)] (.tup [.agg [rowF (modelsM x rs l)[0], rowF ((modelsM x rs l)[(((modelsM x rs l).length : Int) - 1).toNat]'(by omega))], iv 0]) := by
  obtain ⟨i23, hi23, _, hz23, _⟩ := info_parts Tryd.info23
  have OE := ModelsOf_ok x rs l b h
  have K := flashesOk h
  have h300 : (modelsM x rs l).length ≤ 300 := Nat.le_trans (fits_len _) (allMo_len K)
  refine summW Tryd.func77 rfl rfl 35 rfl (by simp) (fun M0 => ?_)
  repeat (first
    | (apply s_buildA TY Tryd.underlying119 hi23 hz23; exact rfl; exact rfl; exact rfl; exact rfl; exact rfl)
    | (apply s_a TY; exact rfl)
    | (apply s_t; exact rfl; (first | assumption | omega))
    | apply w_seq
    | apply w_region
    | (apply w_draw (id := 5) 9 rfl (by kernel_rfl))
    | apply s_nil
    | apply t_norm
    | apply w_ret
    | apply w_skip
    | (apply w_condF; exact rfl; exact rfl)
    | (apply s_k (OE); exact rfl)
    | (apply s_k1 (first2_1 _ _); exact rfl; (first | assumption | omega | decide))
    | (apply s_k (unless_T _); exact rfl)
    | (apply s_c TY; exact rfl; (first | omega | exact ⟨by omega, by (first | with_reducible assumption | ((with_reducible apply matF_ne); omega) | assumption)⟩))
    | (apply s_z TY; exact rfl; (first | omega | exact ⟨by omega, by (first | with_reducible assumption | ((with_reducible apply matF_ne); omega) | assumption)⟩))
    | (apply s_l TY; exact rfl; (first | exact rfl | with_reducible assumption | ((with_reducible apply matF_at); omega) | assumption))
    | (apply s_alloc TY; exact rfl; exact rfl; exact rfl)
    | (apply s_store TY; exact rfl; exact rfl; exact rfl; exact rfl; exact rfl; exact rfl))
  exact lv_ret (ret2 rfl (res_bxs (sub := [rowF (modelsM x rs l)[0], rowF ((modelsM x rs l)[(((modelsM x rs l).length : Int) - 1).toNat]'(by omega))]) TY rfl rfl rfl rfl rfl) (res_tmp rfl))
def lessL : List Int → List Int → Bool
  | x :: a, y :: b => if x = y then lessL a b else decide (x < y)
  | _, _ => false
theorem lessL_at : ∀ {a b : List Int} {i : Nat} (ha : i < a.length) (hb : i < b.length) (_ : ∀ j (h1 : j < a.length) (h2 : j < b.length), j < i → a[j] = b[j]) (_ : a[i] ≠ b[i]), lessL a b = decide (a[i] < b[i])
  | [], _, _, ha, _, _, _ => absurd ha (Nat.not_lt_zero _)
  | _ :: _, [], _, _, hb, _, _ => absurd hb (Nat.not_lt_zero _)
  | x :: a, y :: b, 0, _, _, _, h => by
    simp only [List.getElem_cons_zero] at h ⊢
    rw [lessL, if_neg h]
  | x :: a, y :: b, i + 1, ha, hb, hp, h => by
    have h0 := hp 0 (by simp) (by simp) (by omega)
    simp only [List.getElem_cons_zero] at h0
    simp only [List.getElem_cons_succ] at h ⊢
    rw [lessL, if_pos h0]
    exact lessL_at (by simpa using ha) (by simpa using hb) (fun j h1 h2 hj => by
      have := hp (j + 1) (by simp; omega) (by simp; omega) (by omega)
      simpa using this) h
theorem lessL_same : ∀ {a b : List Int}, a.length = b.length → (∀ j (h1 : j < a.length) (h2 : j < b.length), a[j] = b[j]) → lessL a b = false
  | [], _, _, _ => by cases ‹List Int› <;> rfl
  | _ :: _, [], hl, _ => by simp at hl
  | x :: a, y :: b, hl, hp => by
    have h0 := hp 0 (by simp) (by simp)
    simp only [List.getElem_cons_zero] at h0
    rw [lessL, if_pos h0]
    exact lessL_same (by simpa using hl) (fun j h1 h2 => by
      have := hp (j + 1) (by simp; omega) (by simp; omega)
      simpa using this)
set_option maxRecDepth 100000 in
theorem isLess_s (a b : List Int) (hl : a.length = b.length) (hb : a.length ≤ 1000) : Summ Tryd.prog GG 131 [.sl a.length (intsF a), .sl b.length (intsF b)] (bv (lessL a b)) := by
  refine summW Tryd.func131 rfl rfl 30 rfl (by simp) (fun M0 => ?_)
  repeat (first
    | (apply s_a TY; exact rfl)
    | apply w_seq
    | apply w_region
    | apply s_nil
    | apply t_norm
    | apply w_block)
  apply w_loop (fun i : Nat => ⟨(Ab.upd (Ab.upd (Ab.upd (fun _ => .bot) 0 (.f (.sl a.length (intsF a)))) 1 (.f (.sl b.length (intsF b)))) 5 (.f (iv (i : Nat)))), (fun _ => none), 0⟩) (fun i => i ≤ a.length ∧ ∀ j (h1 : j < a.length) (h2 : j < b.length), j < i → a[j] = b[j]) (fun i => a.length - i) 0 (⟨Nat.zero_le _, fun j _ _ h => absurd h (Nat.not_lt_zero j)⟩) (gh_le ⟨le_upd rfl trivial (le_upd rfl trivial (le_upd rfl trivial (le_nil _))), le_h0 _ _⟩)
  intro i ⟨hi, hp⟩
  by_cases hic : i < a.length
  · have hib : i < b.length := by omega
    by_cases he : a[i] = b[i]
    · repeat (first
    | (apply s_a TY; exact rfl)
    | (apply s_t; exact rfl; (first | assumption | omega))
    | apply w_seq
    | apply w_region
    | (apply w_draw (id := 4) 8 rfl (by kernel_rfl))
    | apply s_nil
    | apply t_norm
    | apply k_norm
    | apply w_block
    | apply w_skip
    | (apply w_condT; exact rfl; exact rfl)
    | (apply w_condF; exact rfl; exact rfl)
    | (apply s_c TY; exact rfl; (first | omega | exact ⟨by omega, by (first | with_reducible assumption | ((with_reducible apply intsF_ne); omega) | assumption)⟩))
    | (apply s_l TY; exact rfl; (first | exact rfl | with_reducible assumption | ((with_reducible apply intsF_at); omega) | assumption)))
      exact ⟨i + 1, ⟨by omega, fun j h1 h2 hj => by
        by_cases hji : j = i
        · subst hji; exact he
        · exact hp j h1 h2 (by omega)⟩, by omega, gh_le ⟨le_upd rfl trivial (le_upd rfl trivial (le_upd rfl trivial (le_nil _))), le_h0 _ _⟩⟩
    · have hr := lessL_at hic hib hp he
      by_cases hlt : a[i] < b[i]
      · rw [show decide (a[i] < b[i]) = true by simpa using hlt] at hr
        rw [hr]
        repeat (first
    | (apply s_a TY; exact rfl)
    | (apply s_t; exact rfl; (first | assumption | omega))
    | (apply s_f; exact rfl; (first | assumption | omega))
    | apply w_seq
    | apply w_region
    | (apply w_draw (id := 4) 8 rfl (by kernel_rfl))
    | (apply w_draw (id := 5) 8 rfl (by kernel_rfl))
    | apply s_nil
    | apply t_norm
    | apply t_ret
    | apply k_ret
    | apply w_block
    | apply w_ret
    | apply w_skip
    | (apply w_condT; exact rfl; exact rfl)
    | (apply s_c TY; exact rfl; (first | omega | exact ⟨by omega, by (first | with_reducible assumption | ((with_reducible apply intsF_ne); omega) | assumption)⟩))
    | (apply s_l TY; exact rfl; (first | exact rfl | with_reducible assumption | ((with_reducible apply intsF_at); omega) | assumption)))
        exact lv_ret (ret1 rfl (res_tmp rfl))
      · rw [show decide (a[i] < b[i]) = false by simpa using hlt] at hr
        rw [hr]
        repeat (first
    | (apply s_a TY; exact rfl)
    | (apply s_t; exact rfl; (first | assumption | omega))
    | (apply s_f; exact rfl; (first | assumption | omega))
    | apply w_seq
    | apply w_region
    | (apply w_draw (id := 4) 8 rfl (by kernel_rfl))
    | (apply w_draw (id := 5) 8 rfl (by kernel_rfl))
    | apply s_nil
    | apply t_norm
    | apply t_ret
    | apply k_ret
    | apply w_block
    | apply w_ret
    | apply w_skip
    | (apply w_condT; exact rfl; exact rfl)
    | (apply s_c TY; exact rfl; (first | omega | exact ⟨by omega, by (first | with_reducible assumption | ((with_reducible apply intsF_ne); omega) | assumption)⟩))
    | (apply s_l TY; exact rfl; (first | exact rfl | with_reducible assumption | ((with_reducible apply intsF_at); omega) | assumption)))
        exact lv_ret (ret1 rfl (res_tmp rfl))
  · rw [lessL_same hl (fun j h1 h2 => hp j h1 h2 (by omega))]
    repeat (first
    | (apply s_a TY; exact rfl)
    | (apply s_f; exact rfl; (first | assumption | omega))
    | apply w_seq
    | apply w_region
    | apply s_nil
    | apply t_norm
    | apply t_exit
    | apply k_hit
    | apply w_exit
    | apply w_ret
    | (apply w_condF; exact rfl; exact rfl))
    exact lv_ret (ret1 rfl (res_tmp rfl))
def bitB (s i : Nat) : Bool := decide (andP (shrN s i) 1 = 1)
def bitsL (s : Nat) (n : Nat) : List Int := ((List.range n).filter (bitB s)).map fun (i : Nat) => (i : Int)
theorem bitsL_succ (s n : Nat) : bitsL s (n + 1) = bitsL s n ++ (if bitB s n = true then [(n : Int)] else []) := by
  unfold bitsL
  rw [List.range_succ, List.filter_append, List.map_append]
  congr 1
  by_cases h : bitB s n = true
  · rw [if_pos h]; simp only [List.filter, h, List.map]
  · rw [if_neg h]; simp only [List.filter, h, List.map]
theorem bitsL_len (s n : Nat) : (bitsL s n).length ≤ n := by
  unfold bitsL
  rw [List.length_map]
  exact Nat.le_trans (List.length_filter_le _ _) (by simp)
theorem flasF_put (l : List Flash) (f : Flash) : flasF (l ++ [f]) = flasF l ++ flaF f := by simp [flasF]
theorem row_appI (L : List Int) (z : Int) : some (Blk.row 3 1 (L ++ [z]).length (intsF (L ++ [z]))) = some (Blk.row 3 1 (L.length + 1) (intsF L ++ [iv z])) := by
  rw [intsF_snoc, List.length_append]; rfl
theorem row_appF (L : List Flash) (f : Flash) : some (Blk.row 108 7 (L ++ [f]).length (flasF (L ++ [f]))) = some (Blk.row 108 7 (L.length + 1) (flasF L ++ flaF f)) := by
  rw [flasF_put, List.length_append]; rfl
set_option maxRecDepth 100000 in
theorem chosen_s (l : List Flash) (s : Nat) (hl : l.length ≤ 8) (hs : s ≤ 1000) : Summ Tryd.prog GG 130 [.sl l.length (flasF l), iv (s : Nat)] (.tup [.sl (subL l (bitsL s l.length)).length (flasF (subL l (bitsL s l.length))), .sl (bitsL s l.length).length (intsF (bitsL s l.length))]) := by
  refine summW Tryd.func130 rfl rfl 33 rfl (by simp) (fun M0 => ?_)
  repeat (first
    | (apply s_a TY; exact rfl)
    | apply w_seq
    | apply w_region
    | apply s_nil
    | apply t_norm
    | apply w_block)
  apply w_gh (gh_own 6 108 7 rfl rfl)
  apply w_gh (gh_own 7 3 1 rfl rfl)
  apply w_loop (fun i : Nat => ⟨(Ab.upd (Ab.upd (Ab.upd (Ab.upd (Ab.upd (fun _ => .bot) 0 (.f (.sl l.length (flasF l)))) 1 (.f (iv (s : Nat)))) 6 (.ow 0)) 7 (.ow 1)) 8 (.f (iv (i : Nat)))), (Ab.upd (Ab.upd (fun _ => none) 0 (some (.row 108 7 (subL l (bitsL s i)).length (flasF (subL l (bitsL s i)))))) 1 (some (.row 3 1 (bitsL s i).length (intsF (bitsL s i))))), 2⟩) (fun i => i ≤ l.length) (fun i => l.length - i) 0 (Nat.zero_le _) (gh_le ⟨le_upd rfl trivial (le_upd rfl rfl (le_upd rfl rfl (le_upd rfl trivial (le_upd rfl trivial (le_nil _))))), le_hupd rfl trivial (le_hupd rfl trivial (le_h0 _ _))⟩)
  intro i hi
  by_cases hic : i < l.length
  · have hn := bitsL_succ s i
    have hbl := bitsL_len s i
    have hsl := sub_len l (bitsL s i)
    have hsn := sub_app l (bitsL s i)
    have hb0 : shrN s i ≤ s := Nat.div_le_self _ _
    have hgd : l.getD i flash0 = l[i] := by simp [List.getD_eq_getElem?_getD, List.getElem?_eq_getElem hic]
    by_cases hb : andP (shrN s i) 1 = 1
    · rw [if_pos (by unfold bitB; simpa using hb)] at hn
      have hm : subL l (bitsL s (i + 1)) = subL l (bitsL s i) ++ [l[i]] := by
        rw [hn, hsn]
        show _ ++ [l.getD ((i : Int).toNat) flash0] = _
        rw [Int.toNat_natCast, hgd]
      repeat (first
    | (apply s_shrN; exact rfl; exact rfl; exact rfl; exact rfl; omega)
    | (apply s_andP (b := 1); exact rfl; exact rfl; exact rfl; exact rfl; omega; omega)
    | (apply s_append TY; exact rfl; exact rfl; exact rfl; exact rfl; exact rfl; exact rfl; exact rfl; exact rfl; exact rfl; (unfold maxLen; omega); omega)
    | (apply s_a TY; exact rfl)
    | (apply s_t; exact rfl; (first | assumption | omega))
    | apply w_seq
    | apply w_region
    | apply s_nil
    | apply t_norm
    | apply k_norm
    | apply w_block
    | apply w_skip
    | (apply w_condT; exact rfl; exact rfl)
    | (apply s_c TY; exact rfl; (first | omega | exact ⟨by omega, by (first | with_reducible assumption | ((with_reducible apply flasF_ne); omega) | assumption)⟩))
    | (apply s_m TY; exact rfl; (first | with_reducible assumption | ((with_reducible apply flasF_sub); omega) | exact rfl); exact rfl))
      exact ⟨i + 1, by omega, by omega, gh_le ⟨le_upd rfl trivial (le_upd rfl rfl (le_upd rfl rfl (le_upd rfl trivial (le_upd rfl trivial (le_nil _))))), le_hupd ((congrArg (fun M : List Int => some (Blk.row 3 1 M.length (intsF M))) hn).trans (row_appI _ _)).symm trivial (le_hupd ((congrArg (fun M : List Flash => some (Blk.row 108 7 M.length (flasF M))) hm).trans (row_appF _ _)).symm trivial (le_h0 _ _))⟩⟩
    · rw [if_neg (by unfold bitB; simpa using hb), List.append_nil] at hn
      repeat (first
    | (apply s_shrN; exact rfl; exact rfl; exact rfl; exact rfl; omega)
    | (apply s_andP (b := 1); exact rfl; exact rfl; exact rfl; exact rfl; omega; omega)
    | (apply s_a TY; exact rfl)
    | (apply s_t; exact rfl; (first | assumption | omega))
    | (apply s_f; exact rfl; (first | assumption | omega))
    | apply w_seq
    | apply w_region
    | apply s_nil
    | apply t_norm
    | apply k_norm
    | apply w_block
    | apply w_skip
    | (apply w_condT; exact rfl; exact rfl)
    | (apply w_condF; exact rfl; exact rfl)
    | (apply s_c TY; exact rfl; (first | omega | exact ⟨by omega, by (first | with_reducible assumption | ((with_reducible apply flasF_ne); omega) | assumption)⟩)))
      exact ⟨i + 1, by omega, by omega, gh_le ⟨le_upd rfl trivial (le_upd rfl rfl (le_upd rfl rfl (le_upd rfl trivial (le_upd rfl trivial (le_nil _))))), le_hupd (congrArg (fun M : List Int => some (Blk.row 3 1 M.length (intsF M))) hn).symm trivial (le_hupd (congrArg (fun M : List Int => some (Blk.row 108 7 (subL l M).length (flasF (subL l M)))) hn).symm trivial (le_h0 _ _))⟩⟩
  · have hie : i = l.length := by omega
    subst hie
    repeat (first
    | (apply s_a TY; exact rfl)
    | (apply s_f; exact rfl; (first | assumption | omega))
    | apply w_seq
    | apply w_region
    | apply s_nil
    | apply t_norm
    | apply t_exit
    | apply k_hit
    | apply w_exit
    | apply w_ret
    | (apply w_condF; exact rfl; exact rfl))
    refine lv_ret (ret_gh (gh_row 0 rfl) (ret_gh (gh_row 1 rfl) ?_))
    exact ret2 rfl (res_tmp rfl) (res_tmp rfl)
end Go.Proofs.YtienhiloecfgnaaDoor
namespace Go.Proofs.YtienhiloecfgnaaDoor
open Go Go.RowKit Go.Proofs Go.Shelf Go.Ab
def mkM (f : Nat → Bool) : Nat → Nat
  | 0 => 0
  | k + 1 => mkM f k + if f k = true then pw k else 0
theorem mkM_lt (f : Nat → Bool) : ∀ k, mkM f k < pw k
  | 0 => Nat.one_pos
  | k + 1 => by
    have h := mkM_lt f k
    rw [mkM, pw_succ]
    split <;> omega
def natsF (L : List Nat) : List FV := L.map fun n => iv (n : Nat)
theorem natsF_at {L : List Nat} {i : Nat} (h : i < L.length) : (natsF L)[i * 1]? = some (iv (L[i] : Nat)) := by
  simp [natsF, List.getElem?_eq_getElem h]
theorem natsF_ne {L : List Nat} (h : 0 < L.length) : natsF L ≠ [] := fun e => by
  have := congrArg List.length e
  simp [natsF] at this; subst this; simp at h
noncomputable def maskN (x : Grid) (l : List Flash) (ds : List Int) (k : Nat) : Nat := mkM (fun j => expB x ds (l.getD j flash0)) k
noncomputable def masks (x : Grid) (rs : List Rng) (l : List Flash) (i : Nat) : List Nat := ((assigns rs []).take i).map fun ds => maskN x l ds l.length
theorem masks_len {x : Grid} {rs : List Rng} {l : List Flash} {i : Nat} (h : i ≤ (assigns rs []).length) : (masks x rs l i).length = i := by
  unfold masks; rw [List.length_map, List.length_take]; omega
theorem masks_succ {x : Grid} {rs : List Rng} {l : List Flash} {i : Nat} (h : i < (assigns rs []).length) : masks x rs l (i + 1) = masks x rs l i ++ [maskN x l (assigns rs [])[i] l.length] := by
  unfold masks; rw [List.take_succ_eq_append_getElem h, List.map_append]; rfl
theorem row_appN (L : List Nat) (z : Nat) : some (Blk.row 3 1 (L ++ [z]).length (natsF (L ++ [z]))) = some (Blk.row 3 1 (L.length + 1) (natsF L ++ [iv (z : Nat)])) := by
  rw [natsF, List.map_append, List.length_append]; rfl
theorem masks_lt {x : Grid} {rs : List Rng} {l : List Flash} {i : Nat} {n : Nat} (h : n ∈ masks x rs l i) : n < pw l.length := by
  obtain ⟨ds, _, rfl⟩ := List.mem_map.1 h
  exact mkM_lt _ _
def opN (L : List Nat) (s : Nat) : Bool := L.all fun e => decide (andN s e ≠ 0)
def bst (op : Nat → Bool) (n : Nat) : Nat → Option (List Int)
  | 0 => none
  | k + 1 => match op (k + 1) with
    | false => bst op n k
    | true => match bst op n k with
      | none => some (bitsL (k + 1) n)
      | some b => if (bitsL (k + 1) n).length < b.length then some (bitsL (k + 1) n) else if (bitsL (k + 1) n).length = b.length then (match lessL (bitsL (k + 1) n) b with | true => some (bitsL (k + 1) n) | false => some b) else some b
theorem bst_len (op : Nat → Bool) (n : Nat) : ∀ k b, bst op n k = some b → b.length ≤ n
  | 0, _, h => by cases h
  | k + 1, b, h => by
    have hb := bitsL_len (k + 1) n
    rw [bst] at h
    split at h
    · exact bst_len op n k b h
    · split at h
      · cases h; exact hb
      · rename_i c hc
        have := bst_len op n k c hc
        split at h
        · cases h; exact hb
        · split at h
          · split at h
            · cases h; exact hb
            · cases h; exact this
          · cases h; exact this
set_option maxRecDepth 100000 in
set_option maxHeartbeats 8000000 in
theorem RContra_s (x : Grid) (rs : List Rng) (l : List Flash) (K : FlashesOk x rs l) : Summ Tryd.prog GG 78 [classF x rs, .sl l.length (flasF l)] (.tup [outF (.v (.slice none 0 0)) (bst (opN (masks x rs l (assigns rs []).length)) l.length (pw l.length - 1)), bv (bst (opN (masks x rs l (assigns rs []).length)) l.length (pw l.length - 1)).isSome]) := by
  have v := K.k.v
  have hl := K.k.len
  have h8 := K.l8
  have hcnt := K.k.cnt
  have l6 := v.l6
  have p8 : pw 8 = 256 := rfl
  have pn := pw_le h8
  have pp := pw_pos l.length
  have AL := All_s x rs (by omega) K.k.rng K.k.cnt
  refine summW Tryd.func78 rfl rfl 106 rfl (by simp) (fun M0 => ?_)
  repeat (first
    | (apply s_a TY; exact rfl)
    | apply w_seq
    | apply w_region
    | apply s_nil
    | apply t_norm
    | apply w_block
    | (apply s_k (AL); exact rfl))
  apply w_gh (gh_own 7 3 1 rfl rfl)
  apply w_loop (fun i : Nat => ⟨(Ab.upd (Ab.upd (Ab.upd (Ab.upd (Ab.upd (fun _ => .bot) 1 (.f (.sl l.length (flasF l)))) 2 (.f (.pt (classL x rs) 0))) 6 (.f (.sl (assigns rs []).length (matF (assigns rs []))))) 7 (.ow 0)) 8 (.f (iv (i : Nat)))), (Ab.upd (fun _ => none) 0 (some (.row 3 1 (masks x rs l i).length (natsF (masks x rs l i))))), 1⟩) (fun i => i ≤ (assigns rs []).length) (fun i => (assigns rs []).length - i) 0 (Nat.zero_le _) (gh_le ⟨le_upd rfl trivial (le_upd rfl rfl (le_upd rfl trivial (le_upd rfl trivial (le_upd rfl trivial (le_nil _))))), le_hupd rfl trivial (le_h0 _ _)⟩)
  · intro i hi
    have hml := masks_len (x := x) (l := l) hi
    by_cases hic : i < (assigns rs []).length
    · have hmem := List.getElem_mem hic
      have hrow := assigns_rows rs [] _ hmem
      have hbd := assigns_bd rs [] _ K.k.rng (fun _ h => by cases h) hmem
      have vy : Valid (own x (assigns rs [])[i]) := own_valid v hbd
      have hd : (assigns rs [])[i].length = x.layers.length := by rw [hrow, ← hl]; simp
      repeat (first
    | (apply s_a TY; exact rfl)
    | (apply s_t; exact rfl; (first | assumption | omega))
    | apply w_seq
    | apply w_region
    | apply s_nil
    | apply t_norm
    | apply w_block
    | apply w_skip
    | (apply w_condT; exact rfl; exact rfl))
      apply w_loop (fun k : Nat => ⟨(Ab.upd (Ab.upd (Ab.upd (Ab.upd (Ab.upd (Ab.upd (Ab.upd (fun _ => .bot) 1 (.f (.sl l.length (flasF l)))) 2 (.f (.pt (classL x rs) 0))) 6 (.f (.sl (assigns rs []).length (matF (assigns rs []))))) 7 (.ow 0)) 8 (.f (iv (i : Nat)))) 9 (.f (iv (maskN x l (assigns rs [])[i] k : Nat)))) 10 (.f (iv (k : Nat)))), (Ab.upd (fun _ => none) 0 (some (.row 3 1 (masks x rs l i).length (natsF (masks x rs l i))))), 1⟩) (fun k => k ≤ l.length) (fun k => l.length - k) 0 (Nat.zero_le _) (gh_le ⟨le_upd rfl trivial (le_upd rfl trivial (le_upd rfl trivial (le_upd rfl rfl (le_upd rfl trivial (le_upd rfl trivial (le_upd rfl trivial (le_nil _))))))), le_hupd rfl trivial (le_h0 _ _)⟩)
      intro k hk
      have hlt := mkM_lt (fun j => expB x (assigns rs [])[i] (l.getD j flash0)) k
      have hpk := pw_le hk
      by_cases hkc : k < l.length
      · obtain ⟨hf, ht⟩ := K.cells l[k] (List.getElem_mem hkc)
        have ES : Summ Tryd.prog GG 99 [classF x rs, .sl (assigns rs [])[i].length (intsF (assigns rs [])[i]), .agg (flaF l[k])] (bv (expB x (assigns rs [])[i] l[k])) := Explains_s x rs (assigns rs [])[i] l[k] v hd vy hf ht
        have hgd : l.getD k flash0 = l[k] := by simp [List.getD_eq_getElem?_getD, List.getElem?_eq_getElem hkc]
        have hm : maskN x l (assigns rs [])[i] (k + 1) = maskN x l (assigns rs [])[i] k + if expB x (assigns rs [])[i] l[k] = true then pw k else 0 := by
          unfold maskN; rw [mkM, hgd]
        have hlt2 : maskN x l (assigns rs [])[i] k < pw k := hlt
        cases he : expB x (assigns rs [])[i] l[k]
        · rw [he] at ES hm
          replace hm : maskN x l (assigns rs [])[i] (k + 1) = maskN x l (assigns rs [])[i] k := hm
          repeat (first
    | (apply s_a TY; exact rfl)
    | (apply s_t; exact rfl; (first | assumption | omega))
    | apply w_seq
    | apply w_region
    | (apply w_draw (id := 10) 9 rfl (by kernel_rfl))
    | apply s_nil
    | apply t_norm
    | apply k_norm
    | apply w_block
    | apply w_skip
    | (apply w_condT; exact rfl; exact rfl)
    | (apply w_condF; exact rfl; exact rfl)
    | (apply s_k (ES); exact rfl)
    | (apply s_c TY; exact rfl; (first | omega | exact ⟨by omega, by (first | with_reducible assumption | ((with_reducible apply intsF_ne); omega) | ((with_reducible apply matF_ne); omega) | ((with_reducible apply flasF_ne); omega) | assumption)⟩))
    | (apply s_l TY; exact rfl; (first | exact rfl | with_reducible assumption | ((with_reducible apply intsF_at); omega) | ((with_reducible apply matF_at); omega) | assumption))
    | (apply s_m TY; exact rfl; (first | with_reducible assumption | ((with_reducible apply flasF_sub); omega) | exact rfl); exact rfl))
          exact ⟨k + 1, by omega, by omega, gh_le ⟨le_upd rfl trivial (le_upd (by rw [hm]; rfl) trivial (le_upd rfl trivial (le_upd rfl rfl (le_upd rfl trivial (le_upd rfl trivial (le_upd rfl trivial (le_nil _))))))), le_hupd rfl trivial (le_h0 _ _)⟩⟩
        · rw [he] at ES hm
          replace hm : maskN x l (assigns rs [])[i] (k + 1) = maskN x l (assigns rs [])[i] k + pw k := hm
          repeat (first
    | (apply s_shl1; exact rfl; exact rfl; exact rfl; exact rfl; omega)
    | (apply s_a TY; exact rfl)
    | (apply s_t; exact rfl; (first | assumption | omega))
    | apply w_seq
    | apply w_region
    | (apply w_draw (id := 10) 9 rfl (by kernel_rfl))
    | apply s_nil
    | apply t_norm
    | apply k_norm
    | apply w_block
    | apply w_skip
    | (apply w_condT; exact rfl; exact rfl)
    | (apply s_k (ES); exact rfl)
    | (apply s_c TY; exact rfl; (first | omega | exact ⟨by omega, by (first | with_reducible assumption | ((with_reducible apply intsF_ne); omega) | ((with_reducible apply matF_ne); omega) | ((with_reducible apply flasF_ne); omega) | assumption)⟩))
    | (apply s_l TY; exact rfl; (first | exact rfl | with_reducible assumption | ((with_reducible apply intsF_at); omega) | ((with_reducible apply matF_at); omega) | assumption))
    | (apply s_m TY; exact rfl; (first | with_reducible assumption | ((with_reducible apply flasF_sub); omega) | exact rfl); exact rfl))
          exact ⟨k + 1, by omega, by omega, gh_le ⟨le_upd rfl trivial (le_upd (by rw [hm]; rfl) trivial (le_upd rfl trivial (le_upd rfl rfl (le_upd rfl trivial (le_upd rfl trivial (le_upd rfl trivial (le_nil _))))))), le_hupd rfl trivial (le_h0 _ _)⟩⟩
      · have hke : k = l.length := by omega
        subst hke
        have hs := masks_succ (x := x) (l := l) hic
        repeat (first
    | (apply s_append TY; exact rfl; exact rfl; exact rfl; exact rfl; exact rfl; exact rfl; exact rfl; exact rfl; exact rfl; (unfold maxLen; omega); omega)
    | (apply s_a TY; exact rfl)
    | (apply s_f; exact rfl; (first | assumption | omega))
    | apply w_seq
    | apply w_region
    | apply s_nil
    | apply t_norm
    | apply t_exit
    | apply k_hit
    | apply k_norm
    | apply w_exit
    | (apply w_condF; exact rfl; exact rfl)
    | (apply s_c TY; exact rfl; (first | omega | exact ⟨by omega, by (first | with_reducible assumption | ((with_reducible apply intsF_ne); omega) | ((with_reducible apply matF_ne); omega) | ((with_reducible apply flasF_ne); omega) | assumption)⟩)))
        exact ⟨i + 1, by omega, by omega, gh_le ⟨le_upd rfl trivial (le_upd rfl rfl (le_upd rfl trivial (le_upd rfl trivial (le_upd rfl trivial (le_nil _))))), le_hupd ((congrArg (fun M : List Nat => some (Blk.row 3 1 M.length (natsF M))) hs).trans (row_appN _ _)).symm trivial (le_h0 _ _)⟩⟩
    · have hie : i = (assigns rs []).length := by omega
      subst hie
      have hmask : ∀ e ∈ (masks x rs l (assigns rs []).length), e < pw l.length := fun _ h => masks_lt h
      apply w_gh (gh_row 0 rfl)
      repeat (first
    | (apply s_a TY; exact rfl)
    | (apply s_f; exact rfl; (first | assumption | omega))
    | apply w_seq
    | apply w_region
    | apply s_nil
    | apply t_norm
    | apply t_exit
    | apply k_hit
    | apply w_block
    | apply w_exit
    | (apply w_condF; exact rfl; exact rfl))
      apply w_loop (fun p : Nat × Option (List Int) => ⟨(Ab.upd (Ab.upd (Ab.upd (Ab.upd (Ab.upd (fun _ => .bot) 1 (.f (.sl l.length (flasF l)))) 7 (.f (.sl (masks x rs l (assigns rs []).length).length (natsF (masks x rs l (assigns rs []).length))))) 11 (.f (outF (.v (.slice none 0 0)) p.2))) 12 (.f (bv p.2.isSome))) 13 (.f (iv ((p.1 + 1) : Nat)))), (fun _ => none), 0⟩) (fun p => p.1 + 1 ≤ pw l.length ∧ bst (opN (masks x rs l (assigns rs []).length)) l.length p.1 = p.2) (fun p => pw l.length - p.1) (0, none) (⟨pp, rfl⟩) (gh_le ⟨le_upd rfl trivial (le_upd rfl trivial (le_upd rfl trivial (le_upd rfl trivial (le_upd rfl trivial (le_nil _))))), le_h0 _ _⟩)
      rintro ⟨k, b⟩ ⟨hk, hb⟩
      rcases b with _ | bb
      · show W _ _ _ _ ⟨(Ab.upd (Ab.upd (Ab.upd (Ab.upd (Ab.upd (fun _ => .bot) 1 (.f (.sl l.length (flasF l)))) 7 (.f (.sl (masks x rs l (assigns rs []).length).length (natsF (masks x rs l (assigns rs []).length))))) 11 (.f (.v (.slice none 0 0)))) 12 (.f (bv false))) 13 (.f (iv ((k + 1) : Nat)))), (fun _ => none), 0⟩
        simp only at hk hb
        by_cases hkc : k + 1 < pw l.length
        · repeat (first
    | (apply s_shl1; exact rfl; exact rfl; exact rfl; exact rfl; omega)
    | (apply s_a TY; exact rfl)
    | (apply s_t; exact rfl; (first | assumption | omega))
    | apply w_seq
    | apply w_region
    | apply s_nil
    | apply t_norm
    | apply w_block
    | apply w_skip
    | (apply w_condT; exact rfl; exact rfl))
          apply w_loop (fun q : Nat × Bool => ⟨(Ab.upd (Ab.upd (Ab.upd (Ab.upd (Ab.upd (Ab.upd (Ab.upd (fun _ => .bot) 1 (.f (.sl l.length (flasF l)))) 7 (.f (.sl (masks x rs l (assigns rs []).length).length (natsF (masks x rs l (assigns rs []).length))))) 11 (.f (.v (.slice none 0 0)))) 12 (.f (bv false))) 13 (.f (iv ((k + 1) : Nat)))) 14 (.f (bv q.2))) 15 (.f (iv (q.1 : Nat)))), (fun _ => none), 0⟩) (fun q => q.1 ≤ (masks x rs l (assigns rs []).length).length ∧ ((masks x rs l (assigns rs []).length).take q.1).all (fun e => decide (andN (k + 1) e ≠ 0)) = q.2) (fun q => (masks x rs l (assigns rs []).length).length - q.1) (0, true) (⟨Nat.zero_le _, rfl⟩) (gh_le ⟨le_upd rfl trivial (le_upd rfl trivial (le_upd rfl trivial (le_upd rfl trivial (le_upd rfl trivial (le_upd rfl trivial (le_upd rfl trivial (le_nil _))))))), le_h0 _ _⟩)
          rintro ⟨i, o⟩ ⟨hi, ho⟩
          show W _ _ _ _ ⟨(Ab.upd (Ab.upd (Ab.upd (Ab.upd (Ab.upd (Ab.upd (Ab.upd (fun _ => .bot) 1 (.f (.sl l.length (flasF l)))) 7 (.f (.sl (masks x rs l (assigns rs []).length).length (natsF (masks x rs l (assigns rs []).length))))) 11 (.f (.v (.slice none 0 0)))) 12 (.f (bv false))) 13 (.f (iv ((k + 1) : Nat)))) 14 (.f (bv o))) 15 (.f (iv (i : Nat)))), (fun _ => none), 0⟩
          simp only at hi ho
          by_cases hic : i < (masks x rs l (assigns rs []).length).length
          · have hat := natsF_at hic
            have hlt := hmask _ (List.getElem_mem hic)
            have hs := all_succ (p := fun e => decide (andN (k + 1) e ≠ 0)) hic
            rw [ho] at hs
            have hne := natsF_ne (L := (masks x rs l (assigns rs []).length)) (by omega)
            cases o
            · repeat (first
    | (apply s_a TY; exact rfl)
    | (apply s_t; exact rfl; (first | assumption | omega))
    | apply w_seq
    | apply w_region
    | apply s_nil
    | apply t_norm
    | apply k_norm
    | apply w_block
    | apply w_skip
    | (apply w_condT; exact rfl; exact rfl)
    | (apply s_s; exact rfl)
    | (apply s_c TY; exact rfl; (first | omega | exact ⟨by omega, by (first | with_reducible assumption | ((with_reducible apply intsF_ne); omega) | ((with_reducible apply matF_ne); omega) | ((with_reducible apply flasF_ne); omega) | assumption)⟩)))
              exact ⟨(i + 1, false), ⟨by simp only; omega, hs⟩, by simp only; omega, gh_le ⟨le_upd rfl trivial (le_upd rfl trivial (le_upd rfl trivial (le_upd rfl trivial (le_upd rfl trivial (le_upd rfl trivial (le_upd rfl trivial (le_nil _))))))), le_h0 _ _⟩⟩
            · by_cases hz : andN (k + 1) (masks x rs l (assigns rs []).length)[i] = 0
              · repeat (first
    | (apply s_andN; exact rfl; exact rfl; exact rfl; exact rfl; omega; omega)
    | (apply s_a TY; exact rfl)
    | (apply s_t; exact rfl; (first | assumption | omega))
    | apply w_seq
    | apply w_region
    | apply s_nil
    | apply t_norm
    | apply k_norm
    | apply w_block
    | apply w_skip
    | (apply w_condT; exact rfl; exact rfl)
    | (apply s_c TY; exact rfl; (first | omega | exact ⟨by omega, by (first | with_reducible assumption | ((with_reducible apply intsF_ne); omega) | ((with_reducible apply matF_ne); omega) | ((with_reducible apply flasF_ne); omega) | assumption)⟩))
    | (apply s_l TY; exact rfl; (first | exact rfl | with_reducible assumption | ((with_reducible apply intsF_at); omega) | ((with_reducible apply matF_at); omega) | assumption)))
                exact ⟨(i + 1, false), ⟨by simp only; omega, by rw [hs, hz]; rfl⟩, by simp only; omega, gh_le ⟨le_upd rfl trivial (le_upd rfl trivial (le_upd rfl trivial (le_upd rfl trivial (le_upd rfl trivial (le_upd rfl trivial (le_upd rfl trivial (le_nil _))))))), le_h0 _ _⟩⟩
              · repeat (first
    | (apply s_andN; exact rfl; exact rfl; exact rfl; exact rfl; omega; omega)
    | (apply s_a TY; exact rfl)
    | (apply s_t; exact rfl; (first | assumption | omega))
    | (apply s_f; exact rfl; (first | assumption | omega))
    | apply w_seq
    | apply w_region
    | apply s_nil
    | apply t_norm
    | apply k_norm
    | apply w_block
    | apply w_skip
    | (apply w_condT; exact rfl; exact rfl)
    | (apply s_c TY; exact rfl; (first | omega | exact ⟨by omega, by (first | with_reducible assumption | ((with_reducible apply intsF_ne); omega) | ((with_reducible apply matF_ne); omega) | ((with_reducible apply flasF_ne); omega) | assumption)⟩))
    | (apply s_l TY; exact rfl; (first | exact rfl | with_reducible assumption | ((with_reducible apply intsF_at); omega) | ((with_reducible apply matF_at); omega) | assumption)))
                exact ⟨(i + 1, true), ⟨by simp only; omega, by rw [hs]; simpa using hz⟩, by simp only; omega, gh_le ⟨le_upd rfl trivial (le_upd rfl trivial (le_upd rfl trivial (le_upd rfl trivial (le_upd rfl trivial (le_upd rfl trivial (le_upd rfl trivial (le_nil _))))))), le_h0 _ _⟩⟩
          · have hie : i = (masks x rs l (assigns rs []).length).length := by omega
            subst hie
            rw [List.take_length] at ho
            have hop : opN (masks x rs l (assigns rs []).length) (k + 1) = o := ho
            have CH := chosen_s l (k + 1) h8 (by omega)
            have hbl := bitsL_len (k + 1) l.length
            cases o
            · have hb2 : bst (opN (masks x rs l (assigns rs []).length)) l.length (k + 1) = none := by rw [bst, hop]; exact hb
              repeat (first
    | (apply s_a TY; exact rfl)
    | (apply s_f; exact rfl; (first | assumption | omega))
    | apply w_seq
    | apply w_region
    | apply s_nil
    | apply t_norm
    | apply t_exit
    | apply k_hit
    | apply k_norm
    | apply w_exit
    | apply w_skip
    | (apply w_condF; exact rfl; exact rfl)
    | (apply s_k (CH); exact rfl)
    | (apply s_s; exact rfl)
    | (apply s_c TY; exact rfl; (first | omega | exact ⟨by omega, by (first | with_reducible assumption | ((with_reducible apply intsF_ne); omega) | ((with_reducible apply matF_ne); omega) | ((with_reducible apply flasF_ne); omega) | assumption)⟩)))
              exact ⟨(k + 1, none), ⟨by simp only; omega, hb2⟩, by simp only; omega, gh_le ⟨le_upd rfl trivial (le_upd rfl trivial (le_upd rfl trivial (le_upd rfl trivial (le_upd rfl trivial (le_nil _))))), le_h0 _ _⟩⟩
            · have hb2 : bst (opN (masks x rs l (assigns rs []).length)) l.length (k + 1) = (some (bitsL (k + 1) l.length)) := by rw [bst, hop, hb]
              repeat (first
    | (apply s_a TY; exact rfl)
    | (apply s_f; exact rfl; (first | assumption | omega))
    | apply w_seq
    | apply w_region
    | apply s_nil
    | apply t_norm
    | apply t_exit
    | apply k_hit
    | apply k_norm
    | apply w_exit
    | (apply w_condT; exact rfl; exact rfl)
    | (apply w_condF; exact rfl; exact rfl)
    | (apply s_k (CH); exact rfl)
    | (apply s_s; exact rfl)
    | (apply s_c TY; exact rfl; (first | omega | exact ⟨by omega, by (first | with_reducible assumption | ((with_reducible apply intsF_ne); omega) | ((with_reducible apply matF_ne); omega) | ((with_reducible apply flasF_ne); omega) | assumption)⟩)))
              exact ⟨(k + 1, (some (bitsL (k + 1) l.length))), ⟨by simp only; omega, hb2⟩, by simp only; omega, gh_le ⟨le_upd rfl trivial (le_upd rfl trivial (le_upd rfl trivial (le_upd rfl trivial (le_upd rfl trivial (le_nil _))))), le_h0 _ _⟩⟩
        · have hke : k = pw l.length - 1 := by omega
          subst hke
          rw [hb]
          repeat (first
    | (apply s_shl1; exact rfl; exact rfl; exact rfl; exact rfl; omega)
    | (apply s_a TY; exact rfl)
    | (apply s_f; exact rfl; (first | assumption | omega))
    | apply w_seq
    | apply w_region
    | apply s_nil
    | apply t_norm
    | apply t_exit
    | apply k_hit
    | apply w_exit
    | apply w_ret
    | (apply w_condF; exact rfl; exact rfl))
          exact lv_ret (ret2 rfl (res_tmp rfl) (res_tmp rfl))
      · show W _ _ _ _ ⟨(Ab.upd (Ab.upd (Ab.upd (Ab.upd (Ab.upd (fun _ => .bot) 1 (.f (.sl l.length (flasF l)))) 7 (.f (.sl (masks x rs l (assigns rs []).length).length (natsF (masks x rs l (assigns rs []).length))))) 11 (.f (.sl bb.length (intsF bb)))) 12 (.f (bv true))) 13 (.f (iv ((k + 1) : Nat)))), (fun _ => none), 0⟩
        simp only at hk hb
        by_cases hkc : k + 1 < pw l.length
        · repeat (first
    | (apply s_shl1; exact rfl; exact rfl; exact rfl; exact rfl; omega)
    | (apply s_a TY; exact rfl)
    | (apply s_t; exact rfl; (first | assumption | omega))
    | apply w_seq
    | apply w_region
    | apply s_nil
    | apply t_norm
    | apply w_block
    | apply w_skip
    | (apply w_condT; exact rfl; exact rfl))
          apply w_loop (fun q : Nat × Bool => ⟨(Ab.upd (Ab.upd (Ab.upd (Ab.upd (Ab.upd (Ab.upd (Ab.upd (fun _ => .bot) 1 (.f (.sl l.length (flasF l)))) 7 (.f (.sl (masks x rs l (assigns rs []).length).length (natsF (masks x rs l (assigns rs []).length))))) 11 (.f (.sl bb.length (intsF bb)))) 12 (.f (bv true))) 13 (.f (iv ((k + 1) : Nat)))) 14 (.f (bv q.2))) 15 (.f (iv (q.1 : Nat)))), (fun _ => none), 0⟩) (fun q => q.1 ≤ (masks x rs l (assigns rs []).length).length ∧ ((masks x rs l (assigns rs []).length).take q.1).all (fun e => decide (andN (k + 1) e ≠ 0)) = q.2) (fun q => (masks x rs l (assigns rs []).length).length - q.1) (0, true) (⟨Nat.zero_le _, rfl⟩) (gh_le ⟨le_upd rfl trivial (le_upd rfl trivial (le_upd rfl trivial (le_upd rfl trivial (le_upd rfl trivial (le_upd rfl trivial (le_upd rfl trivial (le_nil _))))))), le_h0 _ _⟩)
          rintro ⟨i, o⟩ ⟨hi, ho⟩
          show W _ _ _ _ ⟨(Ab.upd (Ab.upd (Ab.upd (Ab.upd (Ab.upd (Ab.upd (Ab.upd (fun _ => .bot) 1 (.f (.sl l.length (flasF l)))) 7 (.f (.sl (masks x rs l (assigns rs []).length).length (natsF (masks x rs l (assigns rs []).length))))) 11 (.f (.sl bb.length (intsF bb)))) 12 (.f (bv true))) 13 (.f (iv ((k + 1) : Nat)))) 14 (.f (bv o))) 15 (.f (iv (i : Nat)))), (fun _ => none), 0⟩
          simp only at hi ho
          by_cases hic : i < (masks x rs l (assigns rs []).length).length
          · have hat := natsF_at hic
            have hlt := hmask _ (List.getElem_mem hic)
            have hs := all_succ (p := fun e => decide (andN (k + 1) e ≠ 0)) hic
            rw [ho] at hs
            have hne := natsF_ne (L := (masks x rs l (assigns rs []).length)) (by omega)
            cases o
            · repeat (first
    | (apply s_a TY; exact rfl)
    | (apply s_t; exact rfl; (first | assumption | omega))
    | apply w_seq
    | apply w_region
    | apply s_nil
    | apply t_norm
    | apply k_norm
    | apply w_block
    | apply w_skip
    | (apply w_condT; exact rfl; exact rfl)
    | (apply s_s; exact rfl)
    | (apply s_c TY; exact rfl; (first | omega | exact ⟨by omega, by (first | with_reducible assumption | ((with_reducible apply intsF_ne); omega) | ((with_reducible apply matF_ne); omega) | ((with_reducible apply flasF_ne); omega) | assumption)⟩)))
              exact ⟨(i + 1, false), ⟨by simp only; omega, hs⟩, by simp only; omega, gh_le ⟨le_upd rfl trivial (le_upd rfl trivial (le_upd rfl trivial (le_upd rfl trivial (le_upd rfl trivial (le_upd rfl trivial (le_upd rfl trivial (le_nil _))))))), le_h0 _ _⟩⟩
            · by_cases hz : andN (k + 1) (masks x rs l (assigns rs []).length)[i] = 0
              · repeat (first
    | (apply s_andN; exact rfl; exact rfl; exact rfl; exact rfl; omega; omega)
    | (apply s_a TY; exact rfl)
    | (apply s_t; exact rfl; (first | assumption | omega))
    | apply w_seq
    | apply w_region
    | apply s_nil
    | apply t_norm
    | apply k_norm
    | apply w_block
    | apply w_skip
    | (apply w_condT; exact rfl; exact rfl)
    | (apply s_c TY; exact rfl; (first | omega | exact ⟨by omega, by (first | with_reducible assumption | ((with_reducible apply intsF_ne); omega) | ((with_reducible apply matF_ne); omega) | ((with_reducible apply flasF_ne); omega) | assumption)⟩))
    | (apply s_l TY; exact rfl; (first | exact rfl | with_reducible assumption | ((with_reducible apply intsF_at); omega) | ((with_reducible apply matF_at); omega) | assumption)))
                exact ⟨(i + 1, false), ⟨by simp only; omega, by rw [hs, hz]; rfl⟩, by simp only; omega, gh_le ⟨le_upd rfl trivial (le_upd rfl trivial (le_upd rfl trivial (le_upd rfl trivial (le_upd rfl trivial (le_upd rfl trivial (le_upd rfl trivial (le_nil _))))))), le_h0 _ _⟩⟩
              · repeat (first
    | (apply s_andN; exact rfl; exact rfl; exact rfl; exact rfl; omega; omega)
    | (apply s_a TY; exact rfl)
    | (apply s_t; exact rfl; (first | assumption | omega))
    | (apply s_f; exact rfl; (first | assumption | omega))
    | apply w_seq
    | apply w_region
    | apply s_nil
    | apply t_norm
    | apply k_norm
    | apply w_block
    | apply w_skip
    | (apply w_condT; exact rfl; exact rfl)
    | (apply s_c TY; exact rfl; (first | omega | exact ⟨by omega, by (first | with_reducible assumption | ((with_reducible apply intsF_ne); omega) | ((with_reducible apply matF_ne); omega) | ((with_reducible apply flasF_ne); omega) | assumption)⟩))
    | (apply s_l TY; exact rfl; (first | exact rfl | with_reducible assumption | ((with_reducible apply intsF_at); omega) | ((with_reducible apply matF_at); omega) | assumption)))
                exact ⟨(i + 1, true), ⟨by simp only; omega, by rw [hs]; simpa using hz⟩, by simp only; omega, gh_le ⟨le_upd rfl trivial (le_upd rfl trivial (le_upd rfl trivial (le_upd rfl trivial (le_upd rfl trivial (le_upd rfl trivial (le_upd rfl trivial (le_nil _))))))), le_h0 _ _⟩⟩
          · have hie : i = (masks x rs l (assigns rs []).length).length := by omega
            subst hie
            rw [List.take_length] at ho
            have hop : opN (masks x rs l (assigns rs []).length) (k + 1) = o := ho
            have CH := chosen_s l (k + 1) h8 (by omega)
            have hbl := bitsL_len (k + 1) l.length
            cases o
            · have hb2 : bst (opN (masks x rs l (assigns rs []).length)) l.length (k + 1) = (some bb) := by rw [bst, hop]; exact hb
              repeat (first
    | (apply s_a TY; exact rfl)
    | (apply s_f; exact rfl; (first | assumption | omega))
    | apply w_seq
    | apply w_region
    | apply s_nil
    | apply t_norm
    | apply t_exit
    | apply k_hit
    | apply k_norm
    | apply w_exit
    | apply w_skip
    | (apply w_condF; exact rfl; exact rfl)
    | (apply s_k (CH); exact rfl)
    | (apply s_s; exact rfl)
    | (apply s_c TY; exact rfl; (first | omega | exact ⟨by omega, by (first | with_reducible assumption | ((with_reducible apply intsF_ne); omega) | ((with_reducible apply matF_ne); omega) | ((with_reducible apply flasF_ne); omega) | assumption)⟩)))
              exact ⟨(k + 1, (some bb)), ⟨by simp only; omega, hb2⟩, by simp only; omega, gh_le ⟨le_upd rfl trivial (le_upd rfl trivial (le_upd rfl trivial (le_upd rfl trivial (le_upd rfl trivial (le_nil _))))), le_h0 _ _⟩⟩
            · have hbst := bst_len _ _ _ _ hb
              by_cases hc1 : (bitsL (k + 1) l.length).length < bb.length
              · have hb2 : bst (opN (masks x rs l (assigns rs []).length)) l.length (k + 1) = (some (bitsL (k + 1) l.length)) := by
                  rw [bst, hop, hb]
                  exact if_pos hc1
                repeat (first
    | (apply s_a TY; exact rfl)
    | (apply s_t; exact rfl; (first | assumption | omega))
    | (apply s_f; exact rfl; (first | assumption | omega))
    | apply w_seq
    | apply w_region
    | apply s_nil
    | apply t_norm
    | apply t_exit
    | apply k_hit
    | apply k_norm
    | apply w_exit
    | (apply w_condT; exact rfl; exact rfl)
    | (apply w_condF; exact rfl; exact rfl)
    | (apply s_k (CH); exact rfl)
    | (apply s_s; exact rfl)
    | (apply s_c TY; exact rfl; (first | omega | exact ⟨by omega, by (first | with_reducible assumption | ((with_reducible apply intsF_ne); omega) | ((with_reducible apply matF_ne); omega) | ((with_reducible apply flasF_ne); omega) | assumption)⟩)))
                exact ⟨(k + 1, (some (bitsL (k + 1) l.length))), ⟨by simp only; omega, hb2⟩, by simp only; omega, gh_le ⟨le_upd rfl trivial (le_upd rfl trivial (le_upd rfl trivial (le_upd rfl trivial (le_upd rfl trivial (le_nil _))))), le_h0 _ _⟩⟩
              · by_cases hc2 : (bitsL (k + 1) l.length).length = bb.length
                · have LS := isLess_s (bitsL (k + 1) l.length) bb hc2 (by omega)
                  cases hls : lessL (bitsL (k + 1) l.length) bb
                  · rw [hls] at LS
                    have hb2 : bst (opN (masks x rs l (assigns rs []).length)) l.length (k + 1) = (some bb) := by
                      rw [bst, hop, hb]
                      show (if _ then _ else _) = _
                      rw [if_neg hc1, if_pos hc2, hls]
                    repeat (first
    | (apply s_a TY; exact rfl)
    | (apply s_t; exact rfl; (first | assumption | omega))
    | (apply s_f; exact rfl; (first | assumption | omega))
    | apply w_seq
    | apply w_region
    | apply s_nil
    | apply t_norm
    | apply t_exit
    | apply k_hit
    | apply k_norm
    | apply w_exit
    | apply w_skip
    | (apply w_condF; exact rfl; exact rfl)
    | (apply s_k (CH); exact rfl)
    | (apply s_k (LS); exact rfl)
    | (apply s_c TY; exact rfl; (first | omega | exact ⟨by omega, by (first | with_reducible assumption | ((with_reducible apply intsF_ne); omega) | ((with_reducible apply matF_ne); omega) | ((with_reducible apply flasF_ne); omega) | assumption)⟩)))
                    exact ⟨(k + 1, (some bb)), ⟨by simp only; omega, hb2⟩, by simp only; omega, gh_le ⟨le_upd rfl trivial (le_upd rfl trivial (le_upd rfl trivial (le_upd rfl trivial (le_upd rfl trivial (le_nil _))))), le_h0 _ _⟩⟩
                  · rw [hls] at LS
                    have hb2 : bst (opN (masks x rs l (assigns rs []).length)) l.length (k + 1) = (some (bitsL (k + 1) l.length)) := by
                      rw [bst, hop, hb]
                      show (if _ then _ else _) = _
                      rw [if_neg hc1, if_pos hc2, hls]
                    repeat (first
    | (apply s_a TY; exact rfl)
    | (apply s_t; exact rfl; (first | assumption | omega))
    | (apply s_f; exact rfl; (first | assumption | omega))
    | apply w_seq
    | apply w_region
    | apply s_nil
    | apply t_norm
    | apply t_exit
    | apply k_hit
    | apply k_norm
    | apply w_exit
    | (apply w_condT; exact rfl; exact rfl)
    | (apply w_condF; exact rfl; exact rfl)
    | (apply s_k (CH); exact rfl)
    | (apply s_k (LS); exact rfl)
    | (apply s_c TY; exact rfl; (first | omega | exact ⟨by omega, by (first | with_reducible assumption | ((with_reducible apply intsF_ne); omega) | ((with_reducible apply matF_ne); omega) | ((with_reducible apply flasF_ne); omega) | assumption)⟩)))
                    exact ⟨(k + 1, (some (bitsL (k + 1) l.length))), ⟨by simp only; omega, hb2⟩, by simp only; omega, gh_le ⟨le_upd rfl trivial (le_upd rfl trivial (le_upd rfl trivial (le_upd rfl trivial (le_upd rfl trivial (le_nil _))))), le_h0 _ _⟩⟩
                · have hb2 : bst (opN (masks x rs l (assigns rs []).length)) l.length (k + 1) = (some bb) := by
                    rw [bst, hop, hb]
                    show (if _ then _ else _) = _
                    rw [if_neg hc1, if_neg hc2]
                  repeat (first
    | (apply s_a TY; exact rfl)
    | (apply s_f; exact rfl; (first | assumption | omega))
    | apply w_seq
    | apply w_region
    | apply s_nil
    | apply t_norm
    | apply t_exit
    | apply k_hit
    | apply k_norm
    | apply w_exit
    | apply w_skip
    | (apply w_condF; exact rfl; exact rfl)
    | (apply s_k (CH); exact rfl)
    | (apply s_s; exact rfl)
    | (apply s_c TY; exact rfl; (first | omega | exact ⟨by omega, by (first | with_reducible assumption | ((with_reducible apply intsF_ne); omega) | ((with_reducible apply matF_ne); omega) | ((with_reducible apply flasF_ne); omega) | assumption)⟩)))
                  exact ⟨(k + 1, (some bb)), ⟨by simp only; omega, hb2⟩, by simp only; omega, gh_le ⟨le_upd rfl trivial (le_upd rfl trivial (le_upd rfl trivial (le_upd rfl trivial (le_upd rfl trivial (le_nil _))))), le_h0 _ _⟩⟩
        · have hke : k = pw l.length - 1 := by omega
          subst hke
          rw [hb]
          repeat (first
    | (apply s_shl1; exact rfl; exact rfl; exact rfl; exact rfl; omega)
    | (apply s_a TY; exact rfl)
    | (apply s_f; exact rfl; (first | assumption | omega))
    | apply w_seq
    | apply w_region
    | apply s_nil
    | apply t_norm
    | apply t_exit
    | apply k_hit
    | apply w_exit
    | apply w_ret
    | (apply w_condF; exact rfl; exact rfl))
          exact lv_ret (ret2 rfl (res_tmp rfl) (res_tmp rfl))
end Go.Proofs.YtienhiloecfgnaaDoor
namespace Go.Proofs.YtienhiloecfgnaaDoor
open Go Go.RowKit Go.Proofs Go.Shelf Go.Ab
theorem lessL_irr : ∀ a : List Int, lessL a a = false
  | [] => rfl
  | x :: a => by rw [lessL, if_pos rfl]; exact lessL_irr a
theorem lessL_trans : ∀ {a b c : List Int}, lessL a b = true → lessL b c = true → lessL a c = true
  | [], _, _, h, _ => by simp [lessL] at h
  | _ :: _, [], _, h, _ => by simp [lessL] at h
  | _ :: _, _ :: _, [], _, h => by simp [lessL] at h
  | x :: a, y :: b, z :: c, h1, h2 => by
    rw [lessL] at h1 h2 ⊢
    split at h1
    · rename_i e1; subst e1
      split at h2
      · rename_i e2; subst e2; rw [if_pos rfl]; exact lessL_trans h1 h2
      · rename_i e2; rw [if_neg e2]; exact h2
    · rename_i e1
      split at h2
      · rename_i e2; subst e2; rw [if_neg e1]; exact h1
      · simp only [decide_eq_true_eq] at h1 h2
        rw [if_neg (by omega)]; simp only [decide_eq_true_eq]; omega
theorem lessL_tot : ∀ {a b : List Int}, a.length = b.length → lessL a b = false → lessL b a = false → a = b
  | [], [], _, _, _ => rfl
  | [], _ :: _, h, _, _ => by simp at h
  | _ :: _, [], h, _, _ => by simp at h
  | x :: a, y :: b, h, h1, h2 => by
    rw [lessL] at h1 h2
    by_cases e : x = y
    · subst e
      rw [if_pos rfl] at h1 h2
      rw [lessL_tot (by simpa using h) h1 h2]
    · rw [if_neg e] at h1
      rw [if_neg (fun h => e h.symm)] at h2
      simp only [decide_eq_false_iff_not] at h1 h2
      omega
def ltK (a b : List Int) : Prop := a.length < b.length ∨ (a.length = b.length ∧ lessL a b = true)
theorem ltK_trans {a b c : List Int} (h1 : ltK a b) (h2 : ltK b c) : ltK a c := by
  rcases h1 with h1 | ⟨h1, l1⟩ <;> rcases h2 with h2 | ⟨h2, l2⟩
  · exact .inl (by omega)
  · exact .inl (by omega)
  · exact .inl (by omega)
  · exact .inr ⟨by omega, lessL_trans l1 l2⟩
theorem ltK_irr (a : List Int) : ¬ ltK a a := by
  rintro (h | ⟨_, h⟩)
  · omega
  · rw [lessL_irr] at h; cases h
theorem ltK_tot {a b : List Int} (h1 : ¬ ltK a b) (h2 : ¬ ltK b a) : a = b := by
  have hl : a.length = b.length := by
    have q1 : ¬ a.length < b.length := fun h => h1 (.inl h)
    have q2 : ¬ b.length < a.length := fun h => h2 (.inl h)
    omega
  refine lessL_tot hl ?_ ?_
  · cases e : lessL a b with
    | false => rfl
    | true => exact absurd (.inr ⟨hl, e⟩) h1
  · cases e : lessL b a with
    | false => rfl
    | true => exact absurd (.inr ⟨hl.symm, e⟩) h2
theorem bst_none {op : Nat → Bool} {n : Nat} : ∀ {k : Nat}, bst op n k = none → ∀ s, 1 ≤ s → s ≤ k → op s = false
  | 0, _, s, h1, h2 => by omega
  | k + 1, h, s, h1, h2 => by
    rw [bst] at h
    split at h
    · rename_i ho
      by_cases e : s = k + 1
      · subst e; exact ho
      · exact bst_none h s h1 (by omega)
    · split at h
      · cases h
      · split at h
        · cases h
        · split at h
          · split at h <;> cases h
          · cases h
theorem bst_some {op : Nat → Bool} {n : Nat} : ∀ {k : Nat} {b : List Int}, bst op n k = some b → (∃ s, 1 ≤ s ∧ s ≤ k ∧ op s = true ∧ b = bitsL s n) ∧ ∀ s, 1 ≤ s → s ≤ k → op s = true → ¬ ltK (bitsL s n) b
  | 0, _, h => by cases h
  | k + 1, b, h => by
    have old : ∀ {b : List Int}, bst op n k = some b → (ho : op (k + 1) = true → ¬ ltK (bitsL (k + 1) n) b) → (∃ s, 1 ≤ s ∧ s ≤ k + 1 ∧ op s = true ∧ b = bitsL s n) ∧ ∀ s, 1 ≤ s → s ≤ k + 1 → op s = true → ¬ ltK (bitsL s n) b := fun h ho => by
      obtain ⟨⟨s, h1, h2, h3, h4⟩, h5⟩ := bst_some h
      refine ⟨⟨s, h1, by omega, h3, h4⟩, fun t t1 t2 t3 => ?_⟩
      by_cases e : t = k + 1
      · subst e; exact ho t3
      · exact h5 t t1 (by omega) t3
    have new : ∀ {b : List Int}, bst op n k = some b → op (k + 1) = true → ltK (bitsL (k + 1) n) b → (∃ s, 1 ≤ s ∧ s ≤ k + 1 ∧ op s = true ∧ bitsL (k + 1) n = bitsL s n) ∧ ∀ s, 1 ≤ s → s ≤ k + 1 → op s = true → ¬ ltK (bitsL s n) (bitsL (k + 1) n) := fun h ho hl => by
      obtain ⟨_, h5⟩ := bst_some h
      refine ⟨⟨k + 1, by omega, by omega, ho, rfl⟩, fun t t1 t2 t3 => ?_⟩
      by_cases e : t = k + 1
      · subst e; exact ltK_irr _
      · exact fun hc => h5 t t1 (by omega) t3 (ltK_trans hc hl)
    rw [bst] at h
    split at h
    · rename_i ho
      exact old h (fun h => by rw [ho] at h; cases h)
    · rename_i ho
      split at h
      · rename_i hn
        cases h
        refine ⟨⟨k + 1, by omega, by omega, ho, rfl⟩, fun t t1 t2 t3 => ?_⟩
        by_cases e : t = k + 1
        · subst e; exact ltK_irr _
        · rw [bst_none hn t t1 (by omega)] at t3; cases t3
      · rename_i c hc
        split at h
        · rename_i h1
          cases h
          exact new hc ho (.inl h1)
        · rename_i h1
          split at h
          · rename_i h2
            split at h
            · rename_i h3
              cases h
              exact new hc ho (.inr ⟨h2, h3⟩)
            · rename_i h3
              cases h
              exact old hc (fun _ => by rintro (q | ⟨_, q⟩); exact h1 q; rw [h3] at q; cases q)
          · rename_i h2
            cases h
            exact old hc (fun _ => by rintro (q | ⟨q, _⟩); exact h1 q; exact h2 q)
theorem bitB_test (s i : Nat) : bitB s i = s.testBit i := by
  unfold bitB andP shrN
  rw [Nat.testBit_eq_decide_div_mod_eq, Nat.and_one_is_mod]
theorem mkM_test (f : Nat → Bool) : ∀ (n i : Nat), (mkM f n).testBit i = (decide (i < n) && f i)
  | 0, i => by simp [mkM]
  | k + 1, i => by
    have ih := mkM_test f k
    have hlt := mkM_lt f k
    rw [mkM]
    by_cases hf : f k = true
    · rw [if_pos hf, Nat.add_comm]
      unfold pw
      by_cases h : i < k
      · rw [Nat.testBit_two_pow_add_gt h, ih]
        simp [h, Nat.lt_succ_of_lt h]
      · by_cases e : i = k
        · subst e
          rw [Nat.testBit_two_pow_add_eq, ih]
          simp [hf]
        · rw [Nat.testBit_lt_two_pow]
          · simp; omega
          · have : 2 ^ (k + 1) ≤ 2 ^ i := Nat.pow_le_pow_right (by decide) (by omega)
            unfold pw at hlt
            rw [Nat.pow_succ] at this
            omega
    · rw [if_neg hf, Nat.add_zero, ih]
      by_cases e : i = k
      · subst e; simp [hf]
      · have : decide (i < k) = decide (i < k + 1) := by
          by_cases h : i < k
          · simp [h, Nat.lt_succ_of_lt h]
          · simp [h]; omega
        rw [this]
theorem andN_ne {s e : Nat} (he : e < 18446744073709551616) : andN s e ≠ 0 ↔ ∃ i, s.testBit i = true ∧ e.testBit i = false ∧ i < 64 := by
  have ht : ∀ i, (andN s e).testBit i = (s.testBit i && (decide (i < 64) && !e.testBit i)) := fun i => by
    unfold andN
    rw [Nat.testBit_and]
    have := Nat.testBit_two_pow_sub_succ (n := 64) (x := e) he i
    rw [← this]
    congr 2
    omega
  constructor
  · intro h
    refine Classical.byContradiction fun hc => h (Nat.eq_of_testBit_eq fun i => ?_)
    rw [ht, Nat.zero_testBit]
    cases h1 : s.testBit i with
    | false => rfl
    | true =>
      cases h2 : e.testBit i with
      | true => simp
      | false =>
        by_cases h3 : i < 64
        · exact absurd ⟨i, h1, h2, h3⟩ hc
        · simp [h3]
  · rintro ⟨i, h1, h2, h3⟩ h
    have := ht i
    rw [h, Nat.zero_testBit, h1, h2] at this
    simp [h3] at this
theorem bitB_high {s n i : Nat} (h : s < 2 ^ n) (hb : bitB s i = true) : i < n := by
  refine Classical.byContradiction fun hc => ?_
  have : 2 ^ n ≤ 2 ^ i := Nat.pow_le_pow_right (by decide) (by omega)
  rw [bitB_test, Nat.testBit_lt_two_pow (by omega)] at hb
  cases hb
theorem mem_bits {s n : Nat} {z : Int} : z ∈ bitsL s n ↔ ∃ i : Nat, i < n ∧ bitB s i = true ∧ z = i := by
  unfold bitsL
  simp only [List.mem_map, List.mem_filter, List.mem_range]
  constructor
  · rintro ⟨i, ⟨h1, h2⟩, rfl⟩; exact ⟨i, h1, h2, rfl⟩
  · rintro ⟨i, h1, h2, rfl⟩; exact ⟨i, ⟨h1, h2⟩, rfl⟩
noncomputable def opL (x : Grid) (rs : List Rng) (l : List Flash) (set : List Int) : Bool := !((allMo x rs l).any (covB set))
theorem conK_def (x : Grid) (rs : List Rng) (l : List Flash) (k : Nat) : conK x rs l k = (setsL l.length k [] 0).find? (opL x rs l) := rfl
theorem op_bits {x : Grid} {rs : List Rng} {l : List Flash} (h8 : l.length ≤ 8) {s : Nat} (hs : s < 2 ^ l.length) : opN (masks x rs l (assigns rs []).length) s = opL x rs l (bitsL s l.length) := by
  have hin : ∀ i ∈ bitsL s l.length, 0 ≤ i ∧ i < (l.length : Int) := fun z hz => by
    obtain ⟨i, h1, _, rfl⟩ := mem_bits.1 hz
    omega
  have p8 : pw 8 = 256 := rfl
  have key : ∀ ds, decide (andN s (maskN x l ds l.length) ≠ 0) = !covB (bitsL s l.length) (mo x l ds) := fun ds => by
    rw [cov_sub hin]
    have hlt := mkM_lt (fun j => expB x ds (l.getD j flash0)) l.length
    have hle := pw_le h8
    have hne := andN_ne (s := s) (e := maskN x l ds l.length) (by unfold maskN; omega)
    rw [Bool.eq_iff_iff]
    simp only [decide_eq_true_eq, Bool.not_eq_true']
    rw [hne]
    constructor
    · rintro ⟨i, h1, h2, _⟩
      have hi := bitB_high hs ((bitB_test s i).trans h1)
      have h3 : maskN x l ds l.length = mkM (fun j => expB x ds (l.getD j flash0)) l.length := rfl
      rw [h3, mkM_test] at h2
      simp only [hi, decide_true, Bool.true_and] at h2
      rw [← Bool.not_eq_true, List.all_eq_true]
      intro hall
      have := hall (l.getD i flash0) (List.mem_map.2 ⟨(i : Int), mem_bits.2 ⟨i, hi, (bitB_test s i).trans h1, rfl⟩, by simp⟩)
      rw [h2] at this; cases this
    · intro h
      rw [← Bool.not_eq_true, List.all_eq_true] at h
      refine Classical.byContradiction fun hc => h fun f hf => ?_
      obtain ⟨z, hz, rfl⟩ := List.mem_map.1 hf
      obtain ⟨i, hi, hb, rfl⟩ := mem_bits.1 hz
      rw [Int.toNat_natCast]
      cases e : expB x ds (l.getD i flash0) with
      | true => rfl
      | false =>
        refine absurd ⟨i, (bitB_test s i).symm.trans hb, ?_, by omega⟩ hc
        have h3 : maskN x l ds l.length = mkM (fun j => expB x ds (l.getD j flash0)) l.length := rfl
        rw [h3, mkM_test, e]; simp
  unfold opN opL masks allMo news
  rw [List.take_length, List.all_map, List.any_map, List.not_any_eq_all_not]
  congr 1
  funext ds
  exact key ds
def setsOk (n : Nat) : Bool := ((List.range (n + 1)).all fun k => decide ((setsL n k [] 0).Pairwise fun a b => lessL a b = true) && (setsL n k [] 0).all fun s => (List.range (2 ^ n)).any fun m => s == bitsL m n) && (List.range (2 ^ n)).all fun m => (setsL n (bitsL m n).length [] 0).contains (bitsL m n)
theorem sets_ok : ∀ n, n ≤ 5 → setsOk n = true := by
  intro n h
  have : n = 0 ∨ n = 1 ∨ n = 2 ∨ n = 3 ∨ n = 4 ∨ n = 5 := by omega
  rcases this with rfl | rfl | rfl | rfl | rfl | rfl <;> decide +kernel
theorem sets_in {n : Nat} (h : n ≤ 5) {m : Nat} (hm : m < 2 ^ n) : bitsL m n ∈ setsL n (bitsL m n).length [] 0 := by
  have := sets_ok n h
  unfold setsOk at this
  rw [Bool.and_eq_true] at this
  have := List.all_eq_true.1 this.2 m (List.mem_range.2 hm)
  simpa using this
theorem sets_num {n k : Nat} (h : n ≤ 5) (hk : k ≤ n) {s : List Int} (hs : s ∈ setsL n k [] 0) : ∃ m, m < 2 ^ n ∧ s = bitsL m n := by
  have := sets_ok n h
  unfold setsOk at this
  rw [Bool.and_eq_true] at this
  have := List.all_eq_true.1 this.1 k (List.mem_range.2 (by omega))
  rw [Bool.and_eq_true] at this
  have := List.all_eq_true.1 this.2 s hs
  obtain ⟨m, h1, h2⟩ := List.any_eq_true.1 this
  exact ⟨m, List.mem_range.1 h1, by simpa using h2⟩
theorem sets_ord {n k : Nat} (h : n ≤ 5) (hk : k ≤ n) : (setsL n k [] 0).Pairwise fun a b => lessL a b = true := by
  have := sets_ok n h
  unfold setsOk at this
  rw [Bool.and_eq_true] at this
  have := List.all_eq_true.1 this.1 k (List.mem_range.2 (by omega))
  rw [Bool.and_eq_true] at this
  simpa using this.1
theorem find_first {L : List (List Int)} {p : List Int → Bool} {s t : List Int} (hp : L.Pairwise fun a b => lessL a b = true) (hs : L.find? p = some s) (ht : t ∈ L) (hpt : p t = true) : lessL t s = false := by
  obtain ⟨_, L1, L2, rfl, hb⟩ := List.find?_eq_some_iff_append.1 hs
  rcases List.mem_append.1 ht with h | h
  · have := hb t h
    rw [hpt] at this; cases this
  · rcases List.mem_cons.1 h with rfl | h
    · exact lessL_irr _
    · have h1 := (List.pairwise_cons.1 (List.pairwise_append.1 hp).2.1).1 t h
      cases e : lessL t s with
      | false => rfl
      | true =>
        have := lessL_trans h1 e
        rw [lessL_irr] at this; cases this
theorem assigns_pos {rs : List Rng} (hr : ∀ r ∈ rs, 1 ≤ r.lo ∧ r.lo ≤ r.hi ∧ r.hi ≤ 1000) : 0 < (assigns rs []).length := by
  have := lev_mono hr rs.length 0 (by omega)
  have e : (lev rs 0).length = 1 := rfl
  omega
theorem op_nil {x : Grid} {rs : List Rng} {l : List Flash} (K : FlashesOk x rs l) : opL x rs l [] = false := by
  unfold opL
  have h : 0 < (modelsM x rs (subL l [])).length := by
    rw [models_eq]
    have e : ((assigns rs []).filter fun ds => (subL l []).all (expB x ds)) = assigns rs [] := List.filter_eq_self.2 fun ds _ => rfl
    rw [e]
    exact assigns_pos K.k.rng
  rw [(any_cov (s := []) (fun _ h => by cases h)).2 h]
  rfl
theorem bits_nil (n : Nat) : bitsL 0 n = [] := by
  unfold bitsL
  have : ((List.range n).filter (bitB 0)) = [] := List.filter_eq_nil_iff.2 fun i _ => by rw [bitB_test, Nat.zero_testBit]; exact Bool.false_ne_true
  rw [this]; rfl
noncomputable def refCon (x : Grid) (rs : List Rng) (l : List Flash) : Option (List Int) := bst (opN (masks x rs l (assigns rs []).length)) l.length (pw l.length - 1)
theorem refCon_none {x : Grid} {rs : List Rng} {l : List Flash} (h5 : l.length ≤ 5) (hn : ∀ j, j ≤ l.length → conK x rs l j = none) : refCon x rs l = none := by
  have hp := pw_pos l.length
  cases e : refCon x rs l with
  | none => rfl
  | some b =>
    obtain ⟨⟨s, h1, h2, h3, _⟩, _⟩ := bst_some e
    have hs : s < 2 ^ l.length := by unfold pw at h2 hp; omega
    rw [op_bits (by omega) hs] at h3
    have hc := hn _ (bitsL_len s l.length)
    rw [conK_def] at hc
    have := List.find?_eq_none.1 hc _ (sets_in h5 hs)
    exact absurd h3 this
theorem refCon_some {x : Grid} {rs : List Rng} {l : List Flash} (K : FlashesOk x rs l) (h5 : l.length ≤ 5) {k : Nat} {s : List Int} (hk : k ≤ l.length) (hs : conK x rs l k = some s) (hb : ∀ j, j < k → conK x rs l j = none) : refCon x rs l = some s := by
  have hp := pw_pos l.length
  have hls := (conK_some hs).2.1
  rw [conK_def] at hs
  have hop : opL x rs l s = true := List.find?_some hs
  obtain ⟨m, hm, rfl⟩ := sets_num h5 hk (List.mem_of_find?_eq_some hs)
  have hm0 : m ≠ 0 := fun e => by
    subst e
    rw [bits_nil, op_nil K] at hop; cases hop
  have hpm : m ≤ pw l.length - 1 := by unfold pw; omega
  have hopm : opN (masks x rs l (assigns rs []).length) m = true := by rw [op_bits (by omega) hm]; exact hop
  cases e : refCon x rs l with
  | none =>
    have := bst_none e m (by omega) hpm
    rw [hopm] at this; cases this
  | some b =>
    obtain ⟨⟨t, h1, h2, h3, rfl⟩, h5'⟩ := bst_some e
    have ht : t < 2 ^ l.length := by unfold pw at h2 hp; omega
    rw [op_bits (by omega) ht] at h3
    refine congrArg some (ltK_tot ?_ (h5' m (by omega) hpm hopm))
    rintro (q | ⟨q, q2⟩)
    · have hc := hb _ (by rw [← hls]; exact q)
      rw [conK_def] at hc
      exact absurd h3 (List.find?_eq_none.1 hc _ (sets_in h5 ht))
    · have hin := sets_in h5 ht
      rw [q, hls] at hin
      rw [find_first (sets_ord h5 hk) hs hin h3] at q2
      cases q2
end Go.Proofs.YtienhiloecfgnaaDoor
namespace Go.Proofs.YtienhiloecfgnaaDoor
open Go Go.RowKit Go.Proofs Go.Shelf Go.Ab
end Go.Proofs.YtienhiloecfgnaaDoor
namespace Go.Proofs.YtienhiloecfgnaaDoor
open Go Go.RowKit Go.Proofs Go.Shelf Go.Ab
set_option maxRecDepth 100000 in
theorem FlashesErr_s (x : Grid) (rs : List Rng) (l : List Flash) (hc : (checkClass x rs).2 = 0) (hl : l.length ≤ 1000) : Summ Tryd.prog GG 66 [classF x rs, .sl l.length (flasF l)] (iv (checkFlashes x rs l).2) := by
  have RF := RFlashes_s x rs l hc hl
  refine summW Tryd.func66 rfl rfl 14 rfl (by simp) (fun M0 => ?_)
  repeat (first
    | (apply s_a TY; exact rfl)
    | apply w_seq
    | apply w_region
    | apply s_nil
    | apply t_norm
    | apply w_ret
    | (apply s_k (RF); exact rfl))
  exact lv_ret (ret1 rfl (res_tmp rfl))
end Go.Proofs.YtienhiloecfgnaaDoor
namespace Go.Proofs.YtienhiloecfgnaaDoor
open Go Go.RowKit Go.Proofs Go.Shelf Go.Ab
theorem light_few {x : Grid} {rs : List Rng} (h : lightB x rs = true) : (x.layers.length ≤ 8 ∧ x.tilt.length ≤ 10) ∧ rs.length ≤ 8 := by
  unfold lightB at h
  simp only [Bool.and_eq_true, decide_eq_true_eq] at h
  exact ⟨fewB_true h.1.1, h.1.2⟩
end Go.Proofs.YtienhiloecfgnaaDoor
namespace Go.Proofs.YtienhiloecfgnaaDoor
open Go Go.RowKit Go.Proofs Go.Shelf Go.Ab
theorem ner_eq {x y : Operand} {a b : Rng} (h : a = b) : ∀ w, (do eqGuard .neq 101 x y (.agg #[.int .i64 a.lo, .int .i64 a.hi]) (.agg #[.int .i64 b.lo, .int .i64 b.hi]); binOp .neq 101 (.agg #[.int .i64 a.lo, .int .i64 a.hi]) (.agg #[.int .i64 b.lo, .int .i64 b.hi]) : Sem Value).run Tryd.prog w = .ok (.bool false) w := fun w => by
  have hg : Tryd.prog.eqGuardType Tryd.prog.depth 101 = false := by kernel_rfl
  have := neq_rng a b w
  rw [decide_eq_true h] at this
  simp [eqGuard, hg, this]
theorem con_or (x : Grid) (rs : List Rng) (l : List Flash) : (∀ j, j ≤ l.length → conK x rs l j = none) ∨ ∃ n s, n ≤ l.length ∧ conK x rs l n = some s ∧ ∀ j, j < n → conK x rs l j = none := by
  by_cases h : ∀ j, j ≤ l.length → conK x rs l j = none
  · exact .inl h
  · right
    have hex : ∃ n, n ≤ l.length ∧ ∃ s, conK x rs l n = some s := by
      refine Classical.byContradiction fun hc => h fun j hj => ?_
      cases e : conK x rs l j with
      | none => rfl
      | some s => exact absurd ⟨j, hj, s, e⟩ hc
    obtain ⟨n, hn⟩ := hex
    induction n using Nat.strongRecOn with
    | _ n ih =>
      by_cases hj : ∃ j, j < n ∧ ∃ s, conK x rs l j = some s
      · obtain ⟨j, hjn, hj⟩ := hj
        exact ih j hjn ⟨by omega, hj⟩
      · obtain ⟨h1, s, h2⟩ := hn
        exact ⟨n, s, h1, h2, fun j hjn => by
          cases e : conK x rs l j with
          | none => rfl
          | some s => exact absurd ⟨j, hjn, s, e⟩ hj⟩
set_option maxRecDepth 100000 in
set_option maxHeartbeats 4000000 in
theorem IceProofs_early (x : Grid) (rs : List Rng) (l : List Flash) (h : lightB x rs = false ∨ (lightB x rs = true ∧ 5 < l.length)) : Summ Tryd.prog GG 13 [classF x rs, .sl l.length (flasF l)] (bv true) := by
  have LT := light_s x rs
  refine summW Tryd.func13 rfl rfl 248 rfl (by simp) (fun M0 => ?_)
  rcases h with h | ⟨h, h1⟩
  · rw [h] at LT
    repeat (first
    | (apply s_a TY; exact rfl)
    | apply w_seq
    | apply w_region
    | apply s_nil
    | apply t_norm
    | apply t_ret
    | apply w_ret
    | apply w_skip
    | (apply w_condT; exact rfl; exact rfl)
    | (apply w_condF; exact rfl; exact rfl)
    | (apply s_k (LT); exact rfl)
    | (apply s_k (awake_s); exact rfl)
    | (apply s_s; exact rfl))
    exact lv_ret (ret1 rfl (res_tmp rfl))
  · rw [h] at LT
    repeat (first
    | (apply s_a TY; exact rfl)
    | (apply s_t; exact rfl; (first | assumption | omega))
    | apply w_seq
    | apply w_region
    | apply s_nil
    | apply t_norm
    | apply t_ret
    | apply w_ret
    | apply w_skip
    | (apply w_condT; exact rfl; exact rfl)
    | (apply w_condF; exact rfl; exact rfl)
    | (apply s_k (LT); exact rfl)
    | (apply s_k (awake_s); exact rfl))
    exact lv_ret (ret1 rfl (res_tmp rfl))
set_option maxRecDepth 100000 in
set_option maxHeartbeats 8000000 in
theorem IceProofs_err (x : Grid) (rs : List Rng) (l : List Flash) (hname : ∀ f ∈ l, f.name.size ≤ 9223372036854775807) (h : lightB x rs = true) (h5 : l.length ≤ 5) (hf : (checkFlashes x rs l).2 ≠ 0) : Summ Tryd.prog GG 13 [classF x rs, .sl l.length (flasF l)] (bv true) := by
  obtain ⟨i23, hi23, _, hz23, _⟩ := info_parts Tryd.info23
  have LT := light_s x rs
  rw [h] at LT
  obtain ⟨⟨f1, f2⟩, h8⟩ := light_few h
  have b : Small x rs l := ⟨by omega, by omega, by omega, by omega, hname⟩
  have CC := CopyClass_s x rs (by omega) (by omega) (by omega)
  have CF := CopyFlashes_s l (by omega)
  have CE := ClassErr_s x rs (by omega)
  have RO := RangesOf_err x rs l b hf
  have DI := Disagree_err x rs l b hf
  have CO := Contra_err x rs l b hf
  refine summW Tryd.func13 rfl rfl 248 rfl (by simp) (fun M0 => ?_)
  by_cases hc : (checkClass x rs).2 = 0
  · have FE := FlashesErr_s x rs l hc (by omega)
    rw [hc] at CE
    repeat (first
    | (refine s_ghost (o := ⟨some 8, _, _, _, _, _⟩) rfl (gh_box 0 (cs := [.v (.slice none 0 0), .v (.slice none 0 0)]) rfl rfl) ?_)
    | (apply s_idxAw Tryd.underlying119 hi23 hz23; exact rfl; exact rfl; exact rfl; exact rfl; decide; decide)
    | (apply s_a TY; exact rfl)
    | (apply s_t; exact rfl; (first | assumption | omega))
    | (apply s_f; exact rfl; (first | assumption | omega))
    | apply w_seq
    | apply w_region
    | apply s_nil
    | apply t_norm
    | apply t_ret
    | apply w_ret
    | apply w_skip
    | (apply w_condT; exact rfl; exact rfl)
    | (apply w_condF; exact rfl; exact rfl)
    | (apply s_k (LT); exact rfl)
    | (apply s_k (CC); exact rfl)
    | (apply s_k (CF); exact rfl)
    | (apply s_k (RO); exact rfl)
    | (apply s_k (DI); exact rfl)
    | (apply s_k (CO); exact rfl)
    | (apply s_k (CE); exact rfl)
    | (apply s_k (FE); exact rfl)
    | (apply s_k (awake_s); exact rfl)
    | (apply s_c TY; exact rfl; (first | omega | exact ⟨by omega, by (first | with_reducible assumption | ((with_reducible apply intsF_ne); omega) | ((with_reducible apply matF_ne); omega) | ((with_reducible apply rngsF_ne); omega) | assumption)⟩))
    | (apply s_alloc TY; exact rfl; exact rfl; exact rfl)
    | (apply s_store TY; exact rfl; exact rfl; exact rfl; exact rfl; exact rfl; exact rfl))
    exact lv_ret (ret1 rfl (res_tmp rfl))
  · have e := fE_cls (l := l) hc
    rw [e] at RO DI CO
    repeat (first
    | (refine s_ghost (o := ⟨some 8, _, _, _, _, _⟩) rfl (gh_box 0 (cs := [.v (.slice none 0 0), .v (.slice none 0 0)]) rfl rfl) ?_)
    | (apply s_idxAw Tryd.underlying119 hi23 hz23; exact rfl; exact rfl; exact rfl; exact rfl; decide; decide)
    | (apply s_a TY; exact rfl)
    | (apply s_t; exact rfl; (first | assumption | omega))
    | (apply s_f; exact rfl; (first | assumption | omega))
    | apply w_seq
    | apply w_region
    | apply s_nil
    | apply t_norm
    | apply t_ret
    | apply w_ret
    | apply w_skip
    | (apply w_condT; exact rfl; exact rfl)
    | (apply w_condF; exact rfl; exact rfl)
    | (apply s_k (LT); exact rfl)
    | (apply s_k (CC); exact rfl)
    | (apply s_k (CF); exact rfl)
    | (apply s_k (RO); exact rfl)
    | (apply s_k (DI); exact rfl)
    | (apply s_k (CO); exact rfl)
    | (apply s_k (CE); exact rfl)
    | (apply s_k (awake_s); exact rfl)
    | (apply s_c TY; exact rfl; (first | omega | exact ⟨by omega, by (first | with_reducible assumption | ((with_reducible apply intsF_ne); omega) | ((with_reducible apply matF_ne); omega) | ((with_reducible apply rngsF_ne); omega) | assumption)⟩))
    | (apply s_alloc TY; exact rfl; exact rfl; exact rfl)
    | (apply s_store TY; exact rfl; exact rfl; exact rfl; exact rfl; exact rfl; exact rfl))
    exact lv_ret (ret1 rfl (res_tmp rfl))
set_option maxRecDepth 100000 in
set_option maxHeartbeats 8000000 in
theorem IceProofs_con (x : Grid) (rs : List Rng) (l : List Flash) (hname : ∀ f ∈ l, f.name.size ≤ 9223372036854775807) (h : lightB x rs = true) (h5 : l.length ≤ 5) (hf : (checkFlashes x rs l).2 = 0) (n : Nat) (s : List Int) (hn : n ≤ l.length) (hs : conK x rs l n = some s) (hbef : ∀ j, j < n → conK x rs l j = none) : Summ Tryd.prog GG 13 [classF x rs, .sl l.length (flasF l)] (bv true) := by
  obtain ⟨i23, hi23, _, hz23, _⟩ := info_parts Tryd.info23
  have LT := light_s x rs
  rw [h] at LT
  obtain ⟨⟨f1, f2⟩, h8⟩ := light_few h
  have b : Small x rs l := ⟨by omega, by omega, by omega, by omega, hname⟩
  have CC := CopyClass_s x rs (by omega) (by omega) (by omega)
  have CF := CopyFlashes_s l (by omega)
  have CE := ClassErr_s x rs (by omega)
  have hc : (checkClass x rs).2 = 0 := Classical.byContradiction fun hc => by rw [fE_cls hc] at hf; exact hc hf
  have FE := FlashesErr_s x rs l hc (by omega)
  rw [hc] at CE
  rw [hf] at FE
  have K := flashesOk hf
  have MS := Models_s x rs l K
  have RC := RContra_s x rs l K
  have hm300 : (modelsM x rs l).length ≤ 300 := by rw [← keepM_all]; exact Nat.le_trans (keepM_len x rs l _) K.k.cnt
  obtain ⟨ok, hsl, hz⟩ := conK_some hs
  have hM0 := models_part ok hz
  have RO := RangesOf_none x rs l b hf hM0
  have DI := Disagree_few x rs l b hf (by omega)
  have CO := Contra_some x rs l b hf n s hn hs hbef
  have e := refCon_some K h5 hn hs hbef
  unfold refCon at e
  rw [e] at RC
  replace RC : Summ Tryd.prog GG 78 [classF x rs, .sl l.length (flasF l)] (.tup [.sl s.length (intsF s), bv true]) := RC
  have IN := Ints_s s s (by omega)
  rw [decide_eq_true rfl] at IN
  refine summW Tryd.func13 rfl rfl 248 rfl (by simp) (fun M0 => ?_)
  repeat (first
    | (refine s_ghost (o := ⟨some 8, _, _, _, _, _⟩) rfl (gh_box 0 (cs := [.v (.slice none 0 0), .v (.slice none 0 0)]) rfl rfl) ?_)
    | (apply s_neb Tryd.underlying4; exact rfl; exact rfl; exact rfl; exact rfl)
    | (apply s_idxAw Tryd.underlying119 hi23 hz23; exact rfl; exact rfl; exact rfl; exact rfl; decide; decide)
    | (apply s_a TY; exact rfl)
    | (apply s_t; exact rfl; (first | assumption | omega))
    | (apply s_f; exact rfl; (first | assumption | omega))
    | apply w_seq
    | apply w_region
    | (apply w_draw (id := 17) 42 rfl (by kernel_rfl))
    | apply s_nil
    | apply t_norm
    | apply t_ret
    | apply w_ret
    | apply w_skip
    | (apply w_condT; exact rfl; exact rfl)
    | (apply w_condF; exact rfl; exact rfl)
    | (apply s_k (LT); exact rfl)
    | (apply s_k (CC); exact rfl)
    | (apply s_k (CF); exact rfl)
    | (apply s_k (RO); exact rfl)
    | (apply s_k (DI); exact rfl)
    | (apply s_k (CO); exact rfl)
    | (apply s_k (CE); exact rfl)
    | (apply s_k (FE); exact rfl)
    | (apply s_k (MS); exact rfl)
    | (apply s_k (RC); exact rfl)
    | (apply s_k (IN); exact rfl)
    | (apply s_k (awake_s); exact rfl)
    | (apply s_s; exact rfl)
    | (apply s_c TY; exact rfl; (first | omega | exact ⟨by omega, by (first | with_reducible assumption | ((with_reducible apply intsF_ne); omega) | ((with_reducible apply matF_ne); omega) | ((with_reducible apply rngsF_ne); omega) | assumption)⟩))
    | (apply s_alloc TY; exact rfl; exact rfl; exact rfl)
    | (apply s_store TY; exact rfl; exact rfl; exact rfl; exact rfl; exact rfl; exact rfl))
  exact lv_ret (ret1 rfl (res_tmp rfl))
end Go.Proofs.YtienhiloecfgnaaDoor
namespace Go.Proofs.YtienhiloecfgnaaDoor
open Go Go.RowKit Go.Proofs Go.Shelf Go.Ab
set_option maxRecDepth 100000 in
set_option maxHeartbeats 8000000 in
theorem IceProofs_one (x : Grid) (rs : List Rng) (l : List Flash) (hname : ∀ f ∈ l, f.name.size ≤ 9223372036854775807) (h : lightB x rs = true) (h5 : l.length ≤ 5) (hf : (checkFlashes x rs l).2 = 0) (hnone : ∀ j, j ≤ l.length → conK x rs l j = none) (h1 : (modelsM x rs l).length < 2) : Summ Tryd.prog GG 13 [classF x rs, .sl l.length (flasF l)] (bv true) := by
  obtain ⟨i23, hi23, _, hz23, _⟩ := info_parts Tryd.info23
  have LT := light_s x rs
  rw [h] at LT
  obtain ⟨⟨f1, f2⟩, h8⟩ := light_few h
  have b : Small x rs l := ⟨by omega, by omega, by omega, by omega, hname⟩
  have CC := CopyClass_s x rs (by omega) (by omega) (by omega)
  have CF := CopyFlashes_s l (by omega)
  have CE := ClassErr_s x rs (by omega)
  have hc : (checkClass x rs).2 = 0 := Classical.byContradiction fun hc => by rw [fE_cls hc] at hf; exact hc hf
  have FE := FlashesErr_s x rs l hc (by omega)
  rw [hc] at CE
  rw [hf] at FE
  have K := flashesOk hf
  have MS := Models_s x rs l K
  have RC := RContra_s x rs l K
  have hm300 : (modelsM x rs l).length ≤ 300 := by rw [← keepM_all]; exact Nat.le_trans (keepM_len x rs l _) K.k.cnt
  have hpos : 0 < (modelsM x rs l).length := by
    have := conK_none (x := x) (rs := rs) (s := fullS l.length) (by rw [(full_ok _).2]; exact hnone _ (Nat.le_refl _)) (full_ok _).1
    rwa [sub_full] at this
  have hrl := K.k.len
  have v := K.k.v
  have l6 := v.l6
  have hrg : (rangesR (modelsM x rs l) rs.length).length = rs.length := rangesR_len _ _
  have RO := RangesOf_ok x rs l b hf hpos
  have CO := Contra_none x rs l b hf hnone
  have e := refCon_none h5 hnone
  unfold refCon at e
  rw [e] at RC
  replace RC : Summ Tryd.prog GG 78 [classF x rs, .sl l.length (flasF l)] (.tup [.v (.slice none 0 0), bv false]) := RC
  have DI := Disagree_few x rs l b hf h1
  have IN := True.intro
  refine summW Tryd.func13 rfl rfl 248 rfl (by simp) (fun M0 => ?_)
  repeat (first
    | (refine s_ghost (o := ⟨some 8, _, _, _, _, _⟩) rfl (gh_box 0 (cs := [.v (.slice none 0 0), .v (.slice none 0 0)]) rfl rfl) ?_)
    | (apply s_neb Tryd.underlying4; exact rfl; exact rfl; exact rfl; exact rfl)
    | (apply s_idxAw Tryd.underlying119 hi23 hz23; exact rfl; exact rfl; exact rfl; exact rfl; decide; decide)
    | (apply s_a TY; exact rfl)
    | (apply s_t; exact rfl; (first | assumption | omega))
    | (apply s_f; exact rfl; (first | assumption | omega))
    | apply w_seq
    | apply w_region
    | (apply w_draw (id := 17) 42 rfl (by kernel_rfl))
    | apply s_nil
    | apply t_norm
    | apply w_block
    | apply w_skip
    | (apply w_condT; exact rfl; exact rfl)
    | (apply w_condF; exact rfl; exact rfl)
    | (apply s_k (LT); exact rfl)
    | (apply s_k (CC); exact rfl)
    | (apply s_k (CF); exact rfl)
    | (apply s_k (RO); exact rfl)
    | (apply s_k (DI); exact rfl)
    | (apply s_k (CO); exact rfl)
    | (apply s_k (CE); exact rfl)
    | (apply s_k (FE); exact rfl)
    | (apply s_k (MS); exact rfl)
    | (apply s_k (RC); exact rfl)
    | (apply s_k (awake_s); exact rfl)
    | (apply s_s; exact rfl)
    | (apply s_c TY; exact rfl; (first | omega | exact ⟨by omega, by (first | with_reducible assumption | ((with_reducible apply intsF_ne); omega) | ((with_reducible apply matF_ne); omega) | ((with_reducible apply rngsF_ne); omega) | assumption)⟩))
    | (apply s_alloc TY; exact rfl; exact rfl; exact rfl)
    | (apply s_store TY; exact rfl; exact rfl; exact rfl; exact rfl; exact rfl; exact rfl))
  apply w_loop (fun i : Nat => ⟨(Ab.upd (Ab.upd (Ab.upd (fun _ => .bot) 5 (.f (.sl (rangesR (modelsM x rs l) rs.length).length (rngsF (rangesR (modelsM x rs l) rs.length))))) 12 (.f (.sl (modelsM x rs l).length (matF (modelsM x rs l))))) 15 (.f (iv (i : Nat)))), (fun _ => none), 0⟩) (fun i => i ≤ rs.length) (fun i => rs.length - i) 0 (Nat.zero_le _) (gh_le ⟨le_upd rfl trivial (le_upd rfl trivial (le_upd rfl trivial (le_nil _))), le_h0 _ _⟩)
  intro i hi
  by_cases hic : i < rs.length
  · have hir : i < (rangesR (modelsM x rs l) rs.length).length := by omega
    have hl0 : (modelsM x rs l)[0].length = rs.length := modelsM_rows (List.getElem_mem hpos)
    have hi0 : i < (modelsM x rs l)[0].length := by omega
    have hx0 : i < (modelsM x rs l)[0].length ∧ intsF (modelsM x rs l)[0] ≠ [] := ⟨hi0, intsF_ne (by omega)⟩
    have hx1 : (intsF (modelsM x rs l)[0])[i * 1]? = some (iv (modelsM x rs l)[0][i]) := intsF_at hi0
    have ha0 := atI_eq hpos (show i < (modelsM x rs l)[0].length by omega)
    repeat (first
    | (apply s_c TY; exact rfl; exact hx0)
    | (apply s_l TY; exact rfl; exact hx1)
    | (apply s_a TY; exact rfl)
    | (apply s_t; exact rfl; (first | assumption | omega))
    | apply w_seq
    | apply w_region
    | (apply w_draw (id := 26) 13 rfl (by kernel_rfl))
    | apply s_nil
    | apply t_norm
    | apply w_block
    | apply w_skip
    | (apply w_condT; exact rfl; exact rfl)
    | (apply s_c TY; exact rfl; (first | omega | exact ⟨by omega, by (first | with_reducible assumption | ((with_reducible apply intsF_ne); omega) | ((with_reducible apply matF_ne); omega) | ((with_reducible apply rngsF_ne); omega) | assumption)⟩))
    | (apply s_l TY; exact rfl; (first | exact rfl | with_reducible assumption | ((with_reducible apply intsF_at); omega) | ((with_reducible apply matF_at); omega) | assumption)))
    apply w_loop (fun k : Nat => ⟨(Ab.upd (Ab.upd (Ab.upd (Ab.upd (Ab.upd (Ab.upd (fun _ => .bot) 5 (.f (.sl (rangesR (modelsM x rs l) rs.length).length (rngsF (rangesR (modelsM x rs l) rs.length))))) 12 (.f (.sl (modelsM x rs l).length (matF (modelsM x rs l))))) 15 (.f (iv (i : Nat)))) 16 (.f (iv (loK (modelsM x rs l) i k)))) 17 (.f (iv (hiK (modelsM x rs l) i k)))) 18 (.f (iv (k : Nat)))), (fun _ => none), 0⟩) (fun k => k ≤ (modelsM x rs l).length) (fun k => (modelsM x rs l).length - k) 0 (Nat.zero_le _) (gh_le ⟨le_upd rfl trivial (le_upd (by rw [hiK, ha0]; rfl) trivial (le_upd (by rw [loK, ha0]; rfl) trivial (le_upd rfl trivial (le_upd rfl trivial (le_upd rfl trivial (le_nil _)))))), le_h0 _ _⟩)
    intro k hk
    by_cases hkc : k < (modelsM x rs l).length
    · have hlk : (modelsM x rs l)[k].length = rs.length := modelsM_rows (List.getElem_mem hkc)
      have hak := atI_eq hkc (show i < (modelsM x rs l)[k].length by omega)
      repeat (first
    | (apply s_a TY; exact rfl)
    | (apply s_t; exact rfl; (first | assumption | omega))
    | apply w_seq
    | apply w_region
    | (apply w_draw (id := 30) 19 rfl (by kernel_rfl))
    | apply s_nil
    | apply t_norm
    | apply k_norm
    | apply w_block
    | apply w_skip
    | (apply w_condT; exact rfl; exact rfl)
    | (apply s_c TY; exact rfl; (first | omega | exact ⟨by omega, by (first | with_reducible assumption | ((with_reducible apply intsF_ne); omega) | ((with_reducible apply matF_ne); omega) | ((with_reducible apply rngsF_ne); omega) | assumption)⟩))
    | (apply s_l TY; exact rfl; (first | exact rfl | with_reducible assumption | ((with_reducible apply intsF_at); omega) | ((with_reducible apply matF_at); omega) | assumption)))
      exact ⟨k + 1, by omega, by omega, gh_le ⟨le_upd rfl trivial (le_upd (by rw [hiK, hak]; rfl) trivial (le_upd (by rw [loK, hak]; rfl) trivial (le_upd rfl trivial (le_upd rfl trivial (le_upd rfl trivial (le_nil _)))))), le_h0 _ _⟩⟩
    · have hke : k = (modelsM x rs l).length := by omega
      subst hke
      have e1 : (rangesR (modelsM x rs l) rs.length)[i] = ⟨loK (modelsM x rs l) i (modelsM x rs l).length, hiK (modelsM x rs l) i (modelsM x rs l).length⟩ := by simp [rangesR]
      repeat (first
    | (apply s_bind; exact rfl; exact rfl; exact rfl; exact rfl; exact rfl; exact rfl; exact ner_eq e1)
    | (apply s_a TY; exact rfl)
    | (apply s_f; exact rfl; (first | assumption | omega))
    | apply w_seq
    | apply w_region
    | apply s_nil
    | apply t_norm
    | apply t_exit
    | apply k_hit
    | apply k_norm
    | apply w_exit
    | apply w_skip
    | (apply w_condF; exact rfl; exact rfl)
    | (apply s_c TY; exact rfl; (first | omega | exact ⟨by omega, by (first | with_reducible assumption | ((with_reducible apply intsF_ne); omega) | ((with_reducible apply matF_ne); omega) | ((with_reducible apply rngsF_ne); omega) | assumption)⟩))
    | (apply s_m TY; exact rfl; (first | with_reducible assumption | ((with_reducible apply rngsF_sub); omega) | exact rfl); exact rfl))
      exact ⟨i + 1, by omega, by omega, gh_le ⟨le_upd rfl trivial (le_upd rfl trivial (le_upd rfl trivial (le_nil _))), le_h0 _ _⟩⟩
  · have hie : i = rs.length := by omega
    subst hie
    repeat (first
    | (apply s_a TY; exact rfl)
    | (apply s_f; exact rfl; (first | assumption | omega))
    | apply w_seq
    | apply w_region
    | apply s_nil
    | apply t_norm
    | apply t_exit
    | apply k_hit
    | apply w_exit
    | apply w_ret
    | (apply w_condF; exact rfl; exact rfl))
    exact lv_ret (ret1 rfl (res_tmp rfl))
set_option maxRecDepth 100000 in
set_option maxHeartbeats 8000000 in
theorem IceProofs_two (x : Grid) (rs : List Rng) (l : List Flash) (hname : ∀ f ∈ l, f.name.size ≤ 9223372036854775807) (h : lightB x rs = true) (h5 : l.length ≤ 5) (hf : (checkFlashes x rs l).2 = 0) (hnone : ∀ j, j ≤ l.length → conK x rs l j = none) (h1 : 2 ≤ (modelsM x rs l).length) : Summ Tryd.prog GG 13 [classF x rs, .sl l.length (flasF l)] (bv true) := by
  obtain ⟨i23, hi23, _, hz23, _⟩ := info_parts Tryd.info23
  have LT := light_s x rs
  rw [h] at LT
  obtain ⟨⟨f1, f2⟩, h8⟩ := light_few h
  have b : Small x rs l := ⟨by omega, by omega, by omega, by omega, hname⟩
  have CC := CopyClass_s x rs (by omega) (by omega) (by omega)
  have CF := CopyFlashes_s l (by omega)
  have CE := ClassErr_s x rs (by omega)
  have hc : (checkClass x rs).2 = 0 := Classical.byContradiction fun hc => by rw [fE_cls hc] at hf; exact hc hf
  have FE := FlashesErr_s x rs l hc (by omega)
  rw [hc] at CE
  rw [hf] at FE
  have K := flashesOk hf
  have MS := Models_s x rs l K
  have RC := RContra_s x rs l K
  have hm300 : (modelsM x rs l).length ≤ 300 := by rw [← keepM_all]; exact Nat.le_trans (keepM_len x rs l _) K.k.cnt
  have hpos : 0 < (modelsM x rs l).length := by
    have := conK_none (x := x) (rs := rs) (s := fullS l.length) (by rw [(full_ok _).2]; exact hnone _ (Nat.le_refl _)) (full_ok _).1
    rwa [sub_full] at this
  have hrl := K.k.len
  have v := K.k.v
  have l6 := v.l6
  have hrg : (rangesR (modelsM x rs l) rs.length).length = rs.length := rangesR_len _ _
  have RO := RangesOf_ok x rs l b hf hpos
  have CO := Contra_none x rs l b hf hnone
  have e := refCon_none h5 hnone
  unfold refCon at e
  rw [e] at RC
  replace RC : Summ Tryd.prog GG 78 [classF x rs, .sl l.length (flasF l)] (.tup [.v (.slice none 0 0), bv false]) := RC
  have DI := Disagree_ok x rs l b hf h1
  have hl1 : (modelsM x rs l)[0].length = rs.length := modelsM_rows (List.getElem_mem hpos)
  have hl2 : ((modelsM x rs l)[(((modelsM x rs l).length : Int) - 1).toNat]'(by omega)).length = rs.length := modelsM_rows (List.getElem_mem _)
  have IN : ∀ (k : Nat) (hk : k < (modelsM x rs l).length), Summ Tryd.prog GG 22 [rowF (modelsM x rs l)[k], rowF (modelsM x rs l)[k]] (bv true) := fun k hk => by
    have hlk : (modelsM x rs l)[k].length = rs.length := modelsM_rows (List.getElem_mem hk)
    have := Ints_s (modelsM x rs l)[k] (modelsM x rs l)[k] (by omega)
    rwa [decide_eq_true rfl] at this
  have I0 := IN 0 hpos
  have I1 := IN (((modelsM x rs l).length : Int) - 1).toNat (by omega)
  refine summW Tryd.func13 rfl rfl 248 rfl (by simp) (fun M0 => ?_)
  repeat (first
    | (refine s_ghost (o := ⟨some 8, _, _, _, _, _⟩) rfl (gh_box 0 (cs := [rowF (modelsM x rs l)[0], rowF ((modelsM x rs l)[(((modelsM x rs l).length : Int) - 1).toNat]'(by omega))]) rfl rfl) ?_)
    | (apply s_neb Tryd.underlying4; exact rfl; exact rfl; exact rfl; exact rfl)
    | (apply s_idxAw Tryd.underlying119 hi23 hz23; exact rfl; exact rfl; exact rfl; exact rfl; decide; decide)
    | (apply s_a TY; exact rfl)
    | (apply s_t; exact rfl; (first | assumption | omega))
    | (apply s_f; exact rfl; (first | assumption | omega))
    | apply w_seq
    | apply w_region
    | (apply w_draw (id := 17) 42 rfl (by kernel_rfl))
    | apply s_nil
    | apply t_norm
    | apply w_block
    | apply w_skip
    | (apply w_condT; exact rfl; exact rfl)
    | (apply w_condF; exact rfl; exact rfl)
    | (apply s_k (LT); exact rfl)
    | (apply s_k (CC); exact rfl)
    | (apply s_k (CF); exact rfl)
    | (apply s_k (RO); exact rfl)
    | (apply s_k (DI); exact rfl)
    | (apply s_k (CO); exact rfl)
    | (apply s_k (CE); exact rfl)
    | (apply s_k (FE); exact rfl)
    | (apply s_k (MS); exact rfl)
    | (apply s_k (RC); exact rfl)
    | (apply s_k (I0); exact rfl)
    | (apply s_k (I1); exact rfl)
    | (apply s_k (awake_s); exact rfl)
    | (apply s_s; exact rfl)
    | (apply s_c TY; exact rfl; (first | omega | exact ⟨by omega, by (first | with_reducible assumption | ((with_reducible apply intsF_ne); omega) | ((with_reducible apply matF_ne); omega) | ((with_reducible apply rngsF_ne); omega) | assumption)⟩))
    | (apply s_z TY; exact rfl; (first | omega | exact ⟨by omega, by (first | with_reducible assumption | ((with_reducible apply intsF_ne); omega) | ((with_reducible apply matF_ne); omega) | ((with_reducible apply rngsF_ne); omega) | assumption)⟩))
    | (apply s_l TY; exact rfl; (first | exact rfl | with_reducible assumption | ((with_reducible apply intsF_at); omega) | ((with_reducible apply matF_at); omega) | assumption))
    | (apply s_alloc TY; exact rfl; exact rfl; exact rfl)
    | (apply s_store TY; exact rfl; exact rfl; exact rfl; exact rfl; exact rfl; exact rfl))
  apply w_loop (fun i : Nat => ⟨(Ab.upd (Ab.upd (Ab.upd (fun _ => .bot) 5 (.f (.sl (rangesR (modelsM x rs l) rs.length).length (rngsF (rangesR (modelsM x rs l) rs.length))))) 12 (.f (.sl (modelsM x rs l).length (matF (modelsM x rs l))))) 15 (.f (iv (i : Nat)))), (fun _ => none), 0⟩) (fun i => i ≤ rs.length) (fun i => rs.length - i) 0 (Nat.zero_le _) (gh_le ⟨le_upd rfl trivial (le_upd rfl trivial (le_upd rfl trivial (le_nil _))), le_h0 _ _⟩)
  intro i hi
  by_cases hic : i < rs.length
  · have hir : i < (rangesR (modelsM x rs l) rs.length).length := by omega
    have hl0 : (modelsM x rs l)[0].length = rs.length := modelsM_rows (List.getElem_mem hpos)
    have hi0 : i < (modelsM x rs l)[0].length := by omega
    have hx0 : i < (modelsM x rs l)[0].length ∧ intsF (modelsM x rs l)[0] ≠ [] := ⟨hi0, intsF_ne (by omega)⟩
    have hx1 : (intsF (modelsM x rs l)[0])[i * 1]? = some (iv (modelsM x rs l)[0][i]) := intsF_at hi0
    have ha0 := atI_eq hpos (show i < (modelsM x rs l)[0].length by omega)
    repeat (first
    | (apply s_c TY; exact rfl; exact hx0)
    | (apply s_l TY; exact rfl; exact hx1)
    | (apply s_a TY; exact rfl)
    | (apply s_t; exact rfl; (first | assumption | omega))
    | apply w_seq
    | apply w_region
    | (apply w_draw (id := 26) 13 rfl (by kernel_rfl))
    | apply s_nil
    | apply t_norm
    | apply w_block
    | apply w_skip
    | (apply w_condT; exact rfl; exact rfl)
    | (apply s_c TY; exact rfl; (first | omega | exact ⟨by omega, by (first | with_reducible assumption | ((with_reducible apply intsF_ne); omega) | ((with_reducible apply matF_ne); omega) | ((with_reducible apply rngsF_ne); omega) | assumption)⟩))
    | (apply s_l TY; exact rfl; (first | exact rfl | with_reducible assumption | ((with_reducible apply intsF_at); omega) | ((with_reducible apply matF_at); omega) | assumption)))
    apply w_loop (fun k : Nat => ⟨(Ab.upd (Ab.upd (Ab.upd (Ab.upd (Ab.upd (Ab.upd (fun _ => .bot) 5 (.f (.sl (rangesR (modelsM x rs l) rs.length).length (rngsF (rangesR (modelsM x rs l) rs.length))))) 12 (.f (.sl (modelsM x rs l).length (matF (modelsM x rs l))))) 15 (.f (iv (i : Nat)))) 16 (.f (iv (loK (modelsM x rs l) i k)))) 17 (.f (iv (hiK (modelsM x rs l) i k)))) 18 (.f (iv (k : Nat)))), (fun _ => none), 0⟩) (fun k => k ≤ (modelsM x rs l).length) (fun k => (modelsM x rs l).length - k) 0 (Nat.zero_le _) (gh_le ⟨le_upd rfl trivial (le_upd (by rw [hiK, ha0]; rfl) trivial (le_upd (by rw [loK, ha0]; rfl) trivial (le_upd rfl trivial (le_upd rfl trivial (le_upd rfl trivial (le_nil _)))))), le_h0 _ _⟩)
    intro k hk
    by_cases hkc : k < (modelsM x rs l).length
    · have hlk : (modelsM x rs l)[k].length = rs.length := modelsM_rows (List.getElem_mem hkc)
      have hak := atI_eq hkc (show i < (modelsM x rs l)[k].length by omega)
      repeat (first
    | (apply s_a TY; exact rfl)
    | (apply s_t; exact rfl; (first | assumption | omega))
    | apply w_seq
    | apply w_region
    | (apply w_draw (id := 30) 19 rfl (by kernel_rfl))
    | apply s_nil
    | apply t_norm
    | apply k_norm
    | apply w_block
    | apply w_skip
    | (apply w_condT; exact rfl; exact rfl)
    | (apply s_c TY; exact rfl; (first | omega | exact ⟨by omega, by (first | with_reducible assumption | ((with_reducible apply intsF_ne); omega) | ((with_reducible apply matF_ne); omega) | ((with_reducible apply rngsF_ne); omega) | assumption)⟩))
    | (apply s_l TY; exact rfl; (first | exact rfl | with_reducible assumption | ((with_reducible apply intsF_at); omega) | ((with_reducible apply matF_at); omega) | assumption)))
      exact ⟨k + 1, by omega, by omega, gh_le ⟨le_upd rfl trivial (le_upd (by rw [hiK, hak]; rfl) trivial (le_upd (by rw [loK, hak]; rfl) trivial (le_upd rfl trivial (le_upd rfl trivial (le_upd rfl trivial (le_nil _)))))), le_h0 _ _⟩⟩
    · have hke : k = (modelsM x rs l).length := by omega
      subst hke
      have e1 : (rangesR (modelsM x rs l) rs.length)[i] = ⟨loK (modelsM x rs l) i (modelsM x rs l).length, hiK (modelsM x rs l) i (modelsM x rs l).length⟩ := by simp [rangesR]
      repeat (first
    | (apply s_bind; exact rfl; exact rfl; exact rfl; exact rfl; exact rfl; exact rfl; exact ner_eq e1)
    | (apply s_a TY; exact rfl)
    | (apply s_f; exact rfl; (first | assumption | omega))
    | apply w_seq
    | apply w_region
    | apply s_nil
    | apply t_norm
    | apply t_exit
    | apply k_hit
    | apply k_norm
    | apply w_exit
    | apply w_skip
    | (apply w_condF; exact rfl; exact rfl)
    | (apply s_c TY; exact rfl; (first | omega | exact ⟨by omega, by (first | with_reducible assumption | ((with_reducible apply intsF_ne); omega) | ((with_reducible apply matF_ne); omega) | ((with_reducible apply rngsF_ne); omega) | assumption)⟩))
    | (apply s_m TY; exact rfl; (first | with_reducible assumption | ((with_reducible apply rngsF_sub); omega) | exact rfl); exact rfl))
      exact ⟨i + 1, by omega, by omega, gh_le ⟨le_upd rfl trivial (le_upd rfl trivial (le_upd rfl trivial (le_nil _))), le_h0 _ _⟩⟩
  · have hie : i = rs.length := by omega
    subst hie
    repeat (first
    | (apply s_a TY; exact rfl)
    | (apply s_f; exact rfl; (first | assumption | omega))
    | apply w_seq
    | apply w_region
    | apply s_nil
    | apply t_norm
    | apply t_exit
    | apply k_hit
    | apply w_exit
    | apply w_ret
    | (apply w_condF; exact rfl; exact rfl))
    exact lv_ret (ret1 rfl (res_tmp rfl))
theorem IceProofs_s (x : Grid) (rs : List Rng) (l : List Flash) (hname : ∀ f ∈ l, f.name.size ≤ 9223372036854775807) : Summ Tryd.prog GG 13 [classF x rs, .sl l.length (flasF l)] (bv true) := by
  cases h : lightB x rs with
  | false => exact IceProofs_early x rs l (.inl h)
  | true =>
    by_cases h5 : l.length ≤ 5
    case neg => exact IceProofs_early x rs l (.inr ⟨h, by omega⟩)
    by_cases hf : (checkFlashes x rs l).2 = 0
    case neg => exact IceProofs_err x rs l hname h h5 hf
    rcases con_or x rs l with hnone | ⟨n, s, hn, hs, hbef⟩
    · by_cases h1 : (modelsM x rs l).length < 2
      · exact IceProofs_one x rs l hname h h5 hf hnone h1
      · exact IceProofs_two x rs l hname h h5 hf hnone (by omega)
    · exact IceProofs_con x rs l hname h h5 hf n s hn hs hbef
end Go.Proofs.YtienhiloecfgnaaDoor
namespace Go.Proofs.YtienhiloecfgnaaDoor
open Go Go.Ab Go.ChangeShapes Go.WideShapes Go.ChangeAt Go.RowKit
abbrev StrB := { s : ByteArray // s.size ≤ 9223372036854775807 }
abbrev FlashB := { f : Flash // f.name.size ≤ 9223372036854775807 }
def flas (l : List FlashB) : List Flash := l.map (·.1)
theorem flas_name (l : List FlashB) : ∀ f ∈ flas l, f.name.size ≤ 9223372036854775807 := fun f hf => by
  obtain ⟨g, _, rfl⟩ := List.mem_map.1 hf
  exact g.2
section
variable {W : World}
theorem opens_strB : Opens Tryd.prog W 9 (fun s : StrB => [.v (.string s.1)]) := fun H enc base sp hd fuel cs x h => by
  obtain ⟨n, rfl, _, hz⟩ := DataW.trod_string Tryd.underlying9 h
  exact ⟨⟨n, by simpa [maxLen] using hz⟩, repL_one (RepF.v _), by simp [Value.oneCell']⟩
theorem opens_flaB : Opens Tryd.prog W 108 (fun f : FlashB => flaF f.1) := (opens_st4 (s0 := 1) (s1 := 2) (s2 := 2) (s3 := 2) Tryd.underlying108 (by kernel_rfl) (by kernel_rfl) (by kernel_rfl) (by kernel_rfl) (by kernel_rfl) rfl rfl rfl rfl opens_strB opens_cel opens_cel opens_rng).map (fun p => ⟨⟨p.1.1, p.2.1, p.2.2.1, p.2.2.2⟩, p.1.2⟩) fun _ => rfl
theorem flas_flat (l : List FlashB) : l.flatMap (fun f => flaF f.1) = flasF (flas l) := by
  unfold flas flasF; rw [List.flatMap_map]
theorem opens_flasB : Opens Tryd.prog W 45 (fun l : List FlashB => [.sl (flas l).length (flasF (flas l))]) := (opens_sl (s := 7) Tryd.underlying45 (by kernel_rfl) (by decide) opens_flaB).map id fun l => by
  rw [flas_flat]; simp [flas]
end
end Go.Proofs.YtienhiloecfgnaaDoor
