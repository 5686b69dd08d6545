/- Laws on which the proofs of this seat stand. No condition. -/
import Derived.Test.YtienhiloecfgnaaDoorTimes5
namespace Go.Proofs.YtienhiloecfgnaaDoor
open Go Go.RowKit Go.Proofs Go.Shelf Go.Ab
theorem matFacts {x : Grid} {M : List (List Int)} (sh : ShapeOk x M) {c : Cel} (hc : InG x c) : ∃ h : c.row.toNat < (M.map intsF).length, (M.map intsF)[c.row.toNat].length = x.tilt.length ∧ ((List.range (M.map intsF).length).map fun r => AV.ow (r + 100))[c.row.toNat * 1]? = some (.ow (c.row.toNat + 100)) ∧ (M.map intsF)[c.row.toNat][c.col.toNat * 1]? = some (iv (tab M c)) := by
  obtain ⟨h1, h2, h3⟩ := tab_at sh hc
  have h : c.row.toNat < (M.map intsF).length := by simpa using h1
  refine ⟨h, ?_, mOut_at h, ?_⟩
  · rw [List.getElem_map]; simpa [intsF] using sh.row _ (List.getElem_mem h1)
  · rw [List.getElem_map]; exact h3
theorem mLen {x : Grid} {M : List (List Int)} (sh : ShapeOk x M) : ((M.map intsF).length : Int) = x.rows := by rw [List.length_map]; exact sh.len
theorem setT_map {M : List (List Int)} {c : Cel} {t : Int} (h : c.row.toNat < (M.map intsF).length) : (setT M c t).map intsF = (M.map intsF).set c.row.toNat (Ab.setAt (M.map intsF)[c.row.toNat] (c.col.toNat * 1) [iv t]) := by
  have h1 : c.row.toNat < M.length := by simpa using h
  unfold setT
  rw [List.map_set, List.getD_eq_getElem?_getD, List.getElem?_eq_getElem h1, Option.getD_some, List.getElem_map, Nat.mul_one]
  congr 1
  show intsF (M[c.row.toNat].set c.col.toNat t) = (intsF M[c.row.toNat]).set c.col.toNat (iv t)
  unfold intsF; rw [List.map_set]
theorem matF_rows (M : List (List Int)) : FV.sl (M.map intsF).length (rowsF (M.map intsF)) = .sl M.length (matF M) := by
  unfold rowsF matF
  rw [List.length_map, List.map_map]
  congr 1
  refine List.map_congr_left fun r _ => ?_
  show FV.sl (intsF r).length (intsF r) = rowF r
  simp [rowF, intsF]
def rowB (_x : Grid) (j : Nat) : List FV := intsF (List.replicate j 1000000)
def rsB (x : Grid) (k : Nat) : List (List FV) := List.replicate k (rowB x x.tilt.length)
theorem rsB_succ (x : Grid) (k : Nat) : rsB x (k + 1) = rsB x k ++ [rowB x x.tilt.length] := List.replicate_succ'
theorem rsB_len (x : Grid) (k : Nat) : (rsB x k).length = k := by simp [rsB]
theorem rowB_len (x : Grid) (k : Nat) : (rowB x k).length = k := by simp [rowB, intsF]
theorem rowB_succ (x : Grid) (k : Nat) : rowB x (k + 1) = rowB x k ++ [iv 1000000] := by unfold rowB intsF; rw [List.replicate_succ', List.map_append]; rfl
theorem rsB_all (x : Grid) : rsB x x.rows.toNat = (List.replicate x.rows.toNat (List.replicate x.tilt.length (1000000 : Int))).map intsF := by unfold rsB rowB; rw [List.map_replicate]
theorem celsF_row {l : List Cel} {k : Nat} (h : k < l.length) : (celsF l)[k * 2 + 1]? = some (iv l[k].row) := by
  have := congrArg (fun z => z[1]?) (celsF_sub h)
  simpa [List.getElem?_take, List.getElem?_drop, celF] using this
theorem celsF_col {l : List Cel} {k : Nat} (h : k < l.length) : (celsF l)[k * 2 + 0]? = some (iv l[k].col) := by
  have := congrArg (fun z => z[0]?) (celsF_sub h)
  simpa [List.getElem?_take, List.getElem?_drop, celF] using this
set_option maxRecDepth 100000 in
set_option maxHeartbeats 4000000 in
theorem Times_s (x : Grid) (fr : Cel) (v : Valid x) (hf : InG x fr) : Summ Tryd.prog GG 62 [gridF x, .agg (celF fr)] (.sl (timesM x fr).length (matF (timesM x fr))) := by
  have r1 := v.r1
  have r12 := v.r12
  have t8 := v.t8
  refine summW Tryd.func62 rfl rfl 110 rfl (by simp) (fun M0 => ?_)
  repeat (first
    | (apply s_a TY; exact rfl)
    | apply w_seq
    | apply w_region
    | apply s_nil
    | apply t_norm
    | apply w_block)
  apply w_gh (gh_own 5 23 1 rfl rfl)
  apply w_gh (gh_rowA 0 rfl)
  apply w_loop (fun k : Nat => ⟨(Ab.upd (Ab.upd (Ab.upd (Ab.upd (fun _ => .bot) 2 (.f (.pt (gridL x) 0))) 3 (.f (.pt (celF fr) 0))) 5 (.ow 0)) 6 (.f (iv (k : Nat)))), (Ab.upd (mR 3 (rsB x k)) 0 (some (mOut 23 (rsB x k)))), 1⟩) (fun k => k ≤ x.rows.toNat) (fun k => x.rows.toNat - k) 0 (Nat.zero_le _) (gh_le ⟨le_upd rfl trivial (le_upd rfl rfl (le_upd rfl trivial (le_upd rfl trivial (le_nil _)))), le_hupd rfl mOut_cl0 (le_mR (fun r hr => absurd hr (Nat.not_lt_zero r)))⟩)
  intro k hk
  have hn := rsB_len x k
  by_cases hkc : k < x.rows.toNat
  · repeat (first
    | (apply s_a TY; exact rfl)
    | (apply s_t; exact rfl; (first | assumption | omega))
    | apply w_seq
    | apply w_region
    | apply s_nil
    | apply t_norm
    | apply w_block
    | apply w_skip
    | (apply w_condT; exact rfl; exact rfl))
    apply w_gh (gh_own 7 3 1 rfl rfl)
    apply w_loop (fun j : Nat => ⟨(Ab.upd (Ab.upd (Ab.upd (Ab.upd (Ab.upd (Ab.upd (fun _ => .bot) 2 (.f (.pt (gridL x) 0))) 3 (.f (.pt (celF fr) 0))) 5 (.ow 0)) 6 (.f (iv (k : Nat)))) 7 (.ow 1)) 8 (.f (iv (j : Nat)))), (Ab.upd (Ab.upd (mR 3 (rsB x k)) 0 (some (mOut 23 (rsB x k)))) 1 (some (.row 3 1 j (rowB x j)))), 2⟩) (fun j => j ≤ x.tilt.length) (fun j => x.tilt.length - j) 0 (Nat.zero_le _) (gh_le ⟨le_upd rfl trivial (le_upd rfl rfl (le_upd rfl trivial (le_upd rfl rfl (le_upd rfl trivial (le_upd rfl trivial (le_nil _)))))), le_hupd rfl trivial (le_hupd rfl mOut_cl1 (le_mR (fun r hr => by repeat (first | exact rfl | refine (upd_other _ _ (by omega)).trans ?_))))⟩)
    intro j hj
    by_cases hjc : j < x.tilt.length
    · repeat (first
    | (apply s_append TY; exact rfl; exact rfl; exact rfl; exact rfl; exact rfl; exact rfl; exact rfl; exact rfl; exact rfl; (unfold maxLen; omega); omega)
    | (apply s_a TY; exact rfl)
    | (apply s_t; exact rfl; (first | assumption | omega))
    | apply w_seq
    | apply w_region
    | apply s_nil
    | apply t_norm
    | apply k_norm
    | apply w_block
    | apply w_skip
    | (apply w_condT; exact rfl; exact rfl)
    | (apply s_c TY; exact rfl; (first | omega | exact ⟨by omega, by (first | with_reducible assumption | ((with_reducible apply intsF_ne); omega) | ((with_reducible apply matF_ne); omega) | ((with_reducible apply celsF_ne); omega))⟩)))
      exact ⟨j + 1, by omega, by omega, gh_le ⟨le_upd rfl trivial (le_upd rfl rfl (le_upd rfl trivial (le_upd rfl rfl (le_upd rfl trivial (le_upd rfl trivial (le_nil _)))))), le_hupd (congrArg (fun l => some (Blk.row 3 1 (j + 1) l)) (rowB_succ x j).symm) trivial (le_hupd (congrArg some (kill_out (by decide))) mOut_cl1 (le_mR (fun r hr => by show Option.map (killB 1) _ = _; refine kill_hi' hr ?_; repeat (first | exact rfl | refine (upd_other _ _ (by omega)).trans ?_))))⟩⟩
    · have hje : j = x.tilt.length := by omega
      subst hje
      repeat (first
    | (apply s_bsliceA TY; exact rfl; exact rfl; exact rfl; exact rfl; exact rfl; exact rfl)
    | (apply s_appendA TY; exact rfl; exact rfl; exact rfl; exact rfl; exact rfl; exact rfl; exact rfl; exact rfl; (unfold maxLen; omega); omega)
    | (apply s_a TY; exact rfl)
    | (apply s_f; exact rfl; (first | assumption | omega))
    | apply w_seq
    | apply w_region
    | apply s_nil
    | apply t_norm
    | apply t_exit
    | apply k_hit
    | apply k_norm
    | apply w_exit
    | (apply w_condF; exact rfl; exact rfl)
    | (apply s_c TY; exact rfl; (first | omega | exact ⟨by omega, by (first | with_reducible assumption | ((with_reducible apply intsF_ne); omega) | ((with_reducible apply matF_ne); omega) | ((with_reducible apply celsF_ne); omega))⟩)))
      refine ⟨k + 1, by omega, by omega, ?_⟩
      rw [rsB_succ]
      refine gh_trans (b := (⟨(Ab.upd (Ab.upd (Ab.upd (Ab.upd (fun _ => .bot) 2 (.f (.pt (gridL x) 0))) 3 (.f (.pt (celF fr) 0))) 5 (.ow 0)) 6 (.f (iv ((k + 1 : Nat) : Int)))), Ab.upd (Ab.upd (mR 3 (rsB x k)) 0 (some (.rowA 23 1 ((rsB x k).length + 1) ((List.range (rsB x k).length).map (fun r => AV.ow (r + 100)) ++ [AV.ow 1])))) 1 (some (.row 3 1 (rowB x x.tilt.length).length (rowB x x.tilt.length))), 1⟩ : Ab.St)) (gh_le ⟨le_upd rfl trivial (le_upd rfl rfl (le_upd rfl trivial (le_upd rfl trivial (le_nil _)))), le_hupd (congrArg (fun n => some (Blk.row 3 1 n (rowB x x.tilt.length))) (rowB_len x _).symm) trivial (le_hupd (congrArg (fun l => some (Blk.rowA 23 1 ((rsB x k).length + 1) l)) (kill_cells _)) mAdd_cl (le_mR (fun r hr => by show Option.map (killB 0) _ = _; refine kill_hi' hr ?_; repeat (first | exact rfl | refine (upd_other _ _ (by omega)).trans ?_))))⟩) (gh_addrow ((mv_upd rfl ((mv_upd rfl ((mv_upd rfl ((mv_upd rfl (mv_bot))))))))) (fun _ => rfl))
  · have hke : k = x.rows.toNat := by omega
    subst hke
    clear hn
    rw [rsB_all]
    have shM := rep_shape v
    have L0 := low_start v hf
    generalize List.replicate x.rows.toNat (List.replicate x.tilt.length (1000000 : Int)) = M at *
    obtain ⟨m1, ln1, oa1, ca1⟩ := matFacts shM hf
    have ra1 : (Ab.upd (mR 3 (M.map intsF)) 0 (some (mOut 23 (M.map intsF)))) (fr.row.toNat + 100) = some (.row 3 1 (M.map intsF)[fr.row.toNat].length (M.map intsF)[fr.row.toNat]) := (upd_other _ _ (by omega)).trans (mR_at m1)
    obtain ⟨⟨f0, f1⟩, f2, f3⟩ := id hf
    have hlen := mLen shM
    repeat (first
    | (apply s_ldA TY; exact rfl; exact rfl; exact rfl; exact rfl; exact rfl; exact oa1)
    | (apply s_idxR TY (i := (fr.row.toNat + 100)); exact rfl; exact rfl; exact rfl; exact rfl; exact ra1; exact rfl; omega; omega)
    | (apply s_storeR TY (i := (fr.row.toNat + 100)); exact rfl; exact ra1; exact rfl; exact rfl; exact rfl; (show _ + 1 ≤ _; omega))
    | (apply s_idxOA TY; exact rfl; exact rfl; exact rfl; exact rfl; exact rfl; exact rfl; omega; omega)
    | (apply s_a TY; exact rfl)
    | (apply s_f; exact rfl; (first | assumption | omega))
    | apply w_seq
    | apply w_region
    | (apply w_draw (id := 11) 7 rfl (by kernel_rfl))
    | apply s_nil
    | apply t_norm
    | apply t_exit
    | apply k_hit
    | apply w_block
    | apply w_exit
    | (apply w_condF; exact rfl; exact rfl))
    apply w_loop (fun p : List (List Int) × Bool => ⟨(Ab.upd (Ab.upd (Ab.upd (fun _ => .bot) 2 (.f (.pt (gridL x) 0))) 5 (.ow 0)) 9 (.f (bv p.2))), (Ab.upd (mR 3 (p.1.map intsF)) 0 (some (mOut 23 (p.1.map intsF)))), 1⟩) (fun p => Low x fr p.1 ∧ (p.2 = false → p.1 = timesM x fr)) (fun p => sumT p.1 * 2 + (if p.2 = true then 1 else 0)) (setT M fr 0, true) (⟨L0, fun e => by cases e⟩) ((by
            show Gh _ _ _ ⟨(Ab.upd (Ab.upd (Ab.upd (fun _ => .bot) 2 (.f (.pt (gridL x) 0))) 5 (.ow 0)) 9 (.f (bv true))), (Ab.upd (mR 3 ((setT M fr 0).map intsF)) 0 (some (mOut 23 ((setT M fr 0).map intsF)))), 1⟩
            rw [setT_map m1]
            exact gh_le ⟨le_upd rfl trivial (le_upd rfl rfl (le_upd rfl trivial (le_nil _))), le_hupd (by rw [mOut_set]; rfl) mOut_cl0 (le_mR (mR_set m1 (setAt_length _ _ _).symm (fun r hr => by repeat (first | exact rfl | refine (upd_other _ _ (by omega)).trans ?_))))⟩))
    clear L0 oa1 ra1 ca1 ln1 m1 hlen shM M
    rintro ⟨M, b⟩ ⟨hlow, hfix⟩
    show W _ _ _ _ ⟨(Ab.upd (Ab.upd (Ab.upd (fun _ => .bot) 2 (.f (.pt (gridL x) 0))) 5 (.ow 0)) 9 (.f (bv b))), (Ab.upd (mR 3 (M.map intsF)) 0 (some (mOut 23 (M.map intsF)))), 1⟩
    cases b
    · have e := hfix rfl
      simp only at e
      subst e
      repeat (first
    | (apply s_a TY; exact rfl)
    | apply w_seq
    | apply w_region
    | apply s_nil
    | apply t_norm
    | apply t_exit
    | apply k_hit
    | apply w_exit
    | apply w_ret
    | (apply w_condF; exact rfl; exact rfl))
      refine lv_ret (ret_gh (gh_trans (gh_toF (e := 3) (E := 23) (t := 4) (rs := (timesM x fr).map intsF) rfl rfl (fun r hr => by repeat (first | exact rfl | refine (upd_other _ _ (by omega)).trans ?_))) gh_mfrz) ?_)
      exact ret1 rfl (res_tmp (congrArg AV.f (matF_rows _)))
    repeat (first
    | (apply s_a TY; exact rfl)
    | apply w_seq
    | apply w_region
    | apply s_nil
    | apply t_norm
    | apply w_block
    | apply w_skip
    | (apply w_condT; exact rfl; exact rfl))
    apply w_loop (fun p : Nat × List (List Int) × Bool => ⟨(Ab.upd (Ab.upd (Ab.upd (Ab.upd (fun _ => .bot) 2 (.f (.pt (gridL x) 0))) 5 (.ow 0)) 9 (.f (bv p.2.2))) 10 (.f (iv (p.1 : Nat)))), (Ab.upd (mR 3 (p.2.1.map intsF)) 0 (some (mOut 23 (p.2.1.map intsF)))), 1⟩) (fun p => p.1 ≤ x.rows.toNat ∧ Pass x fr M (seen x p.1 0 0) p.2.1 p.2.2) (fun p => x.rows.toNat - p.1) (0, M, false) (⟨Nat.zero_le _, Pass.begin hlow⟩) (gh_le ⟨le_upd rfl trivial (le_upd rfl trivial (le_upd rfl rfl (le_upd rfl trivial (le_nil _)))), le_hupd rfl mOut_cl0 (le_mR (fun r hr => by repeat (first | exact rfl | refine (upd_other _ _ (by omega)).trans ?_)))⟩)
    rintro ⟨r, M1, b1⟩ ⟨hr, hp1⟩
    show W _ _ _ _ ⟨(Ab.upd (Ab.upd (Ab.upd (Ab.upd (fun _ => .bot) 2 (.f (.pt (gridL x) 0))) 5 (.ow 0)) 9 (.f (bv b1))) 10 (.f (iv (r : Nat)))), (Ab.upd (mR 3 (M1.map intsF)) 0 (some (mOut 23 (M1.map intsF)))), 1⟩
    simp only at hr hp1
    by_cases hrc : r < x.rows.toNat
    · repeat (first
    | (apply s_a TY; exact rfl)
    | (apply s_t; exact rfl; (first | assumption | omega))
    | apply w_seq
    | apply w_region
    | apply s_nil
    | apply t_norm
    | apply w_block
    | apply w_skip
    | (apply w_condT; exact rfl; exact rfl))
      apply w_loop (fun p : Nat × List (List Int) × Bool => ⟨(Ab.upd (Ab.upd (Ab.upd (Ab.upd (Ab.upd (fun _ => .bot) 2 (.f (.pt (gridL x) 0))) 5 (.ow 0)) 9 (.f (bv p.2.2))) 10 (.f (iv (r : Nat)))) 11 (.f (iv (p.1 : Nat)))), (Ab.upd (mR 3 (p.2.1.map intsF)) 0 (some (mOut 23 (p.2.1.map intsF)))), 1⟩) (fun p => p.1 ≤ x.tilt.length ∧ Pass x fr M (seen x r p.1 0) p.2.1 p.2.2) (fun p => x.tilt.length - p.1) (0, M1, b1) (⟨Nat.zero_le _, hp1⟩) (gh_le ⟨le_upd rfl trivial (le_upd rfl trivial (le_upd rfl trivial (le_upd rfl rfl (le_upd rfl trivial (le_nil _))))), le_hupd rfl mOut_cl0 (le_mR (fun r hr => by repeat (first | exact rfl | refine (upd_other _ _ (by omega)).trans ?_)))⟩)
      clear hp1
      rintro ⟨c, M2, b2⟩ ⟨hc, hp2⟩
      show W _ _ _ _ ⟨(Ab.upd (Ab.upd (Ab.upd (Ab.upd (Ab.upd (fun _ => .bot) 2 (.f (.pt (gridL x) 0))) 5 (.ow 0)) 9 (.f (bv b2))) 10 (.f (iv (r : Nat)))) 11 (.f (iv (c : Nat)))), (Ab.upd (mR 3 (M2.map intsF)) 0 (some (mOut 23 (M2.map intsF)))), 1⟩
      simp only at hc hp2
      by_cases hcc : c < x.tilt.length
      · have hin : InG x ⟨(c : Nat), (r : Nat)⟩ := ⟨⟨Int.natCast_nonneg _, by simp only; omega⟩, Int.natCast_nonneg _, by simp only; omega⟩
        have AR := around_s x ⟨(c : Nat), (r : Nat)⟩ v hin
        repeat (first
    | (apply s_a TY; exact rfl)
    | (apply s_t; exact rfl; (first | assumption | omega))
    | apply w_seq
    | apply w_region
    | apply s_nil
    | apply t_norm
    | apply w_block
    | apply w_skip
    | (apply w_condT; exact rfl; exact rfl)
    | (apply s_k (AR); exact rfl)
    | (apply s_alloc TY; exact rfl; exact rfl; exact rfl)
    | (apply s_store TY; exact rfl; exact rfl; exact rfl; exact rfl; exact rfl; exact rfl))
        apply w_loop (fun p : Nat × List (List Int) × Bool => ⟨(Ab.upd (Ab.upd (Ab.upd (Ab.upd (Ab.upd (Ab.upd (Ab.upd (Ab.upd (fun _ => .bot) 2 (.f (.pt (gridL x) 0))) 5 (.ow 0)) 9 (.f (bv p.2.2))) 10 (.f (iv (r : Nat)))) 11 (.f (iv (c : Nat)))) 12 (.bx 1 0)) 13 (.f (.sl (nbrs x ⟨(c : Nat), (r : Nat)⟩).length (celsF (nbrs x ⟨(c : Nat), (r : Nat)⟩))))) 14 (.f (iv (p.1 : Nat)))), (Ab.upd (Ab.upd (mR 3 (p.2.1.map intsF)) 0 (some (mOut 23 (p.2.1.map intsF)))) 1 (some (.box [.f (iv (c : Nat)), .f (iv (r : Nat))]))), 2⟩) (fun p => p.1 ≤ (nbrs x ⟨(c : Nat), (r : Nat)⟩).length ∧ Pass x fr M (seen x r c p.1) p.2.1 p.2.2) (fun p => (nbrs x ⟨(c : Nat), (r : Nat)⟩).length - p.1) (0, M2, b2) (⟨Nat.zero_le _, hp2⟩) (gh_le ⟨le_upd rfl trivial (le_upd rfl trivial (le_upd rfl rfl (le_upd rfl trivial (le_upd rfl trivial (le_upd rfl trivial (le_upd rfl rfl (le_upd rfl trivial (le_nil _)))))))), le_hupd rfl (fun y hy => by simp at hy; rcases hy with rfl | rfl <;> first | trivial | rfl) (le_hupd rfl mOut_cl1 (le_mR (fun r hr => by repeat (first | exact rfl | refine (upd_other _ _ (by omega)).trans ?_))))⟩)
        clear hp2
        rintro ⟨i, M3, b3⟩ ⟨hi, hp3⟩
        show W _ _ _ _ ⟨(Ab.upd (Ab.upd (Ab.upd (Ab.upd (Ab.upd (Ab.upd (Ab.upd (Ab.upd (fun _ => .bot) 2 (.f (.pt (gridL x) 0))) 5 (.ow 0)) 9 (.f (bv b3))) 10 (.f (iv (r : Nat)))) 11 (.f (iv (c : Nat)))) 12 (.bx 1 0)) 13 (.f (.sl (nbrs x ⟨(c : Nat), (r : Nat)⟩).length (celsF (nbrs x ⟨(c : Nat), (r : Nat)⟩))))) 14 (.f (iv (i : Nat)))), (Ab.upd (Ab.upd (mR 3 (M3.map intsF)) 0 (some (mOut 23 (M3.map intsF)))) 1 (some (.box [.f (iv (c : Nat)), .f (iv (r : Nat))]))), 2⟩
        simp only at hi hp3
        by_cases hic : i < (nbrs x ⟨(c : Nat), (r : Nat)⟩).length
        · have nin : InG x (nbrs x ⟨(c : Nat), (r : Nat)⟩)[i] := nbrs_in v (List.getElem_mem hic)
          have shM := hp3.low.sh
          have hlen := mLen shM
          obtain ⟨m1, ln1, oa1, ca1⟩ := matFacts shM nin
          have ra1 : (Ab.upd (Ab.upd (mR 3 (M3.map intsF)) 0 (some (mOut 23 (M3.map intsF)))) 1 (some (.box [.f (iv (c : Nat)), .f (iv (r : Nat))]))) ((nbrs x ⟨(c : Nat), (r : Nat)⟩)[i].row.toNat + 100) = some (.row 3 1 (M3.map intsF)[(nbrs x ⟨(c : Nat), (r : Nat)⟩)[i].row.toNat].length (M3.map intsF)[(nbrs x ⟨(c : Nat), (r : Nat)⟩)[i].row.toNat]) := (upd_other _ _ (by omega)).trans ((upd_other _ _ (by omega)).trans (mR_at m1))
          obtain ⟨m2, ln2, oa2, ca2⟩ := matFacts shM hin
          have ra2 : (Ab.upd (Ab.upd (mR 3 (M3.map intsF)) 0 (some (mOut 23 (M3.map intsF)))) 1 (some (.box [.f (iv (c : Nat)), .f (iv (r : Nat))]))) ((⟨(c : Nat), (r : Nat)⟩ : Cel).row.toNat + 100) = some (.row 3 1 (M3.map intsF)[(⟨(c : Nat), (r : Nat)⟩ : Cel).row.toNat].length (M3.map intsF)[(⟨(c : Nat), (r : Nat)⟩ : Cel).row.toNat]) := (upd_other _ _ (by omega)).trans ((upd_other _ _ (by omega)).trans (mR_at m2))
          have hnl := keepS_len x ⟨(c : Nat), (r : Nat)⟩ 4
          rw [keepS_all] at hnl
          have fc := celsF_col hic
          have fr' := celsF_row hic
          have SS := Step_s x ⟨(c : Nat), (r : Nat)⟩ (nbrs x ⟨(c : Nat), (r : Nat)⟩)[i] v hin nin
          have bd1 := hp3.low.bd _ nin
          have bd2 := hp3.low.bd _ hin
          have bd3 := stepI_bd v ⟨(c : Nat), (r : Nat)⟩ (nbrs x ⟨(c : Nat), (r : Nat)⟩)[i]
          have bd4 := (distOf_all v hf).1.nonneg _ nin
          obtain ⟨⟨g0, g1⟩, g2, g3⟩ := id nin
          by_cases hlt : tab M3 (nbrs x ⟨(c : Nat), (r : Nat)⟩)[i] + stepI x ⟨(c : Nat), (r : Nat)⟩ (nbrs x ⟨(c : Nat), (r : Nat)⟩)[i] < tab M3 ⟨(c : Nat), (r : Nat)⟩
          · repeat (first
    | (apply s_ldA TY; exact rfl; exact rfl; exact rfl; exact rfl; exact rfl; exact oa1)
    | (apply s_ldR TY (i := ((nbrs x ⟨(c : Nat), (r : Nat)⟩)[i].row.toNat + 100)); exact rfl; exact rfl; exact rfl; exact rfl; exact ra1; exact ca1)
    | (apply s_idxR TY (i := ((nbrs x ⟨(c : Nat), (r : Nat)⟩)[i].row.toNat + 100)); exact rfl; exact rfl; exact rfl; exact rfl; exact ra1; exact rfl; omega; omega)
    | (apply s_ldA TY; exact rfl; exact rfl; exact rfl; exact rfl; exact rfl; exact oa2)
    | (apply s_ldR TY (i := ((⟨(c : Nat), (r : Nat)⟩ : Cel).row.toNat + 100)); exact rfl; exact rfl; exact rfl; exact rfl; exact ra2; exact ca2)
    | (apply s_idxR TY (i := ((⟨(c : Nat), (r : Nat)⟩ : Cel).row.toNat + 100)); exact rfl; exact rfl; exact rfl; exact rfl; exact ra2; exact rfl; omega; omega)
    | (apply s_storeR TY (i := ((⟨(c : Nat), (r : Nat)⟩ : Cel).row.toNat + 100)); exact rfl; exact ra2; exact rfl; exact rfl; exact rfl; (show _ + 1 ≤ _; omega))
    | (apply s_idxOA TY; exact rfl; exact rfl; exact rfl; exact rfl; exact rfl; exact rfl; omega; omega)
    | (apply s_a TY; exact rfl)
    | (apply s_t; exact rfl; (first | assumption | omega))
    | apply w_seq
    | apply w_region
    | (apply w_draw (id := 26) 22 rfl (by kernel_rfl))
    | apply s_nil
    | apply t_norm
    | apply k_norm
    | apply w_block
    | apply w_skip
    | (apply w_condT; exact rfl; exact rfl)
    | (apply s_k (SS); exact rfl)
    | (apply s_c TY; exact rfl; (first | omega | exact ⟨by omega, by (first | with_reducible assumption | ((with_reducible apply intsF_ne); omega) | ((with_reducible apply matF_ne); omega) | ((with_reducible apply celsF_ne); omega))⟩))
    | (apply s_l TY; exact rfl; (first | exact rfl | with_reducible assumption | ((with_reducible apply intsF_at); omega) | ((with_reducible apply matF_at); omega) | assumption))
    | (apply s_m TY; exact rfl; (first | with_reducible assumption | ((with_reducible apply celsF_sub); omega) | exact rfl); exact rfl))
            exact ⟨(i + 1, setT M3 ⟨(c : Nat), (r : Nat)⟩ (tab M3 (nbrs x ⟨(c : Nat), (r : Nat)⟩)[i] + stepI x ⟨(c : Nat), (r : Nat)⟩ (nbrs x ⟨(c : Nat), (r : Nat)⟩)[i]), true), ⟨by simp only; omega, hp3.low' v hf hin hic hlt⟩, by simp only; omega, (by
            show Gh _ _ _ ⟨(Ab.upd (Ab.upd (Ab.upd (Ab.upd (Ab.upd (Ab.upd (Ab.upd (Ab.upd (fun _ => .bot) 2 (.f (.pt (gridL x) 0))) 5 (.ow 0)) 9 (.f (bv true))) 10 (.f (iv (r : Nat)))) 11 (.f (iv (c : Nat)))) 12 (.bx 1 0)) 13 (.f (.sl (nbrs x ⟨(c : Nat), (r : Nat)⟩).length (celsF (nbrs x ⟨(c : Nat), (r : Nat)⟩))))) 14 (.f (iv ((i + 1) : Nat)))), (Ab.upd (Ab.upd (mR 3 ((setT M3 ⟨(c : Nat), (r : Nat)⟩ (tab M3 (nbrs x ⟨(c : Nat), (r : Nat)⟩)[i] + stepI x ⟨(c : Nat), (r : Nat)⟩ (nbrs x ⟨(c : Nat), (r : Nat)⟩)[i])).map intsF)) 0 (some (mOut 23 ((setT M3 ⟨(c : Nat), (r : Nat)⟩ (tab M3 (nbrs x ⟨(c : Nat), (r : Nat)⟩)[i] + stepI x ⟨(c : Nat), (r : Nat)⟩ (nbrs x ⟨(c : Nat), (r : Nat)⟩)[i])).map intsF)))) 1 (some (.box [.f (iv (c : Nat)), .f (iv (r : Nat))]))), 2⟩
            rw [setT_map m2]
            exact gh_le ⟨le_upd rfl trivial (le_upd rfl trivial (le_upd rfl rfl (le_upd rfl trivial (le_upd rfl trivial (le_upd rfl trivial (le_upd rfl rfl (le_upd rfl trivial (le_nil _)))))))), le_hupd rfl (fun y hy => by simp at hy; rcases hy with rfl | rfl <;> first | trivial | rfl) (le_hupd (by rw [mOut_set]; rfl) mOut_cl1 (le_mR (mR_set m2 (setAt_length _ _ _).symm (fun r hr => by repeat (first | exact rfl | refine (upd_other _ _ (by omega)).trans ?_)))))⟩)⟩
          · repeat (first
    | (apply s_ldA TY; exact rfl; exact rfl; exact rfl; exact rfl; exact rfl; exact oa1)
    | (apply s_ldR TY (i := ((nbrs x ⟨(c : Nat), (r : Nat)⟩)[i].row.toNat + 100)); exact rfl; exact rfl; exact rfl; exact rfl; exact ra1; exact ca1)
    | (apply s_idxR TY (i := ((nbrs x ⟨(c : Nat), (r : Nat)⟩)[i].row.toNat + 100)); exact rfl; exact rfl; exact rfl; exact rfl; exact ra1; exact rfl; omega; omega)
    | (apply s_ldA TY; exact rfl; exact rfl; exact rfl; exact rfl; exact rfl; exact oa2)
    | (apply s_ldR TY (i := ((⟨(c : Nat), (r : Nat)⟩ : Cel).row.toNat + 100)); exact rfl; exact rfl; exact rfl; exact rfl; exact ra2; exact ca2)
    | (apply s_idxR TY (i := ((⟨(c : Nat), (r : Nat)⟩ : Cel).row.toNat + 100)); exact rfl; exact rfl; exact rfl; exact rfl; exact ra2; exact rfl; omega; omega)
    | (apply s_idxOA TY; exact rfl; exact rfl; exact rfl; exact rfl; exact rfl; exact rfl; omega; omega)
    | (apply s_a TY; exact rfl)
    | (apply s_t; exact rfl; (first | assumption | omega))
    | (apply s_f; exact rfl; (first | assumption | omega))
    | apply w_seq
    | apply w_region
    | (apply w_draw (id := 26) 22 rfl (by kernel_rfl))
    | apply s_nil
    | apply t_norm
    | apply k_norm
    | apply w_block
    | apply w_skip
    | (apply w_condT; exact rfl; exact rfl)
    | (apply w_condF; exact rfl; exact rfl)
    | (apply s_k (SS); exact rfl)
    | (apply s_c TY; exact rfl; (first | omega | exact ⟨by omega, by (first | with_reducible assumption | ((with_reducible apply intsF_ne); omega) | ((with_reducible apply matF_ne); omega) | ((with_reducible apply celsF_ne); omega))⟩))
    | (apply s_l TY; exact rfl; (first | exact rfl | with_reducible assumption | ((with_reducible apply intsF_at); omega) | ((with_reducible apply matF_at); omega) | assumption))
    | (apply s_m TY; exact rfl; (first | with_reducible assumption | ((with_reducible apply celsF_sub); omega) | exact rfl); exact rfl))
            exact ⟨(i + 1, M3, b3), ⟨by simp only; omega, hp3.keep hic hlt⟩, by simp only; omega, gh_le ⟨le_upd rfl trivial (le_upd rfl trivial (le_upd rfl rfl (le_upd rfl trivial (le_upd rfl trivial (le_upd rfl trivial (le_upd rfl rfl (le_upd rfl trivial (le_nil _)))))))), le_hupd rfl (fun y hy => by simp at hy; rcases hy with rfl | rfl <;> first | trivial | rfl) (le_hupd rfl mOut_cl1 (le_mR (fun r hr => by repeat (first | exact rfl | refine (upd_other _ _ (by omega)).trans ?_))))⟩⟩
        · have hie : i = (nbrs x ⟨(c : Nat), (r : Nat)⟩).length := by omega
          subst hie
          repeat (first
    | (apply s_a TY; exact rfl)
    | (apply s_f; exact rfl; (first | assumption | omega))
    | apply w_seq
    | apply w_region
    | apply s_nil
    | apply t_norm
    | apply t_exit
    | apply k_hit
    | apply k_norm
    | apply w_exit
    | (apply w_condF; exact rfl; exact rfl)
    | (apply s_c TY; exact rfl; (first | omega | exact ⟨by omega, by (first | with_reducible assumption | ((with_reducible apply intsF_ne); omega) | ((with_reducible apply matF_ne); omega) | ((with_reducible apply celsF_ne); omega))⟩)))
          exact ⟨(c + 1, M3, b3), ⟨by simp only; omega, hp3.col⟩, by simp only; omega, gh_le ⟨le_upd rfl trivial (le_upd rfl trivial (le_upd rfl trivial (le_upd rfl rfl (le_upd rfl trivial (le_nil _))))), le_hupd rfl mOut_cl0 (le_mR (fun r hr => by repeat (first | exact rfl | refine (upd_other _ _ (by omega)).trans ?_)))⟩⟩
      · have hce : c = x.tilt.length := by omega
        subst hce
        repeat (first
    | (apply s_a TY; exact rfl)
    | (apply s_f; exact rfl; (first | assumption | omega))
    | apply w_seq
    | apply w_region
    | apply s_nil
    | apply t_norm
    | apply t_exit
    | apply k_hit
    | apply k_norm
    | apply w_exit
    | (apply w_condF; exact rfl; exact rfl)
    | (apply s_c TY; exact rfl; (first | omega | exact ⟨by omega, by (first | with_reducible assumption | ((with_reducible apply intsF_ne); omega) | ((with_reducible apply matF_ne); omega) | ((with_reducible apply celsF_ne); omega))⟩)))
        exact ⟨(r + 1, M2, b2), ⟨by simp only; omega, hp2.row⟩, by simp only; omega, gh_le ⟨le_upd rfl trivial (le_upd rfl trivial (le_upd rfl rfl (le_upd rfl trivial (le_nil _)))), le_hupd rfl mOut_cl0 (le_mR (fun r hr => by repeat (first | exact rfl | refine (upd_other _ _ (by omega)).trans ?_)))⟩⟩
    · have hre : r = x.rows.toNat := by omega
      subst hre
      repeat (first
    | (apply s_a TY; exact rfl)
    | (apply s_f; exact rfl; (first | assumption | omega))
    | apply w_seq
    | apply w_region
    | apply s_nil
    | apply t_norm
    | apply t_exit
    | apply k_hit
    | apply k_norm
    | apply w_exit
    | (apply w_condF; exact rfl; exact rfl))
      exact ⟨(M1, b1), ⟨hp1.low, fun e => by simp only at e; subst e; exact hp1.fixed v hf⟩, by
        have h1 := hp1.le
        cases b1
        · simp; omega
        · have h2 := hp1.lt rfl
          simp; omega, gh_le ⟨le_upd rfl trivial (le_upd rfl rfl (le_upd rfl trivial (le_nil _))), le_hupd rfl mOut_cl0 (le_mR (fun r hr => by repeat (first | exact rfl | refine (upd_other _ _ (by omega)).trans ?_)))⟩⟩
end Go.Proofs.YtienhiloecfgnaaDoor
namespace Go.Proofs.YtienhiloecfgnaaDoor
open Go Go.RowKit Go.Proofs Go.Shelf Go.Ab
theorem dist_tri {x : Grid} (v : Valid x) {c n : Cel} (hc : InG x c) (hn : n ∈ nbrs x c) : ∀ (k : Nat) (y : Cel), InG x y → (distOf x n y).toNat ≤ k → distOf x c y ≤ stepI x c n + distOf x n y := by
  have hin := nbrs_in v hn
  obtain ⟨d1, _⟩ := distOf_all v hc
  obtain ⟨d2, _⟩ := distOf_all v hin
  intro k
  induction k using Nat.strongRecOn with
  | _ k ih =>
    intro y hy hk
    by_cases e : y = n
    · subst e
      have := d1.le c y hc hn
      rw [d1.zero] at this
      rw [d2.zero]; omega
    · obtain ⟨m, hm, q⟩ := d2.tight y hy e
      have hmi := nbrs_in v hm
      have s := stepI_bd v m y
      have p := d2.nonneg m hmi
      have h1 := ih (distOf x n m).toNat (by omega) m hmi (Nat.le_refl _)
      have h2 := d1.le m y hmi (nbrs_symm v hy hm)
      omega
theorem dist_back {x : Grid} (v : Valid x) {fr : Cel} (hf : InG x fr) : ∀ (k : Nat) (c : Cel), InG x c → (distOf x fr c).toNat ≤ k → distOf x c fr ≤ distOf x fr c := by
  obtain ⟨d1, _⟩ := distOf_all v hf
  intro k
  induction k using Nat.strongRecOn with
  | _ k ih =>
    intro c hc hk
    by_cases e : c = fr
    · subst e; exact Int.le_refl _
    · obtain ⟨n, hn, q⟩ := d1.tight c hc e
      have hin := nbrs_in v hn
      have s := stepI_bd v n c
      have p := d1.nonneg n hin
      have h1 := ih (distOf x fr n).toNat (by omega) n hin (Nat.le_refl _)
      have h2 := dist_tri v hc hn _ fr hf (Nat.le_refl _)
      rw [stepI_symm x c n] at h2
      omega
theorem dist_symm {x : Grid} (v : Valid x) {a b : Cel} (ha : InG x a) (hb : InG x b) : distOf x a b = distOf x b a :=
  Int.le_antisymm (dist_back v hb _ a ha (Nat.le_refl _)) (dist_back v ha _ b hb (Nat.le_refl _))
theorem way_all {x : Grid} {way : List Cel} (h : wayErrE x way = 0) : ∀ k, k < way.length → wayAt x way k = 0 := by
  have h0 : ¬ way.length = 0 := fun e => by rw [wayE_none e] at h; cases h
  have h1 : ¬ 41 < way.length := fun e => by rw [wayE_many e] at h; cases h
  unfold wayErrE at h
  rw [if_neg h0, if_neg h1, firstE_zero] at h
  exact fun k hk => h _ (List.mem_map.2 ⟨k, List.mem_range.2 hk, rfl⟩)
theorem way_adj {x : Grid} {way : List Cel} (h : wayErrE x way = 0) {k : Nat} (hk : k + 1 < way.length) : adjE (way[k]'(by omega)) way[k + 1] = 1 := by
  have h1 := way_all h (k + 1) hk
  unfold wayAt at h1
  rw [show k + 1 - 1 = k by omega, getC hk, getC (by omega)] at h1
  refine Classical.byContradiction fun hn => ?_
  by_cases e : cellErrE x way[k + 1] ≠ 0
  · rw [if_pos e] at h1; cases h1
  · rw [if_neg e, if_pos ⟨by omega, hn⟩] at h1; cases h1
theorem way_ge {x : Grid} {way : List Cel} (v : Valid x) (h : wayErrE x way = 0) : ∀ k (hk : k < way.length), distOf x (way[0]'(by omega)) way[k] ≤ delayTo x way (k + 1) := by
  have W := wayOk v h
  intro k
  induction k with
  | zero =>
    intro hk
    obtain ⟨d1, _⟩ := distOf_all v (W.inn 0 hk)
    rw [d1.zero]; exact (delayTo_bd v way 1).1
  | succ k ih =>
    intro hk
    have h1 := ih (by omega)
    obtain ⟨d1, _⟩ := distOf_all v (W.inn 0 (by omega))
    have h2 := d1.le _ _ (W.inn k (by omega)) ((adj_nbrs v (W.inn (k + 1) hk)).2 (way_adj h hk))
    rw [delayTo_succ hk]
    omega
end Go.Proofs.YtienhiloecfgnaaDoor
namespace Go.Proofs.YtienhiloecfgnaaDoor
open Go Go.RowKit Go.Proofs Go.Shelf Go.Ab
structure Down (x : Grid) (to : Cel) (w : List Cel) : Prop where
  inn : ∀ k (h : k < w.length), InG x w[k]
  step : ∀ k (h : k + 1 < w.length), adjE (w[k]'(by omega)) w[k + 1] = 1 ∧ distOf x to w[k + 1] + stepI x (w[k]'(by omega)) w[k + 1] = distOf x to (w[k]'(by omega))
  last : ∀ (h : w.length - 1 < w.length), w[w.length - 1] = to
theorem down_go {x : Grid} (v : Valid x) {to : Cel} (ht : InG x to) : ∀ (k : Nat) (c : Cel), InG x c → (distOf x to c).toNat ≤ k → Down x to (c :: wayGo x to (distOf x to c).toNat c) := by
  obtain ⟨hd, _⟩ := distOf_all v ht
  intro k
  induction k using Nat.strongRecOn with
  | _ k ih =>
    intro c hc hk
    by_cases e : c = to
    · subst e
      rw [wayGo_end]
      exact ⟨fun k h => by simp at h; subst h; exact hc, fun k h => by simp at h, fun h => rfl⟩
    · obtain ⟨n, q1, q2, q3, q4, q5⟩ := nextC_some v hd hc e
      have hm : n ∈ nbrs x c := List.mem_of_find?_eq_some q1
      rw [wayGo_step v hd hc e q1]
      have D := ih (distOf x to n).toNat (by omega) n q2 (Nat.le_refl _)
      refine ⟨fun k h => ?_, fun k h => ?_, fun h => ?_⟩
      · cases k with
        | zero => exact hc
        | succ k => exact D.inn k (by simpa using h)
      · cases k with
        | zero => exact ⟨(adj_nbrs v q2).1 hm, q3⟩
        | succ k => exact D.step k (by simpa using h)
      · exact D.last (by simp)
theorem down_delay {x : Grid} {to : Cel} {w : List Cel} (D : Down x to w) : ∀ k (h : k < w.length), delayTo x w (k + 1) + distOf x to w[k] = distOf x to (w[0]'(by omega)) := by
  intro k
  induction k with
  | zero => intro h; simp [delayTo]
  | succ k ih =>
    intro h
    have h1 := ih (by omega)
    have h2 := (D.step k h).2
    rw [delayTo_succ h]
    omega
theorem wayM_down {x : Grid} (v : Valid x) {fr to : Cel} (hf : InG x fr) (ht : InG x to) : Down x to (wayM x fr to) := down_go v ht _ fr hf (Nat.le_refl _)
theorem wayM_delay {x : Grid} (v : Valid x) {fr to : Cel} (hf : InG x fr) (ht : InG x to) : delayTo x (wayM x fr to) (wayM x fr to).length = distOf x to fr := by
  have D := wayM_down v hf ht
  obtain ⟨hd, _⟩ := distOf_all v ht
  have hl : (wayM x fr to).length - 1 < (wayM x fr to).length := by simp [wayM]
  have h1 := down_delay D _ hl
  rw [D.last hl, hd.zero, show (wayM x fr to).length - 1 + 1 = (wayM x fr to).length by omega] at h1
  have h2 : (wayM x fr to)[0]'(by omega) = fr := rfl
  rw [h2] at h1
  omega
theorem wayM_ok {x : Grid} (v : Valid x) {fr to : Cel} (hf : InG x fr) (ht : InG x to) (hl : (wayM x fr to).length ≤ 41) : wayErrE x (wayM x fr to) = 0 := by
  have D := wayM_down v hf ht
  refine wayE_ok (by simp [wayM]) (by omega) fun k hk => ?_
  unfold wayAt
  rw [getC hk, if_neg (fun h => h ((cellE_in v).2 (D.inn k hk)))]
  refine if_neg ?_
  rintro ⟨h0, h1⟩
  obtain ⟨j, rfl⟩ : ∃ j, k = j + 1 := ⟨k - 1, by omega⟩
  rw [show j + 1 - 1 = j by omega, getC (by omega)] at h1
  exact h1 (D.step j hk).1
end Go.Proofs.YtienhiloecfgnaaDoor
namespace Go.Proofs.YtienhiloecfgnaaDoor
open Go Go.RowKit Go.Proofs Go.Shelf Go.Ab
theorem nodup_leC {α : Type} [DecidableEq α] : ∀ (w L : List α), w.Nodup → (∀ a ∈ w, a ∈ L) → w.length ≤ L.length
  | [], _, _, _ => Nat.zero_le _
  | a :: w, L, hn, hs => by
    have ha : a ∈ L := hs a (by simp)
    rw [List.nodup_cons] at hn
    have h1 := nodup_leC w (L.erase a) hn.2 (fun b hb => (List.mem_erase_of_ne (fun (e : b = a) => hn.1 (e ▸ hb))).2 (hs b (by simp [hb])))
    rw [List.length_erase_of_mem ha] at h1
    have : 0 < L.length := List.length_pos_of_mem ha
    simp only [List.length_cons]
    omega
theorem down_lt {x : Grid} (v : Valid x) {to : Cel} {w : List Cel} (D : Down x to w) {i : Nat} : ∀ j (hj : j < w.length) (hij : i < j), distOf x to w[j] < distOf x to (w[i]'(by omega)) := by
  intro j
  induction j with
  | zero => intro _ h; omega
  | succ j ih =>
    intro hj hij
    have h1 := (D.step j hj).2
    have h2 := stepI_bd v (w[j]'(by omega)) w[j + 1]
    by_cases e : i = j
    · subst e; omega
    · have := ih (by omega) (by omega)
      omega
theorem wayM_len {x : Grid} (v : Valid x) {fr to : Cel} (hf : InG x fr) (ht : InG x to) : (wayM x fr to).length ≤ 96 := by
  have D := wayM_down v hf ht
  have hn : (wayM x fr to).Nodup := by
    unfold List.Nodup
    rw [List.pairwise_iff_getElem]
    intro i j hi hj hij e
    have := down_lt v D j hj hij
    rw [e] at this
    exact absurd this (Int.lt_irrefl _)
  have h1 := nodup_leC _ (cellsL x) hn (fun c hc => by
    obtain ⟨k, hk, rfl⟩ := List.mem_iff_getElem.1 hc
    have hi := D.inn k hk
    generalize (wayM x fr to)[k] = c at hi
    obtain ⟨⟨c0, c1⟩, r0, r1⟩ := hi
    simp only [cellsL, List.mem_flatMap, List.mem_map, List.mem_range]
    exact ⟨c.row.toNat, by omega, c.col.toNat, by omega, by cases c; simp at *; omega⟩)
  rw [cellsL_len] at h1
  have a := v.r12
  have b := v.t8
  have : x.rows.toNat * x.tilt.length ≤ 12 * 8 := Nat.mul_le_mul (by omega) b
  omega
end Go.Proofs.YtienhiloecfgnaaDoor
namespace Go.Proofs.YtienhiloecfgnaaDoor
open Go Go.RowKit Go.Proofs Go.Shelf Go.Ab
theorem necT {x y : Operand} {a b : Cel} (h : ¬ a = b) : ∀ w, (do eqGuard .neq 27 x y (.agg #[.int .i64 a.col, .int .i64 a.row]) (.agg #[.int .i64 b.col, .int .i64 b.row]); binOp .neq 27 (.agg #[.int .i64 a.col, .int .i64 a.row]) (.agg #[.int .i64 b.col, .int .i64 b.row]) : Sem Value).run Tryd.prog w = .ok (.bool true) w := fun w => by
  have hg : Tryd.prog.eqGuardType Tryd.prog.depth 27 = false := by kernel_rfl
  have h2 := neq_cel a b w
  rw [decide_eq_false h] at h2
  simp [eqGuard, hg, h2]
theorem necF {x y : Operand} (a : Cel) : ∀ w, (do eqGuard .neq 27 x y (.agg #[.int .i64 a.col, .int .i64 a.row]) (.agg #[.int .i64 a.col, .int .i64 a.row]); binOp .neq 27 (.agg #[.int .i64 a.col, .int .i64 a.row]) (.agg #[.int .i64 a.col, .int .i64 a.row]) : Sem Value).run Tryd.prog w = .ok (.bool false) w := fun w => by
  have hg : Tryd.prog.eqGuardType Tryd.prog.depth 27 = false := by kernel_rfl
  have h2 := neq_cel a a w
  rw [decide_eq_true rfl] at h2
  simp [eqGuard, hg, h2]
theorem wayGo_to (x : Grid) (to : Cel) : ∀ k, wayGo x to k to = []
  | 0 => rfl
  | _ + 1 => if_pos rfl
theorem wayGo_next {x : Grid} {to c n : Cel} {k : Nat} (hne : ¬ c = to) (h : nextC x to c = some n) : wayGo x to (k + 1) c = n :: wayGo x to k n := by
  rw [wayGo, if_neg hne, h]
set_option maxRecDepth 100000 in
set_option maxHeartbeats 4000000 in
theorem Way_s (x : Grid) (fr to : Cel) (v : Valid x) (hf : InG x fr) (ht : InG x to) : Summ Tryd.prog GG 64 [gridF x, .agg (celF fr), .agg (celF to)] (.sl (wayM x fr to).length (celsF (wayM x fr to))) := by
  have TM := Times_s x to v ht
  have sh := timesM_shape v to
  have l1 := sh.len
  have r12 := v.r12
  have t8 := v.t8
  obtain ⟨hd, hdm⟩ := distOf_all v ht
  have hml := wayM_len v hf ht
  refine summW Tryd.func64 rfl rfl 68 rfl (by simp) (fun M0 => ?_)
  repeat (first
    | (apply s_bslicew TY (d := some 16); exact rfl; exact rfl; exact rfl; exact rfl; exact rfl; exact rfl; exact rfl; exact rfl; exact rfl)
    | (apply s_a TY; exact rfl)
    | apply w_seq
    | apply w_region
    | apply s_nil
    | apply t_norm
    | apply w_block
    | (apply s_k (TM); exact rfl)
    | (apply s_alloc TY; exact rfl; exact rfl; exact rfl)
    | (apply s_store TY; exact rfl; exact rfl; exact rfl; exact rfl; exact rfl; exact rfl))
  apply w_loop (fun p : List Cel × Cel × Nat => ⟨(Ab.upd (Ab.upd (Ab.upd (Ab.upd (Ab.upd (fun _ => .bot) 3 (.f (.pt (gridL x) 0))) 5 (.f (.pt (celF to) 0))) 7 (.f (.sl (timesM x to).length (matF (timesM x to))))) 8 (.ow 0)) 9 (.bx 1 0)), (Ab.upd (Ab.upd (fun _ => none) 0 (some (.row 27 2 p.1.length (celsF p.1)))) 1 (some (.box [.f (iv p.2.1.col), .f (iv p.2.1.row)]))), 2⟩) (fun p => p.1 ++ wayGo x to p.2.2 p.2.1 = wayM x fr to ∧ InG x p.2.1 ∧ (distOf x to p.2.1).toNat ≤ p.2.2) (fun p => p.2.2) ([fr], fr, (distOf x to fr).toNat) (⟨rfl, hf, Nat.le_refl _⟩) (gh_le ⟨le_upd rfl rfl (le_upd rfl rfl (le_upd rfl trivial (le_upd rfl trivial (le_upd rfl trivial (le_nil _))))), le_hupd rfl (fun y hy => by simp at hy; rcases hy with rfl | rfl <;> first | trivial | rfl) (le_hupd rfl trivial (le_h0 _ _))⟩)
  rintro ⟨w, c, k⟩ ⟨he, hc, hk⟩
  show W _ _ _ _ ⟨(Ab.upd (Ab.upd (Ab.upd (Ab.upd (Ab.upd (fun _ => .bot) 3 (.f (.pt (gridL x) 0))) 5 (.f (.pt (celF to) 0))) 7 (.f (.sl (timesM x to).length (matF (timesM x to))))) 8 (.ow 0)) 9 (.bx 1 0)), (Ab.upd (Ab.upd (fun _ => none) 0 (some (.row 27 2 w.length (celsF w)))) 1 (some (.box [.f (iv c.col), .f (iv c.row)]))), 2⟩
  simp only at he hc hk
  have hwl : w.length ≤ 96 := by
    have := congrArg List.length he
    rw [List.length_append] at this
    omega
  by_cases hct : c = to
  · subst hct
    rw [wayGo_to, List.append_nil] at he
    repeat (first
    | (apply s_bind; exact rfl; exact rfl; exact rfl; exact rfl; exact rfl; exact rfl; exact necF _)
    | (apply s_a TY; exact rfl)
    | apply w_seq
    | apply w_region
    | apply s_nil
    | apply t_norm
    | apply t_exit
    | apply k_hit
    | apply w_exit
    | apply w_ret
    | (apply w_condF; exact rfl; exact rfl))
    refine lv_ret (ret_gh (gh_row 0 rfl) ?_)
    exact ret1 rfl (res_tmp (congrArg (fun l : List Cel => AV.f (.sl l.length (celsF l))) he))
  · obtain ⟨n, hn, hnn, hst, hlt⟩ := nextC_some v hd hc hct
    have AR := around_s x c v hc
    have hfind := hn
    unfold nextC at hfind
    obtain ⟨hp, j0, hj0, ej0, hbefore⟩ := List.find?_eq_some_iff_getElem.1 hfind
    have hnl := keepS_len x c 4
    rw [keepS_all] at hnl
    repeat (first
    | (apply s_bind; exact rfl; exact rfl; exact rfl; exact rfl; exact rfl; exact rfl; exact necT (by assumption))
    | (apply s_a TY; exact rfl)
    | apply w_seq
    | apply w_region
    | apply s_nil
    | apply t_norm
    | apply w_block
    | apply w_skip
    | (apply w_condT; exact rfl; exact rfl)
    | (apply s_k (AR); exact rfl))
    apply w_loop (fun j : Nat => ⟨(Ab.upd (Ab.upd (Ab.upd (Ab.upd (Ab.upd (Ab.upd (Ab.upd (fun _ => .bot) 3 (.f (.pt (gridL x) 0))) 5 (.f (.pt (celF to) 0))) 7 (.f (.sl (timesM x to).length (matF (timesM x to))))) 8 (.ow 0)) 9 (.bx 1 0)) 10 (.f (.sl (nbrs x c).length (celsF (nbrs x c))))) 11 (.f (iv (j : Nat)))), (Ab.upd (Ab.upd (fun _ => none) 0 (some (.row 27 2 w.length (celsF w)))) 1 (some (.box [.f (iv c.col), .f (iv c.row)]))), 2⟩) (fun j => j ≤ j0) (fun j => (nbrs x c).length - j) 0 (Nat.zero_le _) (gh_le ⟨le_upd rfl trivial (le_upd rfl trivial (le_upd rfl rfl (le_upd rfl rfl (le_upd rfl trivial (le_upd rfl trivial (le_upd rfl trivial (le_nil _))))))), le_hupd rfl (fun y hy => by simp at hy; rcases hy with rfl | rfl <;> first | trivial | rfl) (le_hupd rfl trivial (le_h0 _ _))⟩)
    intro j hj
    have hjl : j < (nbrs x c).length := by omega
    have nin : InG x (nbrs x c)[j] := nbrs_in v (List.getElem_mem hjl)
    obtain ⟨q1, q2, qa⟩ := tab_at sh nin
    rw [tab_timesM nin] at qa
    obtain ⟨p1, p2, pa⟩ := tab_at sh hc
    rw [tab_timesM hc] at pa
    have fc := celsF_col hjl
    have fw := celsF_row hjl
    have SS := Step_s x c (nbrs x c)[j] v hc nin
    have b1 := hd.nonneg _ nin
    have b2 := hdm _ nin
    have b3 := stepI_bd v c (nbrs x c)[j]
    obtain ⟨⟨g0, g1⟩, g2, g3⟩ := id nin
    obtain ⟨⟨h0, h1⟩, h2, h3⟩ := id hc
    by_cases hjj : j = j0
    · subst hjj
      have hcond : distOf x to (nbrs x c)[j] + stepI x c (nbrs x c)[j] = distOf x to c := by rw [ej0]; exact hst
      repeat (first
    | (apply s_append TY; exact rfl; exact rfl; exact rfl; exact rfl; exact rfl; exact rfl; exact rfl; exact rfl; exact rfl; (unfold maxLen; omega); omega)
    | (apply s_a TY; exact rfl)
    | (apply s_t; exact rfl; (first | assumption | omega))
    | apply w_seq
    | apply w_region
    | (apply w_draw (id := 7) 32 rfl (by kernel_rfl))
    | apply s_nil
    | apply t_norm
    | apply t_exit
    | apply k_hit
    | apply k_norm
    | apply w_exit
    | (apply w_condF; exact rfl; exact rfl)
    | (apply s_k (SS); exact rfl)
    | (apply s_c TY; exact rfl; (first | omega | exact ⟨by omega, by (first | with_reducible assumption | ((with_reducible apply intsF_ne); omega) | ((with_reducible apply matF_ne); omega) | ((with_reducible apply celsF_ne); omega) | assumption)⟩))
    | (apply s_z TY; exact rfl; (first | omega | exact ⟨by omega, by (first | with_reducible assumption | ((with_reducible apply intsF_ne); omega) | ((with_reducible apply matF_ne); omega) | ((with_reducible apply celsF_ne); omega) | assumption)⟩))
    | (apply s_l TY; exact rfl; (first | exact rfl | with_reducible assumption | ((with_reducible apply intsF_at); omega) | ((with_reducible apply matF_at); omega) | assumption))
    | (apply s_m TY; exact rfl; (first | with_reducible assumption | ((with_reducible apply celsF_sub); omega) | exact rfl); exact rfl)
    | (apply s_store TY; exact rfl; exact rfl; exact rfl; exact rfl; exact rfl; exact rfl))
      obtain ⟨k', rfl⟩ : ∃ k', k = k' + 1 := ⟨k - 1, by have := stepI_bd v c n; have := hd.nonneg n hnn; omega⟩
      exact ⟨(w ++ [n], n, k'), ⟨by rw [← he, wayGo_next hct hn]; simp, hnn, by have := stepI_bd v c n; simp only; omega⟩, by simp only; omega, gh_le ⟨le_upd rfl rfl (le_upd rfl rfl (le_upd rfl trivial (le_upd rfl trivial (le_upd rfl trivial (le_nil _))))), le_hupd (by rw [← ej0]; rfl) (fun y hy => by simp at hy; rcases hy with rfl | rfl <;> first | trivial | rfl) (le_hupd ((row_app w n).trans (by rw [← ej0]; rfl)).symm trivial (le_h0 _ _))⟩⟩
    · have hcond : ¬ distOf x to (nbrs x c)[j] + stepI x c (nbrs x c)[j] = distOf x to c := by simpa using hbefore j (by omega)
      repeat (first
    | (apply s_a TY; exact rfl)
    | (apply s_f; exact rfl; (first | assumption | omega))
    | apply w_seq
    | apply w_region
    | (apply w_draw (id := 7) 32 rfl (by kernel_rfl))
    | apply s_nil
    | apply t_norm
    | apply k_norm
    | apply w_block
    | apply w_skip
    | (apply w_condT; exact rfl; exact rfl)
    | (apply s_k (SS); exact rfl)
    | (apply s_c TY; exact rfl; (first | omega | exact ⟨by omega, by (first | with_reducible assumption | ((with_reducible apply intsF_ne); omega) | ((with_reducible apply matF_ne); omega) | ((with_reducible apply celsF_ne); omega) | assumption)⟩))
    | (apply s_z TY; exact rfl; (first | omega | exact ⟨by omega, by (first | with_reducible assumption | ((with_reducible apply intsF_ne); omega) | ((with_reducible apply matF_ne); omega) | ((with_reducible apply celsF_ne); omega) | assumption)⟩))
    | (apply s_l TY; exact rfl; (first | exact rfl | with_reducible assumption | ((with_reducible apply intsF_at); omega) | ((with_reducible apply matF_at); omega) | assumption))
    | (apply s_m TY; exact rfl; (first | with_reducible assumption | ((with_reducible apply celsF_sub); omega) | exact rfl); exact rfl))
      exact ⟨j + 1, by omega, by omega, gh_le ⟨le_upd rfl trivial (le_upd rfl trivial (le_upd rfl rfl (le_upd rfl rfl (le_upd rfl trivial (le_upd rfl trivial (le_upd rfl trivial (le_nil _))))))), le_hupd rfl (fun y hy => by simp at hy; rcases hy with rfl | rfl <;> first | trivial | rfl) (le_hupd rfl trivial (le_h0 _ _))⟩⟩
end Go.Proofs.YtienhiloecfgnaaDoor
namespace Go.Proofs.YtienhiloecfgnaaDoor
open Go Go.RowKit Go.Proofs Go.Shelf Go.Ab
theorem chkL_app {f : Cel → Int} : ∀ {A B : List Cel}, (∀ a ∈ A, f a = 0) → chkL f (A ++ B) = chkL f B
  | [], _, _ => rfl
  | c :: r, B, h => by
    show (if f c = 0 then chkL f (r ++ B) else (c, f c)) = _
    rw [if_pos (h c (by simp)), chkL_app (fun a ha => h a (by simp [ha]))]
theorem chkL_hit {f : Cel → Int} {c : Cel} {B : List Cel} (h : f c ≠ 0) : chkL f (c :: B) = (c, f c) := if_neg h
theorem chkL_all {f : Cel → Int} {A : List Cel} (h : ∀ a ∈ A, f a = 0) : chkL f A = (⟨0, 0⟩, 0) := by
  have := chkL_app (B := []) h
  rwa [List.append_nil] at this
theorem range_split {n k : Nat} (h : k < n) : ∃ l, List.range n = List.range k ++ k :: l := by
  obtain ⟨m, rfl⟩ : ∃ m, n = k + 1 + m := ⟨n - k - 1, by omega⟩
  exact ⟨(List.range m).map (k + 1 + ·), by rw [List.range_add, List.range_succ]; simp⟩
theorem chkL_first {x : Grid} {f : Cel → Int} {r c : Nat} (hr : r < x.rows.toNat) (hc : c < x.tilt.length) (h0 : ∀ a, InG x a → (a.row < r ∨ (a.row = r ∧ a.col < c)) → f a = 0) (h : f ⟨(c : Nat), (r : Nat)⟩ ≠ 0) : chkL f (cellsL x) = (⟨(c : Nat), (r : Nat)⟩, f ⟨(c : Nat), (r : Nat)⟩) := by
  obtain ⟨l1, e1⟩ := range_split hr
  obtain ⟨l2, e2⟩ := range_split hc
  unfold cellsL
  rw [e1, List.flatMap_append, chkL_app, List.flatMap_cons, e2, List.map_append, List.append_assoc, chkL_app, List.map_cons, List.cons_append, chkL_hit h]
  · intro a ha
    obtain ⟨q, hq, rfl⟩ := List.mem_map.1 ha
    have hq := List.mem_range.1 hq
    exact h0 _ ⟨⟨by simp, by simp; omega⟩, by simp, by simp; omega⟩ (.inr ⟨by simp, by simp; omega⟩)
  · intro a ha
    obtain ⟨q, hq, ha⟩ := List.mem_flatMap.1 ha
    have hq := List.mem_range.1 hq
    obtain ⟨p, hp, rfl⟩ := List.mem_map.1 ha
    have hp := List.mem_range.1 hp
    exact h0 _ ⟨⟨by simp, by simp; omega⟩, by simp, by simp; omega⟩ (.inl (by simp; omega))
theorem chkL_none {x : Grid} {f : Cel → Int} (h0 : ∀ a, InG x a → f a = 0) : chkL f (cellsL x) = (⟨0, 0⟩, 0) := chkL_all fun a ha => by
  obtain ⟨k, hk, rfl⟩ := List.mem_iff_getElem.1 ha
  exact h0 _ (cellsL_in hk)
theorem head_of {x : Grid} (v : Valid x) {fr : Cel} (hf : InG x fr) (T : List (List Int)) : headE x fr T = if (T.length : Int) = x.rows ∧ evenB x T = true then 0 else 10 := by
  unfold headE
  rw [if_neg (fun h => h ((checkIce_zero x).2 v)), if_neg (fun h => h ((cellE_in v).2 hf))]
theorem chkT_shape {x : Grid} (v : Valid x) {fr : Cel} (hf : InG x fr) {T : List (List Int)} (h : ¬ ((T.length : Int) = x.rows ∧ evenB x T = true)) : chkT x fr T = (⟨0, 0⟩, 10) := by
  have hh : headE x fr T = 10 := (head_of v hf T).trans (if_neg h)
  unfold chkT
  rw [hh, if_neg (by decide)]
theorem chkT_ok {x : Grid} (v : Valid x) {fr : Cel} (hf : InG x fr) {T : List (List Int)} (sh : ShapeOk x T) : chkT x fr T = chkL (timeE x fr T) (cellsL x) := by
  have hh : headE x fr T = 0 := (head_of v hf T).trans (if_pos ⟨sh.len, (even_spec x T).2 sh.row⟩)
  unfold chkT
  rw [if_pos hh]
theorem nbT_ln (x : Grid) (c : Cel) : (nbTimes x c).length = (nbrs x c).length := by simp [nbTimes]
theorem nbT_at (x : Grid) (c : Cel) {k : Nat} (h : k < (nbrs x c).length) : (nbTimes x c)[k]'(by rw [nbT_ln]; exact h) = ((nbrs x c)[k], stepI x c (nbrs x c)[k]) := by simp [nbTimes]
theorem late_of {L : List (Cel × Int)} {T : List (List Int)} {c : Cel} {k : Nat} (h : k < L.length) (hl : tab T L[k].1 < tab T c - L[k].2) : lateN L T c L.length = true := by
  unfold lateN
  rw [List.take_length, List.any_eq_true]
  exact ⟨L[k], List.getElem_mem h, decide_eq_true hl⟩
set_option maxRecDepth 100000 in
set_option maxHeartbeats 8000000 in
theorem RCheck_s (x : Grid) (fr : Cel) (T : List (List Int)) (v : Valid x) (hf : InG x fr) (_hT : T.length ≤ 1000) (hR : ∀ r ∈ T, r.length ≤ 1000) : Summ Tryd.prog GG 61 [gridF x, .agg (celF fr), .sl T.length (matF T)] (.tup [.agg (celF (chkT x fr T).1), iv (chkT x fr T).2]) := by
  have r1 := v.r1
  have r12 := v.r12
  have t8 := v.t8
  refine summW Tryd.func61 rfl rfl 130 rfl (by simp) (fun M0 => ?_)
  by_cases hlen : (T.length : Int) = x.rows
  case neg =>
    repeat (first
    | (apply s_a TY; exact rfl)
    | (apply s_f; exact rfl; (first | assumption | omega))
    | apply w_seq
    | apply w_region
    | apply s_nil
    | apply t_norm
    | apply t_ret
    | apply w_ret
    | (apply w_condT; exact rfl; exact rfl)
    | (apply s_alloc TY; exact rfl; exact rfl; exact rfl)
    | (apply s_store TY; exact rfl; exact rfl; exact rfl; exact rfl; exact rfl; exact rfl))
    rw [chkT_shape v hf (fun h => hlen h.1)]
    exact lv_ret (ret2 rfl (res_bxs (sub := celF ⟨0, 0⟩) TY rfl rfl rfl rfl rfl) (res_tmp rfl))
  repeat (first
    | (apply s_a TY; exact rfl)
    | (apply s_t; exact rfl; (first | assumption | omega))
    | apply w_seq
    | apply w_region
    | apply s_nil
    | apply t_norm
    | apply w_block
    | apply w_skip
    | (apply w_condF; exact rfl; exact rfl)
    | (apply s_alloc TY; exact rfl; exact rfl; exact rfl))
  apply w_loop (fun k : Nat => ⟨(Ab.upd (Ab.upd (Ab.upd (Ab.upd (Ab.upd (fun _ => .bot) 2 (.f (.sl T.length (matF T)))) 3 (.f (.pt (gridL x) 0))) 4 (.f (.pt (celF fr) 0))) 6 (.bx 0 0)) 8 (.f (iv (k : Nat)))), (Ab.upd (fun _ => none) 0 (some (.box [.f (iv 0), .f (iv 0)]))), 1⟩) (fun k => k ≤ T.length ∧ ∀ j (h : j < T.length), j < k → T[j].length = x.tilt.length) (fun k => T.length - k) 0 (⟨Nat.zero_le _, fun j _ h => absurd h (Nat.not_lt_zero j)⟩) (gh_le ⟨le_upd rfl trivial (le_upd rfl rfl (le_upd rfl trivial (le_upd rfl trivial (le_upd rfl trivial (le_nil _))))), le_hupd rfl (fun y hy => by simp at hy; rcases hy with rfl | rfl <;> first | trivial | rfl) (le_h0 _ _)⟩)
  intro k ⟨hk, hall⟩
  by_cases hkc : k < T.length
  · have hRk := hR T[k] (List.getElem_mem hkc)
    by_cases hev : T[k].length = x.tilt.length
    · repeat (first
    | (apply s_a TY; exact rfl)
    | (apply s_t; exact rfl; (first | assumption | omega))
    | apply w_seq
    | apply w_region
    | (apply w_draw (id := 6) 8 rfl (by kernel_rfl))
    | apply s_nil
    | apply t_norm
    | apply k_norm
    | apply w_block
    | apply w_skip
    | (apply w_condT; exact rfl; exact rfl)
    | (apply w_condF; exact rfl; exact rfl)
    | (apply s_c TY; exact rfl; (first | omega | exact ⟨by omega, by (first | with_reducible assumption | ((with_reducible apply intsF_ne); omega) | ((with_reducible apply matF_ne); omega) | ((with_reducible apply celsF_ne); omega) | assumption)⟩))
    | (apply s_l TY; exact rfl; (first | exact rfl | with_reducible assumption | ((with_reducible apply intsF_at); omega) | ((with_reducible apply matF_at); omega) | assumption)))
      exact ⟨k + 1, ⟨by omega, fun j h hj => by
        by_cases e : j = k
        · subst e; exact hev
        · exact hall j h (by omega)⟩, by omega, gh_le ⟨le_upd rfl trivial (le_upd rfl rfl (le_upd rfl trivial (le_upd rfl trivial (le_upd rfl trivial (le_nil _))))), le_hupd rfl (fun y hy => by simp at hy; rcases hy with rfl | rfl <;> first | trivial | rfl) (le_h0 _ _)⟩⟩
    · repeat (first
    | (apply s_a TY; exact rfl)
    | (apply s_t; exact rfl; (first | assumption | omega))
    | (apply s_f; exact rfl; (first | assumption | omega))
    | apply w_seq
    | apply w_region
    | (apply w_draw (id := 6) 8 rfl (by kernel_rfl))
    | apply s_nil
    | apply t_norm
    | apply t_ret
    | apply k_ret
    | apply w_block
    | apply w_ret
    | apply w_skip
    | (apply w_condT; exact rfl; exact rfl)
    | (apply s_c TY; exact rfl; (first | omega | exact ⟨by omega, by (first | with_reducible assumption | ((with_reducible apply intsF_ne); omega) | ((with_reducible apply matF_ne); omega) | ((with_reducible apply celsF_ne); omega) | assumption)⟩))
    | (apply s_l TY; exact rfl; (first | exact rfl | with_reducible assumption | ((with_reducible apply intsF_at); omega) | ((with_reducible apply matF_at); omega) | assumption))
    | (apply s_store TY; exact rfl; exact rfl; exact rfl; exact rfl; exact rfl; exact rfl))
      rw [chkT_shape v hf (fun h => hev ((even_spec x T).1 h.2 _ (List.getElem_mem hkc)))]
      exact lv_ret (ret2 rfl (res_bxs (sub := celF ⟨0, 0⟩) TY rfl rfl rfl rfl rfl) (res_tmp rfl))
  · have hke : k = T.length := by omega
    subst hke
    have sh : ShapeOk x T := ⟨hlen, fun r hr => by
      obtain ⟨j, hj, rfl⟩ := List.mem_iff_getElem.1 hr
      exact hall j hj hj⟩
    repeat (first
    | (apply s_a TY; exact rfl)
    | (apply s_f; exact rfl; (first | assumption | omega))
    | apply w_seq
    | apply w_region
    | apply s_nil
    | apply t_norm
    | apply t_exit
    | apply k_hit
    | apply w_block
    | apply w_exit
    | (apply w_condF; exact rfl; exact rfl))
    apply w_loop (fun r : Nat => ⟨(Ab.upd (Ab.upd (Ab.upd (Ab.upd (Ab.upd (fun _ => .bot) 2 (.f (.sl T.length (matF T)))) 3 (.f (.pt (gridL x) 0))) 4 (.f (.pt (celF fr) 0))) 6 (.bx 0 0)) 9 (.f (iv (r : Nat)))), (Ab.upd (fun _ => none) 0 (some (.box [.f (iv 0), .f (iv 0)]))), 1⟩) (fun r => r ≤ x.rows.toNat ∧ ∀ a, InG x a → a.row < r → timeE x fr T a = 0) (fun r => x.rows.toNat - r) 0 (⟨Nat.zero_le _, fun a ha h => by obtain ⟨_, a2, a3⟩ := ha; omega⟩) (gh_le ⟨le_upd rfl trivial (le_upd rfl rfl (le_upd rfl trivial (le_upd rfl trivial (le_upd rfl trivial (le_nil _))))), le_hupd rfl (fun y hy => by simp at hy; rcases hy with rfl | rfl <;> first | trivial | rfl) (le_h0 _ _)⟩)
    intro r ⟨hr, hall1⟩
    by_cases hrc : r < x.rows.toNat
    · repeat (first
    | (apply s_a TY; exact rfl)
    | (apply s_t; exact rfl; (first | assumption | omega))
    | apply w_seq
    | apply w_region
    | apply s_nil
    | apply t_norm
    | apply w_block
    | apply w_skip
    | (apply w_condT; exact rfl; exact rfl))
      apply w_loop (fun c : Nat => ⟨(Ab.upd (Ab.upd (Ab.upd (Ab.upd (Ab.upd (Ab.upd (fun _ => .bot) 2 (.f (.sl T.length (matF T)))) 3 (.f (.pt (gridL x) 0))) 4 (.f (.pt (celF fr) 0))) 6 (.bx 0 0)) 9 (.f (iv (r : Nat)))) 10 (.f (iv (c : Nat)))), (Ab.upd (fun _ => none) 0 (some (.box [.f (iv 0), .f (iv 0)]))), 1⟩) (fun c => c ≤ x.tilt.length ∧ ∀ a, InG x a → (a.row < r ∨ (a.row = r ∧ a.col < c)) → timeE x fr T a = 0) (fun c => x.tilt.length - c) 0 (⟨Nat.zero_le _, fun a ha h => by obtain ⟨⟨a0, a1⟩, a2, a3⟩ := ha; exact hall1 a ⟨⟨a0, a1⟩, a2, a3⟩ (by omega)⟩) (gh_le ⟨le_upd rfl trivial (le_upd rfl trivial (le_upd rfl rfl (le_upd rfl trivial (le_upd rfl trivial (le_upd rfl trivial (le_nil _)))))), le_hupd rfl (fun y hy => by simp at hy; rcases hy with rfl | rfl <;> first | trivial | rfl) (le_h0 _ _)⟩)
      intro c ⟨hc, hall2⟩
      by_cases hcc : c < x.tilt.length
      · have hin : InG x (⟨(c : Nat), (r : Nat)⟩ : Cel) := ⟨⟨Int.natCast_nonneg _, by simp only; omega⟩, Int.natCast_nonneg _, by simp only; omega⟩
        have AR := around_s x (⟨(c : Nat), (r : Nat)⟩ : Cel) v hin
        have hnl := keepS_len x (⟨(c : Nat), (r : Nat)⟩ : Cel) 4
        rw [keepS_all] at hnl
        obtain ⟨o1, o2, oa⟩ := tab_at sh hin
        have o1 : r < T.length := o1
        have o2 : c < T[r].length := o2
        have oa : (intsF T[r])[c * 1]? = some (iv (tab T (⟨(c : Nat), (r : Nat)⟩ : Cel))) := oa
        by_cases h1 : 0 ≤ tab T (⟨(c : Nat), (r : Nat)⟩ : Cel) ∧ tab T (⟨(c : Nat), (r : Nat)⟩ : Cel) ≤ 1000000
        case neg =>
          repeat (first
    | (apply w_draw1 (id := 14) 11 rfl (by kernel_rfl); exact rfl; kernel_rfl)
    | (apply s_allocB TY (d := some 11); exact rfl; exact rfl; exact rfl)
    | (apply s_sto TY; exact rfl; exact rfl; exact rfl; exact rfl; exact rfl; exact rfl; exact rfl)
    | (apply s_a TY; exact rfl)
    | (apply s_t; exact rfl; (first | assumption | omega))
    | apply w_seq
    | apply w_region
    | apply s_nil
    | apply t_norm
    | apply t_ret
    | apply k_ret
    | apply w_block
    | apply w_ret
    | apply w_skip
    | (apply w_condT; exact rfl; exact rfl)
    | (apply s_k1 (Within_f _ _ _); exact rfl; (first | assumption | omega | decide))
    | (apply s_c TY; exact rfl; (first | omega | exact ⟨by omega, by (first | with_reducible assumption | ((with_reducible apply intsF_ne); omega) | ((with_reducible apply matF_ne); omega) | ((with_reducible apply celsF_ne); omega) | assumption)⟩))
    | (apply s_l TY; exact rfl; (first | exact rfl | with_reducible assumption | ((with_reducible apply intsF_at); omega) | ((with_reducible apply matF_at); omega) | assumption))
    | (apply s_store TY; exact rfl; exact rfl; exact rfl; exact rfl; exact rfl; exact rfl))
          have hE : timeE x fr T (⟨(c : Nat), (r : Nat)⟩ : Cel) = 2 := if_pos h1
          rw [chkT_ok v hf sh, chkL_first hrc hcc hall2 (by rw [hE]; decide), hE]
          exact lv_ret (ret2 rfl (res_bxs (sub := celF (⟨(c : Nat), (r : Nat)⟩ : Cel)) TY rfl rfl rfl rfl rfl) (res_tmp rfl))
        by_cases hfz : (⟨(c : Nat), (r : Nat)⟩ : Cel) = fr ↔ tab T (⟨(c : Nat), (r : Nat)⟩ : Cel) = 0
        case neg =>
          have hE : timeE x fr T (⟨(c : Nat), (r : Nat)⟩ : Cel) = 3 := by unfold timeE; rw [if_neg (fun h => h h1), if_pos hfz]
          rw [chkT_ok v hf sh, chkL_first hrc hcc hall2 (by rw [hE]; decide), hE]
          by_cases hcf : (⟨(c : Nat), (r : Nat)⟩ : Cel) = fr
          · have h0 : ¬ tab T (⟨(c : Nat), (r : Nat)⟩ : Cel) = 0 := fun h => hfz ⟨fun _ => h, fun _ => hcf⟩
            repeat (first
    | (apply w_draw1 (id := 14) 11 rfl (by kernel_rfl); exact rfl; kernel_rfl)
    | (apply s_allocB TY (d := some 11); exact rfl; exact rfl; exact rfl)
    | (apply s_sto TY; exact rfl; exact rfl; exact rfl; exact rfl; exact rfl; exact rfl; exact rfl)
    | (apply s_bind; exact rfl; exact rfl; exact rfl; exact rfl; exact rfl; exact rfl; exact eqc_t (by assumption))
    | (apply s_neb Tryd.underlying4; exact rfl; exact rfl; exact rfl; exact rfl)
    | (apply s_a TY; exact rfl)
    | (apply s_t; exact rfl; (first | assumption | omega))
    | (apply s_f; exact rfl; (first | assumption | omega))
    | apply w_seq
    | apply w_region
    | apply s_nil
    | apply t_norm
    | apply t_ret
    | apply k_ret
    | apply w_block
    | apply w_ret
    | apply w_skip
    | (apply w_condT; exact rfl; exact rfl)
    | (apply w_condF; exact rfl; exact rfl)
    | (apply s_k1 (Within_t _ _ _); exact rfl; (first | assumption | omega | decide))
    | (apply s_c TY; exact rfl; (first | omega | exact ⟨by omega, by (first | with_reducible assumption | ((with_reducible apply intsF_ne); omega) | ((with_reducible apply matF_ne); omega) | ((with_reducible apply celsF_ne); omega) | assumption)⟩))
    | (apply s_l TY; exact rfl; (first | exact rfl | with_reducible assumption | ((with_reducible apply intsF_at); omega) | ((with_reducible apply matF_at); omega) | assumption))
    | (apply s_store TY; exact rfl; exact rfl; exact rfl; exact rfl; exact rfl; exact rfl))
            exact lv_ret (ret2 rfl (res_bxs (sub := celF (⟨(c : Nat), (r : Nat)⟩ : Cel)) TY rfl rfl rfl rfl rfl) (res_tmp rfl))
          · have h0 : tab T (⟨(c : Nat), (r : Nat)⟩ : Cel) = 0 := Classical.byContradiction fun h => hfz ⟨fun e => absurd e hcf, fun e => absurd e h⟩
            repeat (first
    | (apply w_draw1 (id := 14) 11 rfl (by kernel_rfl); exact rfl; kernel_rfl)
    | (apply s_allocB TY (d := some 11); exact rfl; exact rfl; exact rfl)
    | (apply s_sto TY; exact rfl; exact rfl; exact rfl; exact rfl; exact rfl; exact rfl; exact rfl)
    | (apply s_bind; exact rfl; exact rfl; exact rfl; exact rfl; exact rfl; exact rfl; exact eqc_f (by assumption))
    | (apply s_neb Tryd.underlying4; exact rfl; exact rfl; exact rfl; exact rfl)
    | (apply s_a TY; exact rfl)
    | (apply s_t; exact rfl; (first | assumption | omega))
    | apply w_seq
    | apply w_region
    | apply s_nil
    | apply t_norm
    | apply t_ret
    | apply k_ret
    | apply w_block
    | apply w_ret
    | apply w_skip
    | (apply w_condT; exact rfl; exact rfl)
    | (apply w_condF; exact rfl; exact rfl)
    | (apply s_k1 (Within_t _ _ _); exact rfl; (first | assumption | omega | decide))
    | (apply s_c TY; exact rfl; (first | omega | exact ⟨by omega, by (first | with_reducible assumption | ((with_reducible apply intsF_ne); omega) | ((with_reducible apply matF_ne); omega) | ((with_reducible apply celsF_ne); omega) | assumption)⟩))
    | (apply s_l TY; exact rfl; (first | exact rfl | with_reducible assumption | ((with_reducible apply intsF_at); omega) | ((with_reducible apply matF_at); omega) | assumption))
    | (apply s_store TY; exact rfl; exact rfl; exact rfl; exact rfl; exact rfl; exact rfl))
            exact lv_ret (ret2 rfl (res_bxs (sub := celF (⟨(c : Nat), (r : Nat)⟩ : Cel)) TY rfl rfl rfl rfl rfl) (res_tmp rfl))
        by_cases hcf : (⟨(c : Nat), (r : Nat)⟩ : Cel) = fr
        case pos =>
          have h0 := hfz.1 hcf
          have cbe : decide ((⟨(c : Nat), (r : Nat)⟩ : Cel) = fr) = true := decide_eq_true hcf
          repeat (first
    | (apply w_draw1 (id := 14) 11 rfl (by kernel_rfl); exact rfl; kernel_rfl)
    | (apply s_allocB TY (d := some 11); exact rfl; exact rfl; exact rfl)
    | (apply s_sto TY; exact rfl; exact rfl; exact rfl; exact rfl; exact rfl; exact rfl; exact rfl)
    | (apply s_bind; exact rfl; exact rfl; exact rfl; exact rfl; exact rfl; exact rfl; exact eqc_t (by assumption))
    | (apply s_neb Tryd.underlying4; exact rfl; exact rfl; exact rfl; exact rfl)
    | (apply s_a TY; exact rfl)
    | (apply s_t; exact rfl; (first | assumption | omega))
    | apply w_seq
    | apply w_region
    | apply s_nil
    | apply t_norm
    | apply w_block
    | apply w_skip
    | (apply w_condT; exact rfl; exact rfl)
    | (apply w_condF; exact rfl; exact rfl)
    | (apply s_k (AR); exact rfl)
    | (apply s_k1 (Within_t _ _ _); exact rfl; (first | assumption | omega | decide))
    | (apply s_c TY; exact rfl; (first | omega | exact ⟨by omega, by (first | with_reducible assumption | ((with_reducible apply intsF_ne); omega) | ((with_reducible apply matF_ne); omega) | ((with_reducible apply celsF_ne); omega) | assumption)⟩))
    | (apply s_l TY; exact rfl; (first | exact rfl | with_reducible assumption | ((with_reducible apply intsF_at); omega) | ((with_reducible apply matF_at); omega) | assumption)))
          apply w_loop (fun p : Nat × Bool => ⟨(Ab.upd (Ab.upd (Ab.upd (Ab.upd (Ab.upd (Ab.upd (Ab.upd (Ab.upd (Ab.upd (Ab.upd (Ab.upd (fun _ => .bot) 2 (.f (.sl T.length (matF T)))) 3 (.f (.pt (gridL x) 0))) 4 (.f (.pt (celF fr) 0))) 6 (.bx 0 0)) 9 (.f (iv (r : Nat)))) 10 (.f (iv (c : Nat)))) 11 (.bx 1 0)) 12 (.f (iv (tab T (⟨(c : Nat), (r : Nat)⟩ : Cel))))) 13 (.f (.sl (nbrs x (⟨(c : Nat), (r : Nat)⟩ : Cel)).length (celsF (nbrs x (⟨(c : Nat), (r : Nat)⟩ : Cel)))))) 14 (.f (bv p.2))) 15 (.f (iv (p.1 : Nat)))), (Ab.upd (Ab.upd (fun _ => none) 0 (some (.box [.f (iv 0), .f (iv 0)]))) 1 (some (.box [.f (iv (c : Nat)), .f (iv (r : Nat))]))), 2⟩) (fun p => p.1 ≤ (nbrs x (⟨(c : Nat), (r : Nat)⟩ : Cel)).length ∧ lateN (nbTimes x (⟨(c : Nat), (r : Nat)⟩ : Cel)) T (⟨(c : Nat), (r : Nat)⟩ : Cel) p.1 = false ∧ reaN true (nbTimes x (⟨(c : Nat), (r : Nat)⟩ : Cel)) T (⟨(c : Nat), (r : Nat)⟩ : Cel) p.1 = p.2) (fun p => (nbrs x (⟨(c : Nat), (r : Nat)⟩ : Cel)).length - p.1) (0, true) (⟨Nat.zero_le _, rfl, rfl⟩) (gh_le ⟨le_upd rfl trivial (le_upd rfl trivial (le_upd rfl trivial (le_upd rfl trivial (le_upd rfl rfl (le_upd rfl trivial (le_upd rfl trivial (le_upd rfl rfl (le_upd rfl trivial (le_upd rfl trivial (le_upd rfl trivial (le_nil _))))))))))), le_hupd rfl (fun y hy => by simp at hy; rcases hy with rfl | rfl <;> first | trivial | rfl) (le_hupd rfl (fun y hy => by simp at hy; rcases hy with rfl | rfl <;> first | trivial | rfl) (le_h0 _ _))⟩)
          rintro ⟨i, b⟩ ⟨hi, hl, hb⟩
          show W _ _ _ _ ⟨(Ab.upd (Ab.upd (Ab.upd (Ab.upd (Ab.upd (Ab.upd (Ab.upd (Ab.upd (Ab.upd (Ab.upd (Ab.upd (fun _ => .bot) 2 (.f (.sl T.length (matF T)))) 3 (.f (.pt (gridL x) 0))) 4 (.f (.pt (celF fr) 0))) 6 (.bx 0 0)) 9 (.f (iv (r : Nat)))) 10 (.f (iv (c : Nat)))) 11 (.bx 1 0)) 12 (.f (iv (tab T (⟨(c : Nat), (r : Nat)⟩ : Cel))))) 13 (.f (.sl (nbrs x (⟨(c : Nat), (r : Nat)⟩ : Cel)).length (celsF (nbrs x (⟨(c : Nat), (r : Nat)⟩ : Cel)))))) 14 (.f (bv b))) 15 (.f (iv (i : Nat)))), (Ab.upd (Ab.upd (fun _ => none) 0 (some (.box [.f (iv 0), .f (iv 0)]))) 1 (some (.box [.f (iv (c : Nat)), .f (iv (r : Nat))]))), 2⟩
          simp only at hi hl hb
          by_cases hic : i < (nbrs x (⟨(c : Nat), (r : Nat)⟩ : Cel)).length
          · have nin : InG x (nbrs x (⟨(c : Nat), (r : Nat)⟩ : Cel))[i] := nbrs_in v (List.getElem_mem hic)
            obtain ⟨q1, q2, qa⟩ := tab_at sh nin
            have fc := celsF_col hic
            have fw := celsF_row hic
            have SS := Step_s x (⟨(c : Nat), (r : Nat)⟩ : Cel) (nbrs x (⟨(c : Nat), (r : Nat)⟩ : Cel))[i] v hin nin
            have b3 := stepI_bd v (⟨(c : Nat), (r : Nat)⟩ : Cel) (nbrs x (⟨(c : Nat), (r : Nat)⟩ : Cel))[i]
            obtain ⟨⟨g0, g1⟩, g2, g3⟩ := id nin
            have hkT : i < (nbTimes x (⟨(c : Nat), (r : Nat)⟩ : Cel)).length := by rw [nbT_ln]; exact hic
            have eT := nbT_at x (⟨(c : Nat), (r : Nat)⟩ : Cel) hic
            have l1 := lateN_succ (T := T) (c := (⟨(c : Nat), (r : Nat)⟩ : Cel)) hkT
            have r1 := reaN_succ (b := true) (T := T) (c := (⟨(c : Nat), (r : Nat)⟩ : Cel)) hkT
            rw [eT, hl] at l1
            rw [eT, hb] at r1
            simp only [Bool.false_or] at l1
            by_cases hlate : tab T (nbrs x (⟨(c : Nat), (r : Nat)⟩ : Cel))[i] < tab T (⟨(c : Nat), (r : Nat)⟩ : Cel) - stepI x (⟨(c : Nat), (r : Nat)⟩ : Cel) (nbrs x (⟨(c : Nat), (r : Nat)⟩ : Cel))[i]
            · repeat (first
    | (apply s_a TY; exact rfl)
    | (apply s_t; exact rfl; (first | assumption | omega))
    | apply w_seq
    | apply w_region
    | (apply w_draw (id := 24) 13 rfl (by kernel_rfl))
    | (apply w_draw (id := 25) 10 rfl (by kernel_rfl))
    | apply s_nil
    | apply t_norm
    | apply t_ret
    | apply k_ret
    | apply w_block
    | apply w_ret
    | apply w_skip
    | (apply w_condT; exact rfl; exact rfl)
    | (apply s_k (SS); exact rfl)
    | (apply s_c TY; exact rfl; (first | omega | exact ⟨by omega, by (first | with_reducible assumption | ((with_reducible apply intsF_ne); omega) | ((with_reducible apply matF_ne); omega) | ((with_reducible apply celsF_ne); omega) | assumption)⟩))
    | (apply s_z TY; exact rfl; (first | omega | exact ⟨by omega, by (first | with_reducible assumption | ((with_reducible apply intsF_ne); omega) | ((with_reducible apply matF_ne); omega) | ((with_reducible apply celsF_ne); omega) | assumption)⟩))
    | (apply s_l TY; exact rfl; (first | exact rfl | with_reducible assumption | ((with_reducible apply intsF_at); omega) | ((with_reducible apply matF_at); omega) | assumption))
    | (apply s_m TY; exact rfl; (first | with_reducible assumption | ((with_reducible apply celsF_sub); omega) | exact rfl); exact rfl)
    | (apply s_store TY; exact rfl; exact rfl; exact rfl; exact rfl; exact rfl; exact rfl))
              have hE : timeE x fr T (⟨(c : Nat), (r : Nat)⟩ : Cel) = 13 := by
                unfold timeE
                rw [if_neg (fun h => h h1), if_neg (fun h => h hfz), if_pos (late_of hkT (by rw [eT]; exact hlate))]
              rw [chkT_ok v hf sh, chkL_first hrc hcc hall2 (by rw [hE]; decide), hE]
              exact lv_ret (ret2 rfl (res_bxs (sub := celF (⟨(c : Nat), (r : Nat)⟩ : Cel)) TY rfl rfl rfl rfl rfl) (res_tmp rfl))
            · rw [decide_eq_false hlate] at l1
              by_cases heq : tab T (nbrs x (⟨(c : Nat), (r : Nat)⟩ : Cel))[i] = tab T (⟨(c : Nat), (r : Nat)⟩ : Cel) - stepI x (⟨(c : Nat), (r : Nat)⟩ : Cel) (nbrs x (⟨(c : Nat), (r : Nat)⟩ : Cel))[i]
              · rw [decide_eq_true heq] at r1
                cases b
                all_goals repeat (first
    | (apply s_a TY; exact rfl)
    | (apply s_t; exact rfl; (first | assumption | omega))
    | (apply s_f; exact rfl; (first | assumption | omega))
    | apply w_seq
    | apply w_region
    | (apply w_draw (id := 24) 13 rfl (by kernel_rfl))
    | (apply w_draw (id := 25) 10 rfl (by kernel_rfl))
    | (apply w_draw (id := 27) 12 rfl (by kernel_rfl))
    | apply s_nil
    | apply t_norm
    | apply k_norm
    | apply w_block
    | apply w_skip
    | (apply w_condT; exact rfl; exact rfl)
    | (apply w_condF; exact rfl; exact rfl)
    | (apply s_k (SS); exact rfl)
    | (apply s_s; exact rfl)
    | (apply s_c TY; exact rfl; (first | omega | exact ⟨by omega, by (first | with_reducible assumption | ((with_reducible apply intsF_ne); omega) | ((with_reducible apply matF_ne); omega) | ((with_reducible apply celsF_ne); omega) | assumption)⟩))
    | (apply s_z TY; exact rfl; (first | omega | exact ⟨by omega, by (first | with_reducible assumption | ((with_reducible apply intsF_ne); omega) | ((with_reducible apply matF_ne); omega) | ((with_reducible apply celsF_ne); omega) | assumption)⟩))
    | (apply s_l TY; exact rfl; (first | exact rfl | with_reducible assumption | ((with_reducible apply intsF_at); omega) | ((with_reducible apply matF_at); omega) | assumption))
    | (apply s_m TY; exact rfl; (first | with_reducible assumption | ((with_reducible apply celsF_sub); omega) | exact rfl); exact rfl))
                all_goals exact ⟨(i + 1, true), ⟨by simp only; omega, l1, r1.trans (by rfl)⟩, by simp only; omega, gh_le ⟨le_upd rfl trivial (le_upd rfl trivial (le_upd rfl trivial (le_upd rfl trivial (le_upd rfl rfl (le_upd rfl trivial (le_upd rfl trivial (le_upd rfl rfl (le_upd rfl trivial (le_upd rfl trivial (le_upd rfl trivial (le_nil _))))))))))), le_hupd rfl (fun y hy => by simp at hy; rcases hy with rfl | rfl <;> first | trivial | rfl) (le_hupd rfl (fun y hy => by simp at hy; rcases hy with rfl | rfl <;> first | trivial | rfl) (le_h0 _ _))⟩⟩
              · rw [decide_eq_false heq] at r1
                cases b
                · repeat (first
    | (apply s_a TY; exact rfl)
    | (apply s_t; exact rfl; (first | assumption | omega))
    | (apply s_f; exact rfl; (first | assumption | omega))
    | apply w_seq
    | apply w_region
    | (apply w_draw (id := 24) 13 rfl (by kernel_rfl))
    | (apply w_draw (id := 25) 10 rfl (by kernel_rfl))
    | (apply w_draw (id := 27) 12 rfl (by kernel_rfl))
    | apply s_nil
    | apply t_norm
    | apply k_norm
    | apply w_block
    | apply w_skip
    | (apply w_condT; exact rfl; exact rfl)
    | (apply w_condF; exact rfl; exact rfl)
    | (apply s_k (SS); exact rfl)
    | (apply s_c TY; exact rfl; (first | omega | exact ⟨by omega, by (first | with_reducible assumption | ((with_reducible apply intsF_ne); omega) | ((with_reducible apply matF_ne); omega) | ((with_reducible apply celsF_ne); omega) | assumption)⟩))
    | (apply s_z TY; exact rfl; (first | omega | exact ⟨by omega, by (first | with_reducible assumption | ((with_reducible apply intsF_ne); omega) | ((with_reducible apply matF_ne); omega) | ((with_reducible apply celsF_ne); omega) | assumption)⟩))
    | (apply s_l TY; exact rfl; (first | exact rfl | with_reducible assumption | ((with_reducible apply intsF_at); omega) | ((with_reducible apply matF_at); omega) | assumption))
    | (apply s_m TY; exact rfl; (first | with_reducible assumption | ((with_reducible apply celsF_sub); omega) | exact rfl); exact rfl))
                  exact ⟨(i + 1, false), ⟨by simp only; omega, l1, r1⟩, by simp only; omega, gh_le ⟨le_upd rfl trivial (le_upd rfl trivial (le_upd rfl trivial (le_upd rfl trivial (le_upd rfl rfl (le_upd rfl trivial (le_upd rfl trivial (le_upd rfl rfl (le_upd rfl trivial (le_upd rfl trivial (le_upd rfl trivial (le_nil _))))))))))), le_hupd rfl (fun y hy => by simp at hy; rcases hy with rfl | rfl <;> first | trivial | rfl) (le_hupd rfl (fun y hy => by simp at hy; rcases hy with rfl | rfl <;> first | trivial | rfl) (le_h0 _ _))⟩⟩
                · repeat (first
    | (apply s_a TY; exact rfl)
    | (apply s_t; exact rfl; (first | assumption | omega))
    | (apply s_f; exact rfl; (first | assumption | omega))
    | apply w_seq
    | apply w_region
    | (apply w_draw (id := 24) 13 rfl (by kernel_rfl))
    | (apply w_draw (id := 25) 10 rfl (by kernel_rfl))
    | (apply w_draw (id := 27) 12 rfl (by kernel_rfl))
    | apply s_nil
    | apply t_norm
    | apply k_norm
    | apply w_block
    | apply w_skip
    | (apply w_condT; exact rfl; exact rfl)
    | (apply w_condF; exact rfl; exact rfl)
    | (apply s_k (SS); exact rfl)
    | (apply s_s; exact rfl)
    | (apply s_c TY; exact rfl; (first | omega | exact ⟨by omega, by (first | with_reducible assumption | ((with_reducible apply intsF_ne); omega) | ((with_reducible apply matF_ne); omega) | ((with_reducible apply celsF_ne); omega) | assumption)⟩))
    | (apply s_z TY; exact rfl; (first | omega | exact ⟨by omega, by (first | with_reducible assumption | ((with_reducible apply intsF_ne); omega) | ((with_reducible apply matF_ne); omega) | ((with_reducible apply celsF_ne); omega) | assumption)⟩))
    | (apply s_l TY; exact rfl; (first | exact rfl | with_reducible assumption | ((with_reducible apply intsF_at); omega) | ((with_reducible apply matF_at); omega) | assumption))
    | (apply s_m TY; exact rfl; (first | with_reducible assumption | ((with_reducible apply celsF_sub); omega) | exact rfl); exact rfl))
                  exact ⟨(i + 1, true), ⟨by simp only; omega, l1, r1⟩, by simp only; omega, gh_le ⟨le_upd rfl trivial (le_upd rfl trivial (le_upd rfl trivial (le_upd rfl trivial (le_upd rfl rfl (le_upd rfl trivial (le_upd rfl trivial (le_upd rfl rfl (le_upd rfl trivial (le_upd rfl trivial (le_upd rfl trivial (le_nil _))))))))))), le_hupd rfl (fun y hy => by simp at hy; rcases hy with rfl | rfl <;> first | trivial | rfl) (le_hupd rfl (fun y hy => by simp at hy; rcases hy with rfl | rfl <;> first | trivial | rfl) (le_h0 _ _))⟩⟩
          · have hie : i = (nbTimes x (⟨(c : Nat), (r : Nat)⟩ : Cel)).length := by rw [nbT_ln]; omega
            have hl' : ¬ lateN (nbTimes x (⟨(c : Nat), (r : Nat)⟩ : Cel)) T (⟨(c : Nat), (r : Nat)⟩ : Cel) (nbTimes x (⟨(c : Nat), (r : Nat)⟩ : Cel)).length = true := by rw [← hie, hl]; decide
            cases b
            · repeat (first
    | (apply s_a TY; exact rfl)
    | (apply s_f; exact rfl; (first | assumption | omega))
    | apply w_seq
    | apply w_region
    | apply s_nil
    | apply t_norm
    | apply t_exit
    | apply t_ret
    | apply k_hit
    | apply k_ret
    | apply w_exit
    | apply w_ret
    | (apply w_condT; exact rfl; exact rfl)
    | (apply w_condF; exact rfl; exact rfl)
    | (apply s_store TY; exact rfl; exact rfl; exact rfl; exact rfl; exact rfl; exact rfl))
              have hE : timeE x fr T (⟨(c : Nat), (r : Nat)⟩ : Cel) = 19 := by
                unfold timeE
                rw [if_neg (fun h => h h1), if_neg (fun h => h hfz), if_neg hl', if_neg (by rw [cbe, ← hie, hb]; decide)]
              rw [chkT_ok v hf sh, chkL_first hrc hcc hall2 (by rw [hE]; decide), hE]
              exact lv_ret (ret2 rfl (res_bxs (sub := celF (⟨(c : Nat), (r : Nat)⟩ : Cel)) TY rfl rfl rfl rfl rfl) (res_tmp rfl))
            · repeat (first
    | (apply s_a TY; exact rfl)
    | (apply s_f; exact rfl; (first | assumption | omega))
    | apply w_seq
    | apply w_region
    | apply s_nil
    | apply t_norm
    | apply t_exit
    | apply k_hit
    | apply k_norm
    | apply w_exit
    | apply w_skip
    | (apply w_condF; exact rfl; exact rfl)
    | (apply s_c TY; exact rfl; (first | omega | exact ⟨by omega, by (first | with_reducible assumption | ((with_reducible apply intsF_ne); omega) | ((with_reducible apply matF_ne); omega) | ((with_reducible apply celsF_ne); omega) | assumption)⟩)))
              have hE : timeE x fr T (⟨(c : Nat), (r : Nat)⟩ : Cel) = 0 := by
                unfold timeE
                rw [if_neg (fun h => h h1), if_neg (fun h => h hfz), if_neg hl', if_pos (by rw [cbe, ← hie, hb])]
              exact ⟨c + 1, ⟨by omega, fun a ha hD => by
                rcases hD with h | ⟨h, h'⟩
                · exact hall2 a ha (.inl h)
                · by_cases e : a.col < c
                  · exact hall2 a ha (.inr ⟨h, e⟩)
                  · have : a = (⟨(c : Nat), (r : Nat)⟩ : Cel) := by cases a; simp at *; omega
                    rw [this]; exact hE⟩, by omega, gh_le ⟨le_upd rfl trivial (le_upd rfl trivial (le_upd rfl rfl (le_upd rfl trivial (le_upd rfl trivial (le_upd rfl trivial (le_nil _)))))), le_hupd rfl (fun y hy => by simp at hy; rcases hy with rfl | rfl <;> first | trivial | rfl) (le_h0 _ _)⟩⟩
        have h0 : ¬ tab T (⟨(c : Nat), (r : Nat)⟩ : Cel) = 0 := fun h => hcf (hfz.2 h)
        have cbe : decide ((⟨(c : Nat), (r : Nat)⟩ : Cel) = fr) = false := decide_eq_false hcf
        repeat (first
    | (apply w_draw1 (id := 14) 11 rfl (by kernel_rfl); exact rfl; kernel_rfl)
    | (apply s_allocB TY (d := some 11); exact rfl; exact rfl; exact rfl)
    | (apply s_sto TY; exact rfl; exact rfl; exact rfl; exact rfl; exact rfl; exact rfl; exact rfl)
    | (apply s_bind; exact rfl; exact rfl; exact rfl; exact rfl; exact rfl; exact rfl; exact eqc_f (by assumption))
    | (apply s_neb Tryd.underlying4; exact rfl; exact rfl; exact rfl; exact rfl)
    | (apply s_a TY; exact rfl)
    | (apply s_t; exact rfl; (first | assumption | omega))
    | (apply s_f; exact rfl; (first | assumption | omega))
    | apply w_seq
    | apply w_region
    | apply s_nil
    | apply t_norm
    | apply w_block
    | apply w_skip
    | (apply w_condT; exact rfl; exact rfl)
    | (apply w_condF; exact rfl; exact rfl)
    | (apply s_k (AR); exact rfl)
    | (apply s_k1 (Within_t _ _ _); exact rfl; (first | assumption | omega | decide))
    | (apply s_c TY; exact rfl; (first | omega | exact ⟨by omega, by (first | with_reducible assumption | ((with_reducible apply intsF_ne); omega) | ((with_reducible apply matF_ne); omega) | ((with_reducible apply celsF_ne); omega) | assumption)⟩))
    | (apply s_l TY; exact rfl; (first | exact rfl | with_reducible assumption | ((with_reducible apply intsF_at); omega) | ((with_reducible apply matF_at); omega) | assumption)))
        apply w_loop (fun p : Nat × Bool => ⟨(Ab.upd (Ab.upd (Ab.upd (Ab.upd (Ab.upd (Ab.upd (Ab.upd (Ab.upd (Ab.upd (Ab.upd (Ab.upd (fun _ => .bot) 2 (.f (.sl T.length (matF T)))) 3 (.f (.pt (gridL x) 0))) 4 (.f (.pt (celF fr) 0))) 6 (.bx 0 0)) 9 (.f (iv (r : Nat)))) 10 (.f (iv (c : Nat)))) 11 (.bx 1 0)) 12 (.f (iv (tab T (⟨(c : Nat), (r : Nat)⟩ : Cel))))) 13 (.f (.sl (nbrs x (⟨(c : Nat), (r : Nat)⟩ : Cel)).length (celsF (nbrs x (⟨(c : Nat), (r : Nat)⟩ : Cel)))))) 14 (.f (bv p.2))) 15 (.f (iv (p.1 : Nat)))), (Ab.upd (Ab.upd (fun _ => none) 0 (some (.box [.f (iv 0), .f (iv 0)]))) 1 (some (.box [.f (iv (c : Nat)), .f (iv (r : Nat))]))), 2⟩) (fun p => p.1 ≤ (nbrs x (⟨(c : Nat), (r : Nat)⟩ : Cel)).length ∧ lateN (nbTimes x (⟨(c : Nat), (r : Nat)⟩ : Cel)) T (⟨(c : Nat), (r : Nat)⟩ : Cel) p.1 = false ∧ reaN false (nbTimes x (⟨(c : Nat), (r : Nat)⟩ : Cel)) T (⟨(c : Nat), (r : Nat)⟩ : Cel) p.1 = p.2) (fun p => (nbrs x (⟨(c : Nat), (r : Nat)⟩ : Cel)).length - p.1) (0, false) (⟨Nat.zero_le _, rfl, rfl⟩) (gh_le ⟨le_upd rfl trivial (le_upd rfl trivial (le_upd rfl trivial (le_upd rfl trivial (le_upd rfl rfl (le_upd rfl trivial (le_upd rfl trivial (le_upd rfl rfl (le_upd rfl trivial (le_upd rfl trivial (le_upd rfl trivial (le_nil _))))))))))), le_hupd rfl (fun y hy => by simp at hy; rcases hy with rfl | rfl <;> first | trivial | rfl) (le_hupd rfl (fun y hy => by simp at hy; rcases hy with rfl | rfl <;> first | trivial | rfl) (le_h0 _ _))⟩)
        rintro ⟨i, b⟩ ⟨hi, hl, hb⟩
        show W _ _ _ _ ⟨(Ab.upd (Ab.upd (Ab.upd (Ab.upd (Ab.upd (Ab.upd (Ab.upd (Ab.upd (Ab.upd (Ab.upd (Ab.upd (fun _ => .bot) 2 (.f (.sl T.length (matF T)))) 3 (.f (.pt (gridL x) 0))) 4 (.f (.pt (celF fr) 0))) 6 (.bx 0 0)) 9 (.f (iv (r : Nat)))) 10 (.f (iv (c : Nat)))) 11 (.bx 1 0)) 12 (.f (iv (tab T (⟨(c : Nat), (r : Nat)⟩ : Cel))))) 13 (.f (.sl (nbrs x (⟨(c : Nat), (r : Nat)⟩ : Cel)).length (celsF (nbrs x (⟨(c : Nat), (r : Nat)⟩ : Cel)))))) 14 (.f (bv b))) 15 (.f (iv (i : Nat)))), (Ab.upd (Ab.upd (fun _ => none) 0 (some (.box [.f (iv 0), .f (iv 0)]))) 1 (some (.box [.f (iv (c : Nat)), .f (iv (r : Nat))]))), 2⟩
        simp only at hi hl hb
        by_cases hic : i < (nbrs x (⟨(c : Nat), (r : Nat)⟩ : Cel)).length
        · have nin : InG x (nbrs x (⟨(c : Nat), (r : Nat)⟩ : Cel))[i] := nbrs_in v (List.getElem_mem hic)
          obtain ⟨q1, q2, qa⟩ := tab_at sh nin
          have fc := celsF_col hic
          have fw := celsF_row hic
          have SS := Step_s x (⟨(c : Nat), (r : Nat)⟩ : Cel) (nbrs x (⟨(c : Nat), (r : Nat)⟩ : Cel))[i] v hin nin
          have b3 := stepI_bd v (⟨(c : Nat), (r : Nat)⟩ : Cel) (nbrs x (⟨(c : Nat), (r : Nat)⟩ : Cel))[i]
          obtain ⟨⟨g0, g1⟩, g2, g3⟩ := id nin
          have hkT : i < (nbTimes x (⟨(c : Nat), (r : Nat)⟩ : Cel)).length := by rw [nbT_ln]; exact hic
          have eT := nbT_at x (⟨(c : Nat), (r : Nat)⟩ : Cel) hic
          have l1 := lateN_succ (T := T) (c := (⟨(c : Nat), (r : Nat)⟩ : Cel)) hkT
          have r1 := reaN_succ (b := false) (T := T) (c := (⟨(c : Nat), (r : Nat)⟩ : Cel)) hkT
          rw [eT, hl] at l1
          rw [eT, hb] at r1
          simp only [Bool.false_or] at l1
          by_cases hlate : tab T (nbrs x (⟨(c : Nat), (r : Nat)⟩ : Cel))[i] < tab T (⟨(c : Nat), (r : Nat)⟩ : Cel) - stepI x (⟨(c : Nat), (r : Nat)⟩ : Cel) (nbrs x (⟨(c : Nat), (r : Nat)⟩ : Cel))[i]
          · repeat (first
    | (apply s_a TY; exact rfl)
    | (apply s_t; exact rfl; (first | assumption | omega))
    | apply w_seq
    | apply w_region
    | (apply w_draw (id := 24) 13 rfl (by kernel_rfl))
    | (apply w_draw (id := 25) 10 rfl (by kernel_rfl))
    | apply s_nil
    | apply t_norm
    | apply t_ret
    | apply k_ret
    | apply w_block
    | apply w_ret
    | apply w_skip
    | (apply w_condT; exact rfl; exact rfl)
    | (apply s_k (SS); exact rfl)
    | (apply s_c TY; exact rfl; (first | omega | exact ⟨by omega, by (first | with_reducible assumption | ((with_reducible apply intsF_ne); omega) | ((with_reducible apply matF_ne); omega) | ((with_reducible apply celsF_ne); omega) | assumption)⟩))
    | (apply s_z TY; exact rfl; (first | omega | exact ⟨by omega, by (first | with_reducible assumption | ((with_reducible apply intsF_ne); omega) | ((with_reducible apply matF_ne); omega) | ((with_reducible apply celsF_ne); omega) | assumption)⟩))
    | (apply s_l TY; exact rfl; (first | exact rfl | with_reducible assumption | ((with_reducible apply intsF_at); omega) | ((with_reducible apply matF_at); omega) | assumption))
    | (apply s_m TY; exact rfl; (first | with_reducible assumption | ((with_reducible apply celsF_sub); omega) | exact rfl); exact rfl)
    | (apply s_store TY; exact rfl; exact rfl; exact rfl; exact rfl; exact rfl; exact rfl))
            have hE : timeE x fr T (⟨(c : Nat), (r : Nat)⟩ : Cel) = 13 := by
              unfold timeE
              rw [if_neg (fun h => h h1), if_neg (fun h => h hfz), if_pos (late_of hkT (by rw [eT]; exact hlate))]
            rw [chkT_ok v hf sh, chkL_first hrc hcc hall2 (by rw [hE]; decide), hE]
            exact lv_ret (ret2 rfl (res_bxs (sub := celF (⟨(c : Nat), (r : Nat)⟩ : Cel)) TY rfl rfl rfl rfl rfl) (res_tmp rfl))
          · rw [decide_eq_false hlate] at l1
            by_cases heq : tab T (nbrs x (⟨(c : Nat), (r : Nat)⟩ : Cel))[i] = tab T (⟨(c : Nat), (r : Nat)⟩ : Cel) - stepI x (⟨(c : Nat), (r : Nat)⟩ : Cel) (nbrs x (⟨(c : Nat), (r : Nat)⟩ : Cel))[i]
            · rw [decide_eq_true heq] at r1
              cases b
              all_goals repeat (first
    | (apply s_a TY; exact rfl)
    | (apply s_t; exact rfl; (first | assumption | omega))
    | (apply s_f; exact rfl; (first | assumption | omega))
    | apply w_seq
    | apply w_region
    | (apply w_draw (id := 24) 13 rfl (by kernel_rfl))
    | (apply w_draw (id := 25) 10 rfl (by kernel_rfl))
    | (apply w_draw (id := 27) 12 rfl (by kernel_rfl))
    | apply s_nil
    | apply t_norm
    | apply k_norm
    | apply w_block
    | apply w_skip
    | (apply w_condT; exact rfl; exact rfl)
    | (apply w_condF; exact rfl; exact rfl)
    | (apply s_k (SS); exact rfl)
    | (apply s_s; exact rfl)
    | (apply s_c TY; exact rfl; (first | omega | exact ⟨by omega, by (first | with_reducible assumption | ((with_reducible apply intsF_ne); omega) | ((with_reducible apply matF_ne); omega) | ((with_reducible apply celsF_ne); omega) | assumption)⟩))
    | (apply s_z TY; exact rfl; (first | omega | exact ⟨by omega, by (first | with_reducible assumption | ((with_reducible apply intsF_ne); omega) | ((with_reducible apply matF_ne); omega) | ((with_reducible apply celsF_ne); omega) | assumption)⟩))
    | (apply s_l TY; exact rfl; (first | exact rfl | with_reducible assumption | ((with_reducible apply intsF_at); omega) | ((with_reducible apply matF_at); omega) | assumption))
    | (apply s_m TY; exact rfl; (first | with_reducible assumption | ((with_reducible apply celsF_sub); omega) | exact rfl); exact rfl))
              all_goals exact ⟨(i + 1, true), ⟨by simp only; omega, l1, r1.trans (by rfl)⟩, by simp only; omega, gh_le ⟨le_upd rfl trivial (le_upd rfl trivial (le_upd rfl trivial (le_upd rfl trivial (le_upd rfl rfl (le_upd rfl trivial (le_upd rfl trivial (le_upd rfl rfl (le_upd rfl trivial (le_upd rfl trivial (le_upd rfl trivial (le_nil _))))))))))), le_hupd rfl (fun y hy => by simp at hy; rcases hy with rfl | rfl <;> first | trivial | rfl) (le_hupd rfl (fun y hy => by simp at hy; rcases hy with rfl | rfl <;> first | trivial | rfl) (le_h0 _ _))⟩⟩
            · rw [decide_eq_false heq] at r1
              cases b
              · repeat (first
    | (apply s_a TY; exact rfl)
    | (apply s_t; exact rfl; (first | assumption | omega))
    | (apply s_f; exact rfl; (first | assumption | omega))
    | apply w_seq
    | apply w_region
    | (apply w_draw (id := 24) 13 rfl (by kernel_rfl))
    | (apply w_draw (id := 25) 10 rfl (by kernel_rfl))
    | (apply w_draw (id := 27) 12 rfl (by kernel_rfl))
    | apply s_nil
    | apply t_norm
    | apply k_norm
    | apply w_block
    | apply w_skip
    | (apply w_condT; exact rfl; exact rfl)
    | (apply w_condF; exact rfl; exact rfl)
    | (apply s_k (SS); exact rfl)
    | (apply s_c TY; exact rfl; (first | omega | exact ⟨by omega, by (first | with_reducible assumption | ((with_reducible apply intsF_ne); omega) | ((with_reducible apply matF_ne); omega) | ((with_reducible apply celsF_ne); omega) | assumption)⟩))
    | (apply s_z TY; exact rfl; (first | omega | exact ⟨by omega, by (first | with_reducible assumption | ((with_reducible apply intsF_ne); omega) | ((with_reducible apply matF_ne); omega) | ((with_reducible apply celsF_ne); omega) | assumption)⟩))
    | (apply s_l TY; exact rfl; (first | exact rfl | with_reducible assumption | ((with_reducible apply intsF_at); omega) | ((with_reducible apply matF_at); omega) | assumption))
    | (apply s_m TY; exact rfl; (first | with_reducible assumption | ((with_reducible apply celsF_sub); omega) | exact rfl); exact rfl))
                exact ⟨(i + 1, false), ⟨by simp only; omega, l1, r1⟩, by simp only; omega, gh_le ⟨le_upd rfl trivial (le_upd rfl trivial (le_upd rfl trivial (le_upd rfl trivial (le_upd rfl rfl (le_upd rfl trivial (le_upd rfl trivial (le_upd rfl rfl (le_upd rfl trivial (le_upd rfl trivial (le_upd rfl trivial (le_nil _))))))))))), le_hupd rfl (fun y hy => by simp at hy; rcases hy with rfl | rfl <;> first | trivial | rfl) (le_hupd rfl (fun y hy => by simp at hy; rcases hy with rfl | rfl <;> first | trivial | rfl) (le_h0 _ _))⟩⟩
              · repeat (first
    | (apply s_a TY; exact rfl)
    | (apply s_t; exact rfl; (first | assumption | omega))
    | (apply s_f; exact rfl; (first | assumption | omega))
    | apply w_seq
    | apply w_region
    | (apply w_draw (id := 24) 13 rfl (by kernel_rfl))
    | (apply w_draw (id := 25) 10 rfl (by kernel_rfl))
    | (apply w_draw (id := 27) 12 rfl (by kernel_rfl))
    | apply s_nil
    | apply t_norm
    | apply k_norm
    | apply w_block
    | apply w_skip
    | (apply w_condT; exact rfl; exact rfl)
    | (apply w_condF; exact rfl; exact rfl)
    | (apply s_k (SS); exact rfl)
    | (apply s_s; exact rfl)
    | (apply s_c TY; exact rfl; (first | omega | exact ⟨by omega, by (first | with_reducible assumption | ((with_reducible apply intsF_ne); omega) | ((with_reducible apply matF_ne); omega) | ((with_reducible apply celsF_ne); omega) | assumption)⟩))
    | (apply s_z TY; exact rfl; (first | omega | exact ⟨by omega, by (first | with_reducible assumption | ((with_reducible apply intsF_ne); omega) | ((with_reducible apply matF_ne); omega) | ((with_reducible apply celsF_ne); omega) | assumption)⟩))
    | (apply s_l TY; exact rfl; (first | exact rfl | with_reducible assumption | ((with_reducible apply intsF_at); omega) | ((with_reducible apply matF_at); omega) | assumption))
    | (apply s_m TY; exact rfl; (first | with_reducible assumption | ((with_reducible apply celsF_sub); omega) | exact rfl); exact rfl))
                exact ⟨(i + 1, true), ⟨by simp only; omega, l1, r1⟩, by simp only; omega, gh_le ⟨le_upd rfl trivial (le_upd rfl trivial (le_upd rfl trivial (le_upd rfl trivial (le_upd rfl rfl (le_upd rfl trivial (le_upd rfl trivial (le_upd rfl rfl (le_upd rfl trivial (le_upd rfl trivial (le_upd rfl trivial (le_nil _))))))))))), le_hupd rfl (fun y hy => by simp at hy; rcases hy with rfl | rfl <;> first | trivial | rfl) (le_hupd rfl (fun y hy => by simp at hy; rcases hy with rfl | rfl <;> first | trivial | rfl) (le_h0 _ _))⟩⟩
        · have hie : i = (nbTimes x (⟨(c : Nat), (r : Nat)⟩ : Cel)).length := by rw [nbT_ln]; omega
          have hl' : ¬ lateN (nbTimes x (⟨(c : Nat), (r : Nat)⟩ : Cel)) T (⟨(c : Nat), (r : Nat)⟩ : Cel) (nbTimes x (⟨(c : Nat), (r : Nat)⟩ : Cel)).length = true := by rw [← hie, hl]; decide
          cases b
          · repeat (first
    | (apply s_a TY; exact rfl)
    | (apply s_f; exact rfl; (first | assumption | omega))
    | apply w_seq
    | apply w_region
    | apply s_nil
    | apply t_norm
    | apply t_exit
    | apply t_ret
    | apply k_hit
    | apply k_ret
    | apply w_exit
    | apply w_ret
    | (apply w_condT; exact rfl; exact rfl)
    | (apply w_condF; exact rfl; exact rfl)
    | (apply s_store TY; exact rfl; exact rfl; exact rfl; exact rfl; exact rfl; exact rfl))
            have hE : timeE x fr T (⟨(c : Nat), (r : Nat)⟩ : Cel) = 19 := by
              unfold timeE
              rw [if_neg (fun h => h h1), if_neg (fun h => h hfz), if_neg hl', if_neg (by rw [cbe, ← hie, hb]; decide)]
            rw [chkT_ok v hf sh, chkL_first hrc hcc hall2 (by rw [hE]; decide), hE]
            exact lv_ret (ret2 rfl (res_bxs (sub := celF (⟨(c : Nat), (r : Nat)⟩ : Cel)) TY rfl rfl rfl rfl rfl) (res_tmp rfl))
          · repeat (first
    | (apply s_a TY; exact rfl)
    | (apply s_f; exact rfl; (first | assumption | omega))
    | apply w_seq
    | apply w_region
    | apply s_nil
    | apply t_norm
    | apply t_exit
    | apply k_hit
    | apply k_norm
    | apply w_exit
    | apply w_skip
    | (apply w_condF; exact rfl; exact rfl)
    | (apply s_c TY; exact rfl; (first | omega | exact ⟨by omega, by (first | with_reducible assumption | ((with_reducible apply intsF_ne); omega) | ((with_reducible apply matF_ne); omega) | ((with_reducible apply celsF_ne); omega) | assumption)⟩)))
            have hE : timeE x fr T (⟨(c : Nat), (r : Nat)⟩ : Cel) = 0 := by
              unfold timeE
              rw [if_neg (fun h => h h1), if_neg (fun h => h hfz), if_neg hl', if_pos (by rw [cbe, ← hie, hb])]
            exact ⟨c + 1, ⟨by omega, fun a ha hD => by
              rcases hD with h | ⟨h, h'⟩
              · exact hall2 a ha (.inl h)
              · by_cases e : a.col < c
                · exact hall2 a ha (.inr ⟨h, e⟩)
                · have : a = (⟨(c : Nat), (r : Nat)⟩ : Cel) := by cases a; simp at *; omega
                  rw [this]; exact hE⟩, by omega, gh_le ⟨le_upd rfl trivial (le_upd rfl trivial (le_upd rfl rfl (le_upd rfl trivial (le_upd rfl trivial (le_upd rfl trivial (le_nil _)))))), le_hupd rfl (fun y hy => by simp at hy; rcases hy with rfl | rfl <;> first | trivial | rfl) (le_h0 _ _)⟩⟩
      · have hce : c = x.tilt.length := by omega
        subst hce
        repeat (first
    | (apply s_a TY; exact rfl)
    | (apply s_f; exact rfl; (first | assumption | omega))
    | apply w_seq
    | apply w_region
    | apply s_nil
    | apply t_norm
    | apply t_exit
    | apply k_hit
    | apply k_norm
    | apply w_exit
    | (apply w_condF; exact rfl; exact rfl)
    | (apply s_c TY; exact rfl; (first | omega | exact ⟨by omega, by (first | with_reducible assumption | ((with_reducible apply intsF_ne); omega) | ((with_reducible apply matF_ne); omega) | ((with_reducible apply celsF_ne); omega) | assumption)⟩)))
        exact ⟨r + 1, ⟨by omega, fun a ha hD => by
          obtain ⟨⟨a0, a1⟩, a2, a3⟩ := id ha
          exact hall2 a ha (by omega)⟩, by omega, gh_le ⟨le_upd rfl trivial (le_upd rfl rfl (le_upd rfl trivial (le_upd rfl trivial (le_upd rfl trivial (le_nil _))))), le_hupd rfl (fun y hy => by simp at hy; rcases hy with rfl | rfl <;> first | trivial | rfl) (le_h0 _ _)⟩⟩
    · have hre : r = x.rows.toNat := by omega
      subst hre
      repeat (first
    | (apply s_a TY; exact rfl)
    | (apply s_f; exact rfl; (first | assumption | omega))
    | apply w_seq
    | apply w_region
    | apply s_nil
    | apply t_norm
    | apply t_exit
    | apply k_hit
    | apply w_exit
    | apply w_ret
    | (apply w_condF; exact rfl; exact rfl)
    | (apply s_store TY; exact rfl; exact rfl; exact rfl; exact rfl; exact rfl; exact rfl))
      rw [chkT_ok v hf sh, chkL_none (fun a ha => hall1 a ha (by obtain ⟨_, a2, a3⟩ := ha; omega))]
      exact lv_ret (ret2 rfl (res_bxs (sub := celF ⟨0, 0⟩) TY rfl rfl rfl rfl rfl) (res_tmp rfl))
end Go.Proofs.YtienhiloecfgnaaDoor
namespace Go.Proofs.YtienhiloecfgnaaDoor
open Go Go.RowKit Go.Proofs Go.Shelf Go.Ab
theorem timesR_bad {x : Grid} {fr : Cel} {e : Int} (h : fromE x fr = e) (he : e ≠ 0) : timesR x fr = ([], e) := by
  unfold timesR; rw [h, if_pos (by simpa using he)]
theorem wayR_bad {x : Grid} {fr to : Cel} {e : Int} (h : wayE x fr to = e) (he : e ≠ 0) : wayR x fr to = ([], e) := by
  unfold wayR; rw [h, if_pos (by simpa using he)]
theorem chkT_bad {x : Grid} {fr : Cel} {T : List (List Int)} {e : Int} (h : headE x fr T = e) (he : e ≠ 0) : chkT x fr T = (⟨0, 0⟩, e) := by
  unfold chkT; rw [h, if_neg he]
theorem firstE_hd {a : Int} {l : List Int} (h : a ≠ 0) : firstE (a :: l) = a := by unfold firstE; rw [if_neg h]
theorem firstE_tl {l : List Int} : firstE (0 :: l) = firstE l := by rw [firstE, if_pos rfl]
theorem s_idxAg {C : Ctx} {N : Nat} {st : Ab.St} {ops : Array Oper} {pr : Bool} {K : Ab.St → Prop} {rest : List Oper} {d : Option Tmp} {T0 : TypeId} {pos : String} {af : Array Edge} {gd : Option (Nat × Bool)} {T E n s q : Nat} {x y : Operand} {cs : List FV} {k : IntKind} {z : Int} {i : TypeInfo} (hu : C.P.underlying T = some (.array n E)) (hi : C.P.info? E = some i) (hs : i.size = s) (hw : wantB st ops ⟨d, .indexAddr T x y, T0, pos, af, gd⟩ = some true) (hd : dstB N d = true) (hx : st.ev C x = .f (.pt cs q)) (hy : st.ev C y = .f (.v (.int k z))) (h0 : 0 ≤ z) (hn : z < n) (h : R C N ops pr K rest (st.put d (.f (.pt cs (q + z.toNat * s))))) : R C N ops pr K (⟨d, .indexAddr T x y, T0, pos, af, gd⟩ :: rest) st :=
  ⟨r_val hw (v_idxA rfl hd hu hi hs hx hy h0 hn) h.out⟩
set_option maxRecDepth 100000 in
set_option maxHeartbeats 8000000 in
theorem IceTimes_s (x : Grid) (a z : Cel) (T : List (List Int)) : Summ Tryd.prog GG 10 [gridF x, .agg (celF a ++ celF z), .sl T.length (matF T)] (bv true) := by
  obtain ⟨i27, hi27, _, hz27, _⟩ := info_parts Tryd.info27
  have F := Few_s x
  refine summW Tryd.func10 rfl rfl 158 rfl (by simp) (fun M0 => ?_)
  cases h : fewB x
  · rw [h] at F
    repeat (first
    | (apply s_a TY; exact rfl)
    | apply w_seq
    | apply w_region
    | apply s_nil
    | apply t_norm
    | apply t_ret
    | apply w_ret
    | apply w_skip
    | (apply w_condT; exact rfl; exact rfl)
    | (apply w_condF; exact rfl; exact rfl)
    | (apply s_k (F); exact rfl)
    | (apply s_k (awake_s); exact rfl)
    | (apply s_s; exact rfl))
    exact lv_ret (ret1 rfl (res_tmp rfl))
  rw [h] at F
  obtain ⟨f1, f2⟩ := fewB_true h
  have b : SmallG x := ⟨by omega, by omega⟩
  by_cases h14 : T.length ≤ 14
  case neg =>
    repeat (first
    | (apply s_a TY; exact rfl)
    | (apply s_t; exact rfl; (first | assumption | omega))
    | apply w_seq
    | apply w_region
    | apply s_nil
    | apply t_norm
    | apply t_ret
    | apply w_ret
    | apply w_skip
    | (apply w_condT; exact rfl; exact rfl)
    | (apply w_condF; exact rfl; exact rfl)
    | (apply s_k (F); exact rfl)
    | (apply s_k (awake_s); exact rfl))
    exact lv_ret (ret1 rfl (res_tmp rfl))
  repeat (first
    | (apply s_a TY; exact rfl)
    | (apply s_f; exact rfl; (first | assumption | omega))
    | apply w_seq
    | apply w_region
    | apply s_nil
    | apply t_norm
    | apply w_block
    | apply w_skip
    | (apply w_condF; exact rfl; exact rfl)
    | (apply s_k (F); exact rfl)
    | (apply s_k (awake_s); exact rfl))
  apply w_loop (fun k : Nat => ⟨(Ab.upd (Ab.upd (Ab.upd (Ab.upd (Ab.upd (fun _ => .bot) 2 (.f (.sl T.length (matF T)))) 3 (.f (.pt (gridL x) 0))) 4 (.f (.pt (celF a ++ celF z) 0))) 6 (.f (bv false))) 7 (.f (iv (k : Nat)))), (fun _ => none), 0⟩) (fun k => k ≤ T.length ∧ ∀ j (h : j < T.length), j < k → T[j].length ≤ 10) (fun k => T.length - k) 0 (⟨Nat.zero_le _, fun j _ h => absurd h (Nat.not_lt_zero j)⟩) (gh_le ⟨le_upd rfl trivial (le_upd rfl trivial (le_upd rfl trivial (le_upd rfl trivial (le_upd rfl trivial (le_nil _))))), le_h0 _ _⟩)
  intro k ⟨hk, hall⟩
  by_cases hkc : k < T.length
  · by_cases hlong : T[k].length ≤ 10
    · repeat (first
    | (apply s_a TY; exact rfl)
    | (apply s_t; exact rfl; (first | assumption | omega))
    | (apply s_f; exact rfl; (first | assumption | omega))
    | apply w_seq
    | apply w_region
    | apply s_nil
    | apply t_norm
    | apply k_norm
    | apply w_block
    | apply w_skip
    | (apply w_condT; exact rfl; exact rfl)
    | (apply w_condF; exact rfl; exact rfl)
    | (apply s_c TY; exact rfl; (first | omega | exact ⟨by omega, by (first | with_reducible assumption | ((with_reducible apply matF_ne); omega) | assumption)⟩))
    | (apply s_l TY; exact rfl; (first | exact rfl | with_reducible assumption | ((with_reducible apply matF_at); omega) | assumption)))
      exact ⟨k + 1, ⟨by omega, fun j h hj => by
        by_cases e : j = k
        · subst e; exact hlong
        · exact hall j h (by omega)⟩, by omega, gh_le ⟨le_upd rfl trivial (le_upd rfl trivial (le_upd rfl trivial (le_upd rfl trivial (le_upd rfl trivial (le_nil _))))), le_h0 _ _⟩⟩
    · repeat (first
    | (apply s_a TY; exact rfl)
    | (apply s_t; exact rfl; (first | assumption | omega))
    | apply w_seq
    | apply w_region
    | apply s_nil
    | apply t_norm
    | apply t_ret
    | apply k_ret
    | apply w_block
    | apply w_ret
    | apply w_skip
    | (apply w_condT; exact rfl; exact rfl)
    | (apply s_c TY; exact rfl; (first | omega | exact ⟨by omega, by (first | with_reducible assumption | ((with_reducible apply matF_ne); omega) | assumption)⟩))
    | (apply s_l TY; exact rfl; (first | exact rfl | with_reducible assumption | ((with_reducible apply matF_at); omega) | assumption)))
      exact lv_ret (ret1 rfl (res_tmp rfl))
  · have hke : k = T.length := by omega
    subst hke
    have hr : ∀ r ∈ T, r.length ≤ 10 := fun r hr => by
      obtain ⟨j, hj, rfl⟩ := List.mem_iff_getElem.1 hr
      exact hall j hj hj
    have CI := CopyIce_s x (by omega) (by omega)
    have CT := CopyTimes_s T (by omega) (fun r h => by have := hr r h; omega)
    have IE := IceErr_s x
    by_cases hi : iceErrE x = 0
    case neg =>
      have he := hi
      have fE : fromE x a = iceErrE x := firstE_hd hi
      have wE : wayE x a z = iceErrE x := firstE_hd hi
      have hE : headE x a T = iceErrE x := if_pos hi
      have T1 : Summ Tryd.prog GG 19 [gridF x, .agg (celF a)] (.tup [.sl 0 (matF []), iv (iceErrE x)]) := by
        have := TimesFrom_s x a b
        rwa [timesR_bad fE he] at this
      have CK : Summ Tryd.prog GG 58 [gridF x, .agg (celF a), .sl T.length (matF T)] (.tup [.agg (celF ⟨0, 0⟩), iv (iceErrE x)]) := by
        have := CheckTimes_s x a T b (by omega)
        rwa [chkT_bad hE he] at this
      have WT : Summ Tryd.prog GG 60 [gridF x, .agg (celF a), .agg (celF z)] (.tup [.sl 0 (celsF []), iv (iceErrE x)]) := by
        have := WayTo_s x a z b
        rwa [wayR_bad wE he] at this
      repeat (first
    | (apply w_draw1 (id := 11) 11 rfl (by kernel_rfl); exact rfl; kernel_rfl)
    | (apply s_allocB TY (d := some 10); exact rfl; exact rfl; exact rfl)
    | (apply s_sto TY; exact rfl; exact rfl; exact rfl; exact rfl; exact rfl; exact rfl; exact rfl)
    | (apply s_bind; exact rfl; exact rfl; exact rfl; exact rfl; exact rfl; exact rfl; exact eqc_t rfl)
    | (apply s_idxAg Tryd.underlying85 hi27 hz27; exact rfl; exact rfl; exact rfl; exact rfl; decide; decide)
    | (apply s_a TY; exact rfl)
    | (apply s_t; exact rfl; (first | assumption | omega))
    | (apply s_f; exact rfl; (first | assumption | omega))
    | apply w_seq
    | apply w_region
    | (apply w_draw (id := 10) 9 rfl (by kernel_rfl))
    | (apply w_draw (id := 12) 11 rfl (by kernel_rfl))
    | apply s_nil
    | apply t_norm
    | apply t_exit
    | apply t_ret
    | apply k_hit
    | apply w_exit
    | apply w_ret
    | apply w_skip
    | (apply w_condT; exact rfl; exact rfl)
    | (apply w_condF; exact rfl; exact rfl)
    | (apply s_k (IE); exact rfl)
    | (apply s_k (CI); exact rfl)
    | (apply s_k (CT); exact rfl)
    | (apply s_k (CK); exact rfl)
    | (apply s_k (T1); exact rfl)
    | (apply s_k (WT); exact rfl)
    | (apply s_c TY; exact rfl; (first | omega | exact ⟨by omega, by (first | with_reducible assumption | ((with_reducible apply matF_ne); omega) | assumption)⟩)))
      exact lv_ret (ret1 rfl (res_tmp rfl))
    have v : Valid x := (checkIce_zero x).1 hi
    have CE0 := CellErr_s x a v
    rw [hi] at IE
    by_cases ha : cellErrE x a = 0
    case neg =>
      have he := ha
      have fE : fromE x a = cellErrE x a := by unfold fromE; rw [hi, firstE_tl, firstE_hd ha]
      have wE : wayE x a z = cellErrE x a := by unfold wayE; rw [hi, firstE_tl, firstE_hd ha]
      have hE : headE x a T = cellErrE x a := by unfold headE; rw [if_neg (fun h => h hi), if_pos ha]
      have T1 : Summ Tryd.prog GG 19 [gridF x, .agg (celF a)] (.tup [.sl 0 (matF []), iv (cellErrE x a)]) := by
        have := TimesFrom_s x a b
        rwa [timesR_bad fE he] at this
      have CK : Summ Tryd.prog GG 58 [gridF x, .agg (celF a), .sl T.length (matF T)] (.tup [.agg (celF ⟨0, 0⟩), iv (cellErrE x a)]) := by
        have := CheckTimes_s x a T b (by omega)
        rwa [chkT_bad hE he] at this
      have WT : Summ Tryd.prog GG 60 [gridF x, .agg (celF a), .agg (celF z)] (.tup [.sl 0 (celsF []), iv (cellErrE x a)]) := by
        have := WayTo_s x a z b
        rwa [wayR_bad wE he] at this
      repeat (first
    | (apply w_draw1 (id := 11) 11 rfl (by kernel_rfl); exact rfl; kernel_rfl)
    | (apply s_allocB TY (d := some 10); exact rfl; exact rfl; exact rfl)
    | (apply s_sto TY; exact rfl; exact rfl; exact rfl; exact rfl; exact rfl; exact rfl; exact rfl)
    | (apply s_bind; exact rfl; exact rfl; exact rfl; exact rfl; exact rfl; exact rfl; exact eqc_t rfl)
    | (apply s_idxAg Tryd.underlying85 hi27 hz27; exact rfl; exact rfl; exact rfl; exact rfl; decide; decide)
    | (apply s_a TY; exact rfl)
    | (apply s_t; exact rfl; (first | assumption | omega))
    | (apply s_f; exact rfl; (first | assumption | omega))
    | apply w_seq
    | apply w_region
    | (apply w_draw (id := 10) 9 rfl (by kernel_rfl))
    | (apply w_draw (id := 12) 11 rfl (by kernel_rfl))
    | apply s_nil
    | apply t_norm
    | apply t_exit
    | apply t_ret
    | apply k_hit
    | apply w_exit
    | apply w_ret
    | (apply w_condT; exact rfl; exact rfl)
    | (apply w_condF; exact rfl; exact rfl)
    | (apply s_k (IE); exact rfl)
    | (apply s_k (CI); exact rfl)
    | (apply s_k (CT); exact rfl)
    | (apply s_k (CK); exact rfl)
    | (apply s_k (T1); exact rfl)
    | (apply s_k (WT); exact rfl)
    | (apply s_k (CE0); exact rfl)
    | (apply s_c TY; exact rfl; (first | omega | exact ⟨by omega, by (first | with_reducible assumption | ((with_reducible apply matF_ne); omega) | assumption)⟩)))
      exact lv_ret (ret1 rfl (res_tmp rfl))
    rw [ha] at CE0
    have hf : InG x a := (cellE_in v).1 ha
    have sM := timesM_shape v a
    have T1 : Summ Tryd.prog GG 19 [gridF x, .agg (celF a)] (.tup [.sl (timesM x a).length (matF (timesM x a)), iv 0]) := by
      have := TimesFrom_s x a b
      rwa [show timesR x a = (timesM x a, 0) by unfold timesR; rw [show fromE x a = 0 from fromE_zero.2 ⟨v, hf⟩]; rfl] at this
    have CK := CheckTimes_s x a T b (by omega)
    have RC := RCheck_s x a T v hf (by omega) (fun r h => by have := hr r h; omega)
    have RT := Times_s x a v hf
    have ST : Summ Tryd.prog GG 31 [.sl (timesM x a).length (matF (timesM x a)), .sl (timesM x a).length (matF (timesM x a))] (bv true) := by
      have := SameTimes_s (timesM x a) (timesM x a) (by have := sM.len; have := v.r12; omega) (fun r h => by have := sM.row r h; omega)
      rwa [decide_eq_true rfl] at this
    have CE1 := CellErr_s x z v
    by_cases hz : cellErrE x z = 0
    case neg =>
      have WT : Summ Tryd.prog GG 60 [gridF x, .agg (celF a), .agg (celF z)] (.tup [.sl 0 (celsF []), iv (cellErrE x z)]) := by
        have := WayTo_s x a z b
        rwa [wayR_bad (show wayE x a z = cellErrE x z by unfold wayE; rw [hi, firstE_tl, ha, firstE_tl, firstE_hd hz]) hz] at this
      repeat (first
    | (apply w_draw1 (id := 11) 11 rfl (by kernel_rfl); exact rfl; kernel_rfl)
    | (apply s_allocB TY (d := some 10); exact rfl; exact rfl; exact rfl)
    | (apply s_sto TY; exact rfl; exact rfl; exact rfl; exact rfl; exact rfl; exact rfl; exact rfl)
    | (apply s_bind; exact rfl; exact rfl; exact rfl; exact rfl; exact rfl; exact rfl; exact necF _)
    | (apply s_idxAg Tryd.underlying85 hi27 hz27; exact rfl; exact rfl; exact rfl; exact rfl; decide; decide)
    | (apply s_a TY; exact rfl)
    | (apply s_t; exact rfl; (first | assumption | omega))
    | (apply s_f; exact rfl; (first | assumption | omega))
    | apply w_seq
    | apply w_region
    | (apply w_draw (id := 10) 9 rfl (by kernel_rfl))
    | (apply w_draw (id := 12) 11 rfl (by kernel_rfl))
    | apply s_nil
    | apply t_norm
    | apply t_exit
    | apply t_ret
    | apply k_hit
    | apply w_exit
    | apply w_ret
    | apply w_skip
    | (apply w_condT; exact rfl; exact rfl)
    | (apply w_condF; exact rfl; exact rfl)
    | (apply s_k (IE); exact rfl)
    | (apply s_k (CI); exact rfl)
    | (apply s_k (CT); exact rfl)
    | (apply s_k (CK); exact rfl)
    | (apply s_k (T1); exact rfl)
    | (apply s_k (WT); exact rfl)
    | (apply s_k (CE0); exact rfl)
    | (apply s_k (RC); exact rfl)
    | (apply s_k (RT); exact rfl)
    | (apply s_k (ST); exact rfl)
    | (apply s_k (CE1); exact rfl)
    | (apply s_alloc TY; exact rfl; exact rfl; exact rfl)
    | (apply s_store TY; exact rfl; exact rfl; exact rfl; exact rfl; exact rfl; exact rfl))
      exact lv_ret (ret1 rfl (res_tmp rfl))
    rw [hz] at CE1
    have ht : InG x z := (cellE_in v).1 hz
    have WT : Summ Tryd.prog GG 60 [gridF x, .agg (celF a), .agg (celF z)] (.tup [.sl (wayM x a z).length (celsF (wayM x a z)), iv 0]) := by
      have := WayTo_s x a z b
      rwa [show wayR x a z = (wayM x a z, 0) by unfold wayR; rw [show wayE x a z = 0 from wayE_zero.2 ⟨v, hf, ht⟩]; rfl] at this
    have RW := Way_s x a z v hf ht
    have SW : Summ Tryd.prog GG 63 [.sl (wayM x a z).length (celsF (wayM x a z)), .sl (wayM x a z).length (celsF (wayM x a z))] (bv true) := by
      have := SameWay_s (wayM x a z) (wayM x a z) (by have := wayM_len v hf ht; omega)
      rwa [decide_eq_true rfl] at this
    repeat (first
    | (apply w_draw1 (id := 11) 11 rfl (by kernel_rfl); exact rfl; kernel_rfl)
    | (apply s_allocB TY (d := some 10); exact rfl; exact rfl; exact rfl)
    | (apply s_sto TY; exact rfl; exact rfl; exact rfl; exact rfl; exact rfl; exact rfl; exact rfl)
    | (apply s_bind; exact rfl; exact rfl; exact rfl; exact rfl; exact rfl; exact rfl; exact necF _)
    | (apply s_idxAg Tryd.underlying85 hi27 hz27; exact rfl; exact rfl; exact rfl; exact rfl; decide; decide)
    | (apply s_a TY; exact rfl)
    | (apply s_t; exact rfl; (first | assumption | omega))
    | (apply s_f; exact rfl; (first | assumption | omega))
    | apply w_seq
    | apply w_region
    | (apply w_draw (id := 10) 9 rfl (by kernel_rfl))
    | (apply w_draw (id := 12) 11 rfl (by kernel_rfl))
    | apply s_nil
    | apply t_norm
    | apply t_exit
    | apply k_hit
    | apply w_exit
    | apply w_ret
    | apply w_skip
    | (apply w_condT; exact rfl; exact rfl)
    | (apply w_condF; exact rfl; exact rfl)
    | (apply s_k (IE); exact rfl)
    | (apply s_k (CI); exact rfl)
    | (apply s_k (CT); exact rfl)
    | (apply s_k (CK); exact rfl)
    | (apply s_k (T1); exact rfl)
    | (apply s_k (WT); exact rfl)
    | (apply s_k (CE0); exact rfl)
    | (apply s_k (RC); exact rfl)
    | (apply s_k (RT); exact rfl)
    | (apply s_k (ST); exact rfl)
    | (apply s_k (CE1); exact rfl)
    | (apply s_k (RW); exact rfl)
    | (apply s_k (SW); exact rfl)
    | (apply s_alloc TY; exact rfl; exact rfl; exact rfl)
    | (apply s_store TY; exact rfl; exact rfl; exact rfl; exact rfl; exact rfl; exact rfl))
    exact lv_ret (ret1 rfl (res_tmp rfl))
end Go.Proofs.YtienhiloecfgnaaDoor
namespace Go.Proofs.YtienhiloecfgnaaDoor
open Go Go.Ab Go.ChangeShapes Go.WideShapes Go.ChangeAt Go.RowKit
def cel2L (p : Cel × Cel) : List FV := celF p.1 ++ celF p.2
set_option maxRecDepth 100000 in
theorem opens_cel2 {W : World} : Opens Tryd.prog W 85 cel2L := fun H enc base sp hd fuel cs x hx => by
  obtain ⟨xs, m, _, _, hlen, hn, hel⟩ := DataW.trod_array Tryd.underlying85 hx
  have c85 : Tryd.prog.cellsOf 85 = 4 := by kernel_rfl
  have c27 : Tryd.prog.cellsOf 27 = 2 := by kernel_rfl
  rw [c85] at hlen
  rw [c27] at hel
  obtain ⟨v0, v1, v2, v3, rfl⟩ : ∃ v0 v1 v2 v3, cs = [v0, v1, v2, v3] := by
    match cs, hlen with
    | [a, b, c, d], _ => exact ⟨a, b, c, d, rfl⟩
  obtain ⟨x0, x1, rfl⟩ : ∃ x0 x1, xs = [x0, x1] := by
    match xs, hn with
    | [a, b], _ => exact ⟨a, b, rfl⟩
  obtain ⟨p, p1, p2⟩ := opens_cel H enc base sp hd m _ _ (show DataW.trod _ Tryd.prog W base sp hd m 27 [v0, v1] = some x0 from hel 0 (by decide))
  obtain ⟨q, q1, q2⟩ := opens_cel H enc base sp hd m _ _ (show DataW.trod _ Tryd.prog W base sp hd m 27 [v2, v3] = some x1 from hel 1 (by decide))
  exact ⟨(p, q), RepL.append p1 q1, fun u hu => by
    rcases List.mem_append.1 (show u ∈ [v0, v1] ++ [v2, v3] from hu) with h | h
    · exact p2 u h
    · exact q2 u h⟩
set_option maxRecDepth 100000 in
theorem arg_cel2 {H : Type} {enc : TypeId × Value → H} {W : World} {base : Nat} {v : Value} {d : DataW H} {ps : List MemPlace} (hv : Value.okWide Tryd.prog W .any base 85 v) (hd : DataW.Trod enc Tryd.prog W 0 (fun _ => true) true 85 v d ps) : ∃ a : Cel × Cel, RepF W (fun _ => False) v (.agg (cel2L a)) := by
  have hv' := hv
  simp only [Value.okWide, Tryd.underlying85] at hv'
  obtain ⟨cs, e, _⟩ := hv'
  exact arg_agg opens_cel2 e hd
end Go.Proofs.YtienhiloecfgnaaDoor
