/- Laws on which the proofs of this seat stand. No condition. -/
import Derived.Test.YtienhiloecfgnaaDoorK3
import Derived.Deep.Slices
import Derived.ChangeArms
import Derived.Test.YtienhiloecfgnaaDoorRows
import Derived.ProofKit
import Derived.LaidMore
import Derived.OpenShut
import Derived.Stop.Joined
import Derived.LaidHandle
namespace Go.Proofs.YtienhiloecfgnaaDoor
open Go Go.RowKit Go.Proofs Go.Shelf Go.Ab
def modF (m : List Int × List Bool) : List FV := [.sl m.1.length (intsF m.1), .sl m.2.length (boolsF m.2)]
def modelsF (ms : List (List Int × List Bool)) : List FV := ms.flatMap modF
def ownL (x : Grid) (ds : List Int) (k : Nat) : List Layer := x.layers.mapIdx fun i y => { y with delay := if i < k then ds.getD i y.delay else y.delay }
theorem ownL_len (x : Grid) (ds : List Int) (k : Nat) : (ownL x ds k).length = x.layers.length := by simp [ownL]
theorem ownL_zero (x : Grid) (ds : List Int) : ownL x ds 0 = x.layers := by
  refine List.ext_getElem (by simp [ownL]) fun i h1 h2 => ?_
  simp [ownL]
theorem ownL_end (x : Grid) (ds : List Int) : ownL x ds ds.length = (own x ds).layers := by
  refine List.ext_getElem (by simp [ownL, own]) fun i h1 h2 => ?_
  simp only [ownL, own, List.getElem_mapIdx]
  by_cases h : i < ds.length
  · rw [if_pos h]
  · rw [if_neg h, List.getD_eq_getElem?_getD, List.getElem?_eq_none (by omega)]; rfl
theorem flat_set3 {f : Layer → List FV} (hs : ∀ y, (f y).length = 3) : ∀ (l : List Layer) (k : Nat) (y : Layer) (a : FV), (hk : k < l.length) → f y = (f l[k]).set 0 a → (l.flatMap f).set (k * 3 + 0) a = (l.set k y).flatMap f
  | [], k, _, _, hk, _ => by simp at hk
  | z :: l, 0, y, a, _, h => by
    simp only [List.getElem_cons_zero] at h
    have h3 := hs z
    rw [List.set_cons_zero, List.flatMap_cons, List.flatMap_cons, h]
    match hz : f z, h3 with
    | [p, q, r], _ => simp
  | z :: l, k + 1, y, a, hk, h => by
    have h3 := hs z
    rw [List.set_cons_succ, List.flatMap_cons, List.flatMap_cons, ← flat_set3 hs l k y a (by simpa using hk) (by simpa using h)]
    rw [List.set_append_right _ _ (by rw [h3]; omega), h3]
    congr 2
    omega
theorem ownL_succ (x : Grid) (ds : List Int) {k : Nat} (hk : k < ds.length) (hl : ds.length = x.layers.length) : Ab.setAt (laysF (ownL x ds k)) (k * 3 + 0) [iv ds[k]] = laysF (ownL x ds (k + 1)) := by
  have hkl : k < (ownL x ds k).length := by rw [ownL_len]; omega
  rw [show Ab.setAt (laysF (ownL x ds k)) (k * 3 + 0) [iv ds[k]] = (laysF (ownL x ds k)).set (k * 3 + 0) (iv ds[k]) from rfl]
  unfold laysF
  rw [flat_set3 (fun _ => rfl) (ownL x ds k) k { (ownL x ds k)[k] with delay := ds[k] } (iv ds[k]) hkl rfl]
  congr 1
  refine List.ext_getElem (by simp [ownL]) fun i h1 h2 => ?_
  rw [List.getElem_set]
  split
  · rename_i e
    subst e
    have hkx : k < x.layers.length := by omega
    simp only [ownL, List.getElem_mapIdx]
    rw [if_pos (by omega), List.getD_eq_getElem?_getD, List.getElem?_eq_getElem hk]
    rfl
  · simp only [ownL, List.getElem_mapIdx]
    by_cases h : i < k
    · rw [if_pos h, if_pos (by omega)]
    · rw [if_neg h, if_neg (by omega)]
noncomputable def mo (x : Grid) (l : List Flash) (ds : List Int) : List Int × List Bool := (ds, explains (own x ds) l)
noncomputable def news (x : Grid) (l : List Flash) (rs : List Rng) (pre : List Int) : List (List Int × List Bool) := (assigns rs pre).map (mo x l)
noncomputable def msk (x : Grid) (l : List Flash) (r : Rng) (rs : List Rng) (pre : List Int) (ms : List (List Int × List Bool)) (k : Nat) : List (List Int × List Bool) := ms ++ ((upTo r.lo r.hi).take k).flatMap fun n => news x l rs (pre ++ [n])
theorem msk_zero (x : Grid) (l : List Flash) (r : Rng) (rs : List Rng) (pre : List Int) (ms : List (List Int × List Bool)) : msk x l r rs pre ms 0 = ms := by simp [msk]
theorem msk_succ (x : Grid) (l : List Flash) (r : Rng) (rs : List Rng) (pre : List Int) (ms : List (List Int × List Bool)) {k : Nat} (hk : k < (r.hi + 1 - r.lo).toNat) : msk x l r rs pre ms (k + 1) = msk x l r rs pre ms k ++ news x l rs (pre ++ [r.lo + k]) := by
  have hk' : k < (upTo r.lo r.hi).length := by rw [upTo_len]; exact hk
  have hg : (upTo r.lo r.hi)[k] = r.lo + k := by simp [upTo]
  unfold msk
  rw [List.take_succ_eq_append_getElem hk', hg, List.flatMap_append, List.append_assoc]
  simp
theorem msk_end (x : Grid) (l : List Flash) (r : Rng) (rs : List Rng) (pre : List Int) (ms : List (List Int × List Bool)) : msk x l r rs pre ms (r.hi + 1 - r.lo).toNat = ms ++ news x l (r :: rs) pre := by
  unfold msk news
  rw [List.take_of_length_le (by rw [upTo_len]; exact Nat.le_refl _), assigns, List.map_flatMap]
theorem msk_len (x : Grid) (l : List Flash) (r : Rng) (rs : List Rng) (pre : List Int) (ms : List (List Int × List Bool)) : ∀ k, k ≤ (r.hi + 1 - r.lo).toNat → (msk x l r rs pre ms k).length = ms.length + k * (assigns rs []).length
  | 0, _ => by simp [msk_zero]
  | k + 1, hk => by
    rw [msk_succ x l r rs pre ms hk, List.length_append, msk_len x l r rs pre ms k (by omega), news, List.length_map, assigns_len rs (pre ++ [r.lo + (k : Int)]) [], Nat.add_mul]
    omega
theorem detF_cel (c : Cel) : detF (.agg (celF c)) = some (.agg #[.int .i64 c.col, .int .i64 c.row]) := rfl
theorem intsF_snoc (l : List Int) (z : Int) : intsF (l ++ [z]) = intsF l ++ [iv z] := by simp [intsF]
theorem boolsF_take {l : List Bool} {k : Nat} (hk : k < l.length) : boolsF (l.take (k + 1)) = boolsF (l.take k) ++ [.v (.bool l[k])] := by
  unfold boolsF; rw [List.take_succ_eq_append_getElem hk, List.map_append]; rfl
theorem modelsF_snoc (ms : List (List Int × List Bool)) (m : List Int × List Bool) : modelsF (ms ++ [m]) = modelsF ms ++ modF m := by simp [modelsF]
set_option maxRecDepth 100000 in
theorem clip_s (l : List Int) (_hl : l.length ≤ 1000) : Summ Tryd.prog GG 141 [.sl l.length (intsF l)] (.slc l.length (intsF l)) := by
  have hlen : (intsF l).length = l.length * 1 := by simp [intsF]
  refine summW Tryd.func141 rfl rfl 9 rfl (by simp) (fun M0 => ?_)
  repeat (first
    | (apply s_move_f; exact rfl; exact rfl)
    | (apply s_assign_f; exact rfl; exact rfl)
    | (apply s_len TY; exact rfl; exact rfl; exact rfl)
    | apply w_seq
    | apply w_region
    | apply s_nil
    | apply t_norm)
  apply s_clip TY; exact rfl; exact rfl; exact rfl; exact rfl; exact rfl; exact rfl; exact hlen
  repeat (first
    | (apply s_assign_f; exact rfl; exact rfl)
    | apply s_nil
    | apply t_norm
    | apply w_ret)
  exact lv_ret (ret1 rfl (res_tmp rfl))
set_option maxRecDepth 100000 in
set_option maxHeartbeats 1000000 in
theorem grown_s (x : Grid) (rs : List Rng) (l : List Flash) (K : ClassOk x rs) (hl8 : l.length ≤ 8) (hf : ∀ f ∈ l, InG x f.frm ∧ InG x f.to) : ∀ (d : Nat) (pre : List Int) (ms : List (List Int × List Bool)), pre.length + d = rs.length → (∀ n ∈ pre, 1 ≤ n ∧ n ≤ 1000) → ms.length + (assigns (rs.drop pre.length) pre).length ≤ 1000 →
    SummM Tryd.prog GG 134 147 2 ms.length (modelsF ms) [classF x rs, .sl l.length (flasF l), .sl pre.length (intsF pre)] (ms ++ news x l (rs.drop pre.length) pre).length (modelsF (ms ++ news x l (rs.drop pre.length) pre)) := by
  have h6 := K.v.l6
  have hrl := K.len
  intro d
  induction d with
  | succ d ih =>
    intro pre ms hd hpre hms
    have hlt : pre.length < rs.length := by omega
    obtain ⟨r, hr⟩ : ∃ r, rs[pre.length] = r := ⟨_, rfl⟩
    have hrr := K.rng r (by rw [← hr]; exact List.getElem_mem hlt)
    have hdrop : rs.drop pre.length = r :: rs.drop (pre.length + 1) := by rw [← hr]; simp
    rw [hdrop] at hms ⊢
    rw [assigns_cons] at hms
    have hb : decide ((pre.length : Int) < (rs.length : Int)) = true := by simpa using hlt
    have hsub : ((rngsF rs).drop (pre.length * 2)).take 2 = [iv r.lo, iv r.hi] := by rw [← hr]; exact flat_sub (f := rngF) (fun _ => rfl) hlt
    have hne : rngsF rs ≠ [] := flat_ne (s := 2) (fun _ => rfl) (by decide) hlt
    refine summM_of Tryd.func134 rfl rfl 101 rfl (by simp) (fun M0 X => ?_)
    repeat (first
    | (apply s_move_f; exact rfl; exact rfl)
    | (apply s_assign_f; exact rfl; exact rfl)
    | (apply s_fld_pt TY; exact rfl; exact rfl; exact rfl)
    | (apply s_load_pt TY; exact rfl; exact rfl; exact rfl; (first | exact rfl | assumption))
    | (apply s_load_pts TY; exact rfl; exact rfl; exact rfl; (first | assumption | exact rfl); exact rfl)
    | (apply s_len TY; exact rfl; exact rfl; exact rfl)
    | (apply s_box; exact rfl; exact rfl; exact rfl)
    | (apply s_lss; exact rfl; exact rfl; exact rfl)
    | (apply s_fld_bx TY; exact rfl; exact rfl; exact rfl)
    | (apply s_load_bx_f TY; exact rfl; exact rfl; exact rfl; exact rfl; exact rfl)
    | apply w_seq
    | apply w_region
    | apply s_nil
    | apply t_norm
    | apply w_block
    | (apply s_idxN TY; exact rfl; exact rfl; exact rfl; exact rfl; assumption; assumption)
    | (apply s_alloc TY; exact rfl; exact rfl; exact rfl)
    | (apply s_store TY; exact rfl; exact rfl; exact rfl; exact rfl; exact rfl; exact rfl)
    | (apply w_condT; exact rfl; (first | exact rfl | assumption)))
    apply w_loop (fun k : Nat => ⟨(Ab.upd (Ab.upd (Ab.upd (Ab.upd (Ab.upd (Ab.upd (fun _ => .bot) 10 (.f (iv (r.lo + (k : Nat))))) 9 (.bx 1 0)) 5 (.f (.pt (classL x rs) 0))) 3 (.f (.sl pre.length (intsF pre)))) 2 (.f (.sl l.length (flasF l)))) 0 (.ow 0)), (Ab.upd (Ab.upd (fun _ => none) 0 (some (.row 147 2 (msk x l r (rs.drop (pre.length + 1)) pre ms k).length (modelsF (msk x l r (rs.drop (pre.length + 1)) pre ms k))))) 1 (some (.box [.f (iv r.lo), .f (iv r.hi)]))), 2⟩) (fun k => k ≤ (r.hi + 1 - r.lo).toNat) (fun k => (r.hi + 1 - r.lo).toNat - k) 0 (Nat.zero_le _) (gh_le ⟨le_upd rfl rfl (le_upd rfl trivial (le_upd rfl trivial (le_upd rfl trivial (le_upd rfl rfl (le_upd (congrArg (fun z => AV.f (iv z)) (Int.add_zero r.lo)) trivial (le_nil _)))))), le_hupd rfl (fun y hy => by simp at hy; rcases hy with rfl | rfl <;> first | trivial | rfl) (le_hupd (by rw [msk_zero]; rfl) trivial (le_h0 _ _))⟩)
    intro k hk
    by_cases hkc : k < (r.hi + 1 - r.lo).toNat
    · have hc : decide (r.lo + (k : Int) ≤ r.hi) = true := by simp; omega
      have hmul := Nat.mul_le_mul_right (assigns (rs.drop (pre.length + 1)) []).length (show k + 1 ≤ (r.hi + 1 - r.lo).toNat from hkc)
      have hlen := msk_len x l r (rs.drop (pre.length + 1)) pre ms k hk
      have IH := ih (pre ++ [r.lo + k]) (msk x l r (rs.drop (pre.length + 1)) pre ms k) (by simp; omega) (fun n hn => by
        rcases List.mem_append.1 hn with h | h
        · exact hpre n h
        · simp at h; omega) (by rw [hlen, assigns_len _ (pre ++ [r.lo + (k : Int)]) []]; simp only [List.length_append, List.length_cons, List.length_nil, Nat.zero_add]; rw [Nat.add_mul] at hmul; omega)
      simp only [List.length_append, List.length_cons, List.length_nil, Nat.zero_add, intsF_snoc] at IH
      rw [← List.length_append, ← msk_succ x l r (rs.drop (pre.length + 1)) pre ms hkc] at IH
      have hil : (intsF pre).length = pre.length * 1 := by simp [intsF]
      repeat (first
    | (apply s_move_f; exact rfl; exact rfl)
    | (apply s_leq; exact rfl; exact rfl; exact rfl)
    | (apply s_fld_bx TY; exact rfl; exact rfl; exact rfl)
    | (apply s_load_bx_f TY; exact rfl; exact rfl; exact rfl; exact rfl; exact rfl)
    | apply w_seq
    | apply w_region
    | apply s_nil
    | apply t_norm
    | apply w_block
    | apply w_skip
    | (apply w_condT; exact rfl; (first | exact rfl | assumption)))
      apply w_draw 8 rfl (by kernel_rfl)
      repeat (first
    | (apply s_append_clip TY; exact rfl; exact rfl; exact rfl; exact rfl; exact rfl; exact rfl; exact rfl; exact rfl; exact hil; exact rfl; (unfold maxLen; omega); omega)
    | (apply s_callM IH; exact rfl; exact rfl; exact rfl; exact rfl; exact rfl; exact rfl)
    | (apply s_move_f; exact rfl; exact rfl)
    | (apply s_assign_f; exact rfl; exact rfl)
    | (apply s_load_pts TY; exact rfl; exact rfl; exact rfl; (first | assumption | exact rfl); exact rfl)
    | (apply s_move_o; exact rfl; exact rfl)
    | (apply s_assign_o; exact rfl; exact rfl)
    | (apply s_bslice TY; exact rfl; exact rfl; exact rfl; exact rfl; exact rfl; exact rfl)
    | apply w_region
    | apply s_nil
    | apply t_norm
    | apply k_norm
    | (apply s_call (clip_s pre (by omega)); exact rfl; exact rfl; exact rfl; exact rfl)
    | (apply s_add; exact rfl; exact rfl; exact rfl; (omega)))
      exact ⟨k + 1, by omega, by omega, gh_le ⟨le_upd rfl rfl (le_upd rfl trivial (le_upd rfl trivial (le_upd rfl trivial (le_upd rfl rfl (le_upd (congrArg (fun z => AV.f (iv z)) (show r.lo + ((k + 1 : Nat) : Int) = r.lo + (k : Int) + 1 by omega)) trivial (le_nil _)))))), le_hupd rfl (fun y hy => by simp at hy; rcases hy with rfl | rfl <;> first | trivial | rfl) (le_hupd rfl trivial (le_h0 _ _))⟩⟩
    · have hc : decide (r.lo + (k : Int) ≤ r.hi) = false := by simp; omega
      have hke : k = (r.hi + 1 - r.lo).toNat := by omega
      repeat (first
    | (apply s_move_f; exact rfl; exact rfl)
    | (apply s_leq; exact rfl; exact rfl; exact rfl)
    | (apply s_move_o; exact rfl; exact rfl)
    | (apply s_assign_o; exact rfl; exact rfl)
    | (apply s_fld_bx TY; exact rfl; exact rfl; exact rfl)
    | (apply s_load_bx_f TY; exact rfl; exact rfl; exact rfl; exact rfl; exact rfl)
    | apply w_seq
    | apply w_region
    | apply s_nil
    | apply t_norm
    | apply t_exit
    | apply t_ret
    | apply k_hit
    | apply w_exit
    | apply w_ret
    | (apply w_condF; exact rfl; (first | exact rfl | assumption)))
      refine ⟨8, rfl, rfl, ?_⟩
      subst hke
      rw [← msk_end]
      rfl
  | zero =>
    intro pre ms hd hpre hms
    have hpl : pre.length = rs.length := by omega
    have hdrop : rs.drop pre.length = [] := List.drop_eq_nil_of_le (by omega)
    have hnews : news x l (rs.drop pre.length) pre = [mo x l pre] := by rw [hdrop]; rfl
    rw [hdrop] at hms
    have hms2 : ms.length + 1 ≤ 1000 := hms
    rw [hnews]
    have hxl : pre.length = x.layers.length := by omega
    have hb : decide ((pre.length : Int) < (rs.length : Int)) = false := by simp; omega
    have hil : (intsF pre).length = pre.length * 1 := by simp [intsF]
    refine summM_of Tryd.func134 rfl rfl 101 rfl (by simp) (fun M0 X => ?_)
    repeat (first
    | (apply s_callN (cloneL_s x.layers (by omega)); exact rfl; exact rfl; exact rfl; exact rfl; exact rfl)
    | (apply s_move_f; exact rfl; exact rfl)
    | (apply s_assign_f; exact rfl; exact rfl)
    | (apply s_fld_pt TY; exact rfl; exact rfl; exact rfl)
    | (apply s_load_pt TY; exact rfl; exact rfl; exact rfl; (first | exact rfl | assumption))
    | (apply s_load_pts TY; exact rfl; exact rfl; exact rfl; (first | assumption | exact rfl); exact rfl)
    | (apply s_len TY; exact rfl; exact rfl; exact rfl)
    | (apply s_box; exact rfl; exact rfl; exact rfl)
    | (apply s_lss; exact rfl; exact rfl; exact rfl)
    | (apply s_fld_bx TY; exact rfl; exact rfl; exact rfl)
    | apply w_seq
    | apply w_region
    | apply s_nil
    | apply t_norm
    | apply w_block
    | apply w_skip
    | (apply s_alloc TY; exact rfl; exact rfl; exact rfl)
    | (apply s_store TY; exact rfl; exact rfl; exact rfl; exact rfl; exact rfl; exact rfl)
    | (apply w_condF; exact rfl; (first | exact rfl | assumption)))
    apply w_loop (fun k : Nat => ⟨(Ab.upd (Ab.upd (Ab.upd (Ab.upd (Ab.upd (Ab.upd (Ab.upd (fun _ => .bot) 56 (.f (iv (k : Nat)))) 55 (.f (iv pre.length))) 54 (.f (.sl pre.length (intsF pre)))) 11 (.bx 1 0)) 3 (.f (.sl pre.length (intsF pre)))) 2 (.f (.sl l.length (flasF l)))) 0 (.ow 0)), (Ab.upd (Ab.upd (Ab.upd (fun _ => none) 0 (some (.row 147 2 ms.length (modelsF ms)))) 1 (some (.box [.ow 2, .f (iv x.rows), .f (.sl x.tilt.length (intsF x.tilt))]))) 2 (some (.row 33 3 x.layers.length (laysF (ownL x pre k))))), 3⟩) (fun k => k ≤ pre.length) (fun k => pre.length - k) 0 (Nat.zero_le _) (gh_le ⟨le_upd rfl rfl (le_upd rfl trivial (le_upd rfl trivial (le_upd rfl rfl (le_upd rfl trivial (le_upd rfl trivial (le_upd rfl trivial (le_nil _))))))), le_hupd (by rw [ownL_zero]; rfl) trivial (le_hupd rfl (fun y hy => by simp at hy; rcases hy with rfl | rfl | rfl <;> first | trivial | rfl) (le_hupd rfl trivial (le_h0 _ _)))⟩)
    intro k hk
    by_cases hkc : k < pre.length
    · have hc : decide ((k : Int) < (pre.length : Int)) = true := by simpa using hkc
      have hc1 : (intsF pre)[k * 1]? = some (iv pre[k]) := map_at hkc
      have hne : intsF pre ≠ [] := map_ne hkc
      have hkx : k < x.layers.length := by omega
      have hlen3 : (laysF (ownL x pre k)).length = x.layers.length * 3 := by rw [laysF, flatMap_length (s := 3) (fun _ => rfl), ownL_len]
      repeat (first
    | (apply s_storeR TY; exact rfl; exact rfl; exact rfl; exact rfl; exact rfl; (simp only [List.length_cons, List.length_nil]; omega))
    | (apply s_move_f; exact rfl; exact rfl)
    | (apply s_assign_f; exact rfl; exact rfl)
    | (apply s_load_pt TY; exact rfl; exact rfl; exact rfl; (first | exact rfl | assumption))
    | (apply s_lss; exact rfl; exact rfl; exact rfl)
    | (apply s_fld_bx TY; exact rfl; exact rfl; exact rfl)
    | (apply s_load_bx_o TY; exact rfl; exact rfl; exact rfl; exact rfl; exact rfl)
    | apply w_seq
    | apply w_region
    | apply s_nil
    | apply t_norm
    | apply k_norm
    | apply w_block
    | apply w_skip
    | (apply s_add; exact rfl; exact rfl; exact rfl; (omega))
    | (apply s_idxN TY; exact rfl; exact rfl; exact rfl; exact rfl; assumption; assumption)
    | (apply s_idxN_ow TY; exact rfl; exact rfl; exact rfl; exact rfl; exact rfl; assumption)
    | (apply w_condT; exact rfl; (first | exact rfl | assumption)))
      exact ⟨k + 1, by omega, by omega, gh_le ⟨le_upd rfl rfl (le_upd rfl trivial (le_upd rfl trivial (le_upd rfl rfl (le_upd rfl trivial (le_upd rfl trivial (le_upd rfl trivial (le_nil _))))))), le_hupd (by rw [← ownL_succ x pre hkc hxl]; rfl) trivial (le_hupd rfl (fun y hy => by simp at hy; rcases hy with rfl | rfl | rfl <;> first | trivial | rfl) (le_hupd rfl trivial (le_h0 _ _)))⟩⟩
    · have hc : decide ((k : Int) < (pre.length : Int)) = false := by simpa using hkc
      have hke : k = pre.length := by omega
      subst hke
      repeat (first
    | (apply s_move_f; exact rfl; exact rfl)
    | (apply s_lss; exact rfl; exact rfl; exact rfl)
    | apply w_seq
    | apply w_region
    | apply s_nil
    | apply t_norm
    | apply t_exit
    | apply k_hit
    | apply w_exit
    | (apply w_condF; exact rfl; (first | exact rfl | assumption)))
      apply s_ghost; exact rfl; exact gh_row 2 rfl
      repeat (first
    | (apply s_move_f; exact rfl; exact rfl)
    | (apply s_len TY; exact rfl; exact rfl; exact rfl)
    | (apply s_build TY; exact rfl; exact rfl; exact rfl; exact rfl; exact rfl)
    | apply w_seq
    | apply w_region
    | apply s_nil
    | apply t_norm
    | apply w_block
    | (apply s_call (SummN.toSumm (cloneI_s pre (by omega))); exact rfl; exact rfl; exact rfl; exact rfl)
    | (apply s_alloc TY; exact rfl; exact rfl; exact rfl)
    | (apply s_store TY; exact rfl; exact rfl; exact rfl; exact rfl; exact rfl; exact rfl))
      apply w_gh (gh_ownB 3 1 4 1 rfl rfl rfl)
      apply w_loop (fun k : Nat => ⟨(Ab.upd (Ab.upd (Ab.upd (Ab.upd (Ab.upd (Ab.upd (fun _ => .bot) 73 (.f (iv (k : Nat)))) 72 (.f (iv l.length))) 71 (.f (.sl l.length (flasF l)))) 14 (.bx 3 0)) 11 (.bx 1 0)) 0 (.ow 0)), (Ab.upd (Ab.upd (Ab.upd (Ab.upd (fun _ => none) 0 (some (.row 147 2 ms.length (modelsF ms)))) 1 (some (.box [.f (.sl (own x pre).layers.length (laysF (own x pre).layers)), .f (iv (own x pre).rows), .f (.sl (own x pre).tilt.length (intsF (own x pre).tilt))]))) 3 (some (.box [.f (.sl pre.length (intsF pre)), .ow 4]))) 4 (some (.row 4 1 k (boolsF ((explains (own x pre) l).take k))))), 5⟩) (fun k => k ≤ l.length) (fun k => l.length - k) 0 (Nat.zero_le _) (gh_le ⟨le_upd rfl rfl (le_upd rfl rfl (le_upd rfl rfl (le_upd rfl trivial (le_upd rfl trivial (le_upd rfl trivial (le_nil _)))))), le_hupd rfl trivial (le_hupd rfl (fun y hy => by simp at hy; rcases hy with rfl | rfl <;> first | trivial | rfl) (le_hupd (by rw [← ownL_end, ownL_len]; rfl) (fun y hy => by simp at hy; rcases hy with rfl | rfl | rfl <;> first | trivial | rfl) (le_hupd rfl trivial (le_h0 _ _))))⟩)
      intro k hk
      have hel : (explains (own x pre) l).length = l.length := by simp [explains]
      by_cases hkc : k < l.length
      · have hc : decide ((k : Int) < (l.length : Int)) = true := by simpa using hkc
        have hsub : ((flasF l).drop (k * 7)).take 7 = flaF l[k] := flat_sub (f := flaF) (fun _ => rfl) hkc
        have hne : flasF l ≠ [] := flat_ne (s := 7) (fun _ => rfl) (by decide) hkc
        have hin := hf l[k] (List.getElem_mem hkc)
        have hexp : (explains (own x pre) l)[k]'(by omega) = withinB (distOf (own x pre) l[k].frm l[k].to) l[k].time.lo l[k].time.hi := by simp [explains]
        have hv := own_valid K.v hpre
        repeat (first
    | (apply s_load_pts TY; exact rfl; exact rfl; exact rfl; (first | assumption | exact rfl); exact rfl)
    | (apply s_lss; exact rfl; exact rfl; exact rfl)
    | apply w_seq
    | apply w_region
    | apply s_nil
    | apply t_norm
    | apply w_block
    | apply w_skip
    | (apply s_idxN TY; exact rfl; exact rfl; exact rfl; exact rfl; assumption; assumption)
    | (apply s_alloc TY; exact rfl; exact rfl; exact rfl)
    | (apply s_store TY; exact rfl; exact rfl; exact rfl; exact rfl; exact rfl; exact rfl)
    | (apply w_condT; exact rfl; (first | exact rfl | assumption)))
        apply w_draw 17 rfl (by kernel_rfl)
        repeat (first
    | (apply s_lookup; exact rfl; exact rfl; exact rfl; exact rfl; exact (fun ob r w hG hr => look_s (x := own x pre) (fr := l[k].frm) (c := l[k].to) ((own_in x pre _).2 hin.2) ob r w hG hr); exact (fun w M => RepF.v _))
    | (apply s_append TY; exact rfl; exact rfl; exact rfl; exact rfl; exact rfl; exact rfl; exact rfl; exact rfl; exact rfl; (unfold maxLen; omega); omega)
    | (apply s_move_f; exact rfl; exact rfl)
    | (apply s_fld_bx TY; exact rfl; exact rfl; exact rfl)
    | (apply s_load_bx_f TY; exact rfl; exact rfl; exact rfl; exact rfl; exact rfl)
    | (apply s_load_bx_o TY; exact rfl; exact rfl; exact rfl; exact rfl; exact rfl)
    | (apply s_load_bxs TY; exact rfl; exact rfl; exact rfl; exact rfl; exact rfl; exact rfl)
    | (apply s_bslice TY; exact rfl; exact rfl; exact rfl; exact rfl; exact rfl; exact rfl)
    | apply w_region
    | apply s_nil
    | apply t_norm
    | apply k_norm
    | (apply s_call (times_s (own x pre) l[k].frm hv ((own_in x pre _).2 hin.1)); exact rfl; exact rfl; exact rfl; exact rfl)
    | (apply s_call (within_s _ _ _); exact rfl; exact rfl; exact rfl; exact rfl)
    | (apply s_add; exact rfl; exact rfl; exact rfl; (omega))
    | (apply s_store TY; exact rfl; exact rfl; exact rfl; exact rfl; exact rfl; exact rfl))
        exact ⟨k + 1, by omega, by omega, gh_le ⟨le_upd rfl rfl (le_upd rfl rfl (le_upd rfl rfl (le_upd rfl trivial (le_upd rfl trivial (le_upd rfl trivial (le_nil _)))))), le_hupd (by rw [boolsF_take (show k < (explains (own x pre) l).length by omega), hexp]; rfl) trivial (le_hupd rfl (fun y hy => by simp at hy; rcases hy with rfl | rfl <;> first | trivial | rfl) (le_hupd rfl (fun y hy => by simp at hy; rcases hy with rfl | rfl | rfl <;> first | trivial | rfl) (le_hupd rfl trivial (le_h0 _ _))))⟩⟩
      · have hc : decide ((k : Int) < (l.length : Int)) = false := by simpa using hkc
        have hke : k = l.length := by omega
        subst hke
        rw [List.take_of_length_le (by omega)]
        repeat (first
    | (apply s_lss; exact rfl; exact rfl; exact rfl)
    | (apply s_move_o; exact rfl; exact rfl)
    | apply w_seq
    | apply w_region
    | apply s_nil
    | apply t_norm
    | apply t_exit
    | apply k_hit
    | apply w_exit
    | (apply w_condF; exact rfl; (first | exact rfl | assumption)))
        apply s_ghost; exact rfl; exact gh_row 4 rfl
        repeat (first
    | (apply s_append TY; exact rfl; exact rfl; exact rfl; exact rfl; exact rfl; exact rfl; exact rfl; exact rfl; exact rfl; (unfold maxLen; omega); omega)
    | (apply s_assign_o; exact rfl; exact rfl)
    | (apply s_load_bxs TY; exact rfl; exact rfl; exact rfl; exact rfl; exact rfl; exact rfl)
    | (apply s_bslice TY; exact rfl; exact rfl; exact rfl; exact rfl; exact rfl; exact rfl)
    | apply s_nil
    | apply t_norm
    | apply w_ret)
        refine ⟨8, rfl, rfl, ?_⟩
        rw [modelsF_snoc, List.length_append]
        show _ = some (Blk.row 147 2 (ms.length + 1) (modelsF ms ++ [FV.sl pre.length (intsF pre), FV.sl (explains (own x pre) l).length (boolsF (explains (own x pre) l))]))
        rw [hel]
        rfl
end Go.Proofs.YtienhiloecfgnaaDoor
namespace Go.Proofs.YtienhiloecfgnaaDoor
open Go Go.RowKit Go.Proofs Go.Shelf Go.Ab
structure Small (x : Grid) (rs : List Rng) (l : List Flash) : Prop where
  nl : x.layers.length ≤ 140737488355328
  nt : x.tilt.length ≤ 140737488355328
  nr : rs.length ≤ 140737488355328
  nf : l.length ≤ 140737488355328
  name : ∀ f ∈ l, f.name.size ≤ 9223372036854775807
theorem CheckFlashes_s (x : Grid) (rs : List Rng) (l : List Flash) (b : Small x rs l) : Summ Tryd.prog GG 26 [classF x rs, .sl l.length (flasF l)] (.tup [iv (checkFlashes x rs l).1, iv (checkFlashes x rs l).2]) := by
  refine ⟨enters_of Tryd.func26 (by kernel_rfl) rfl, fun w M us hM hG R => ?_⟩
  obtain ⟨u1, us1, rfl, r1, R1⟩ := R.head
  obtain ⟨u2, us2, rfl, r2, R2⟩ := R1.head
  have := R2.end; subst this
  obtain ⟨la, ta, ra, lc, tc, rc, rfl, hg, hr⟩ := rep_classF r1 b.nl b.nt
  obtain ⟨fa, fc, rfl, hfc, hf⟩ := rep_row r2 (detC_flas l)
  refine (CheckFlashes_any la ta ra fa lc tc rc fc x rs l w hg hr b.nr ⟨hf, b.nf, b.name⟩ hfc).mono fun e w' ⟨h1, h2⟩ => ⟨_, h1, ?_, h2⟩
  have R := RepL.cons (RepF.v (w := w') (M := M) (.int .i64 (checkFlashes x rs l).1)) (RepL.cons (RepF.v (.int .i64 (checkFlashes x rs l).2)) (RepL.nil _ _))
  exact RepF.tup _ _ R.1 R.2
theorem containsB_s (l : List Bool) (v : Bool) (hl : l.length ≤ 140737488355328) : Summ Tryd.prog GG 97 [.sl l.length (boolsF l), .v (.bool v)] (.v (.bool (l.any fun b => v == b))) := by
  refine ⟨enters_of Tryd.func97 (by kernel_rfl) rfl, fun w M us hM hG R => ?_⟩
  obtain ⟨u1, us1, rfl, r1, R1⟩ := R.head
  obtain ⟨u2, us2, rfl, r2, R2⟩ := R1.head
  have := R2.end; subst this
  have := repV r2; subst this
  obtain ⟨a, c, rfl, _, hr⟩ := rep_row r1 (detC_bools l)
  exact (containsBool v a l c w hl hr).mono fun e w' ⟨h1, h2⟩ => ⟨_, h1, RepF.v _, h2 ▸ Ext.refl _⟩
theorem rep_nil {w : World} {M : Nat → Prop} {u : Value} (h : RepF w M u (.v (.slice none 0 0))) : RepF w M u (.sl 0 []) := by
  have := repV h; subst this
  exact RepF.sl none 0 0 [] [] (Nat.le_refl _) rfl (by simp) (fun h => absurd rfl h) (fun k u x h => by simp at h)
theorem flashScan_zero {x : Grid} {l : List Flash} : ∀ (f i : Nat), i + f = l.length → (flashScan x l f i).2 = 0 → ∀ j, i ≤ j → (hj : j < l.length) → flashE x (l.take j) l[j] = 0
  | 0, i, h, _, j, h1, hj => by omega
  | f + 1, i, h, hz, j, h1, hj => by
    have hi : i < l.length := by omega
    unfold flashScan at hz
    rw [getDF hi] at hz
    by_cases hr : (flashE x (l.take i) l[i] != 0) = true
    · rw [if_pos hr] at hz; simp at hr; exact absurd hz hr
    · rw [if_neg hr] at hz
      by_cases e : j = i
      · subst e; simpa using hr
      · exact flashScan_zero f (i + 1) (by omega) hz j (by omega) hj
structure FlashesOk (x : Grid) (rs : List Rng) (l : List Flash) : Prop where
  k : ClassOk x rs
  l8 : l.length ≤ 8
  cells : ∀ f ∈ l, InG x f.frm ∧ InG x f.to
theorem flashesOk {x : Grid} {rs : List Rng} {l : List Flash} (h : (checkFlashes x rs l).2 = 0) : FlashesOk x rs l := by
  unfold checkFlashes at h
  by_cases t1 : (flashE0 x rs l != 0) = true
  · rw [if_pos t1] at h; simp at t1; exact absurd h t1
  rw [if_neg t1] at h
  have h0 : flashE0 x rs l = 0 := by simpa using t1
  unfold flashE0 at h0
  rw [firstE_zero] at h0
  have k := classOk (h0 (checkClass x rs).2 (by simp))
  have h8 := (unlessE_zero (by decide)).1 (h0 (unlessE (decide ((l.length : Int) ≤ 8)) 8) (by simp))
  simp only [decide_eq_true_eq] at h8
  refine ⟨k, by omega, fun f hf => ?_⟩
  obtain ⟨j, hj, rfl⟩ := List.mem_iff_getElem.1 hf
  have hz := flashScan_zero (x := x) l.length 0 (by omega) h j (Nat.zero_le _) hj
  unfold flashE at hz
  rw [firstE_zero] at hz
  have a1 := (unlessE_zero (by decide)).1 (hz (cellErrE x l[j].frm) (by simp))
  have a2 := (unlessE_zero (by decide)).1 (hz (cellErrE x l[j].to) (by simp))
  exact ⟨(cellB_in k.v).1 a1, (cellB_in k.v).1 a2⟩
noncomputable def allMo (x : Grid) (rs : List Rng) (l : List Flash) : List (List Int × List Bool) := news x l rs []
theorem grown_nil (x : Grid) (rs : List Rng) (l : List Flash) (K : FlashesOk x rs l) : Summ Tryd.prog GG 134 [.v (.slice none 0 0), classF x rs, .sl l.length (flasF l), .v (.slice none 0 0)] (.sl (allMo x rs l).length (modelsF (allMo x rs l))) := by
  have G := grown_s x rs l K.k K.l8 K.cells rs.length [] [] (by simp) (by simp) (by simp; have := K.k.cnt; omega)
  simp only [List.nil_append, List.length_nil, List.drop_zero] at G
  refine ⟨G.enters, fun w M us hM hG R => ?_⟩
  obtain ⟨u1, us1, rfl, r1, R1⟩ := R.head
  obtain ⟨u2, us2, rfl, r2, R2⟩ := R1.head
  obtain ⟨u3, us3, rfl, r3, R3⟩ := R2.head
  obtain ⟨u4, us4, rfl, r4, R4⟩ := R3.head
  have := R4.end; subst this
  have e1 := repV r1; subst e1
  have hMM : ∀ b, b < w.heap.size → (M b ∨ bk (.slice none 0 0) = some b) → M b := fun b _ h => h.elim id (fun h => by simp [bk] at h)
  have RR : RepL w M [u2, u3, u4] [classF x rs, .sl l.length (flasF l), .sl 0 (intsF [])] := RepL.cons r2 (RepL.cons r3 (RepL.cons (rep_nil r4) (RepL.nil _ _)))
  refine (G.call w M [u2, u3, u4] (.slice none 0 0) [] hM (fun b hb => by simp [bk] at hb) (fun g cs hg => (hG g cs hg).ext (Ext.refl _) hMM) (RR.ext (Ext.refl _) hMM) (World.ownsRow_nil _ _ _ _) (by simp) (RepL.nil _ _)).mono ?_
  rintro e w' ⟨v', xs', rfl, h1, h2, h3, h4, h5⟩
  have hfr : ∀ c, bk v' = some c → w.heap.size ≤ c := fun c hc => (h5 c hc).elim (fun h => by simp [bk] at h) id
  refine ⟨v', rfl, own_sl (w := w) (e := 147) (sz := 2) (us := xs') ⟨h1.1, ?_⟩ h2 hM (h3.mono (fun _ _ _ => rfl) (Nat.le_refl _) (fun _ _ h => .inl h)), Ext.of_grown h4⟩
  rcases h1.2 with h | ⟨g, cap, cur, q1, q2, q3⟩
  · exact .inl h
  · exact .inr ⟨g, cap, cur, q1, hfr g (by rw [q1]; rfl), q3⟩
set_option maxRecDepth 100000 in
theorem openModels_err (x : Grid) (rs : List Rng) (l : List Flash) (b : Small x rs l) (h : (checkFlashes x rs l).2 ≠ 0) : Summ Tryd.prog GG 96 [classF x rs, .sl l.length (flasF l)] (.tup [.v (.slice none 0 0), iv (checkFlashes x rs l).2]) := by
  have hb : (!decide ((checkFlashes x rs l).2 = 0)) = true := by simpa using h
  refine summW Tryd.func96 rfl rfl 20 rfl (by simp) (fun M0 => ?_)
  repeat (first
    | (apply s_move_f; exact rfl; exact rfl)
    | (apply s_assign_f; exact rfl; exact rfl)
    | (apply s_load_pts TY; exact rfl; exact rfl; exact rfl; (first | assumption | exact rfl); exact rfl)
    | (apply s_extract; exact rfl; exact rfl; exact rfl)
    | (apply s_box; exact rfl; exact rfl; exact rfl)
    | (apply s_neq; exact rfl; exact rfl; exact rfl)
    | apply w_seq
    | apply w_region
    | apply s_nil
    | apply t_norm
    | apply t_ret
    | apply w_ret
    | (apply s_call (CheckFlashes_s x rs l b); exact rfl; exact rfl; exact rfl; exact rfl)
    | (apply w_condT; exact rfl; (first | exact rfl | assumption)))
  exact lv_ret (ret2 rfl (res_tmp rfl) (res_tmp rfl))
set_option maxRecDepth 100000 in
theorem openModels_ok (x : Grid) (rs : List Rng) (l : List Flash) (b : Small x rs l) (h : (checkFlashes x rs l).2 = 0) : Summ Tryd.prog GG 96 [classF x rs, .sl l.length (flasF l)] (.tup [.sl (allMo x rs l).length (modelsF (allMo x rs l)), iv 0]) := by
  have hb : (!decide ((checkFlashes x rs l).2 = 0)) = false := by simpa using h
  refine summW Tryd.func96 rfl rfl 20 rfl (by simp) (fun M0 => ?_)
  repeat (first
    | (apply s_move_f; exact rfl; exact rfl)
    | (apply s_assign_f; exact rfl; exact rfl)
    | (apply s_load_pts TY; exact rfl; exact rfl; exact rfl; (first | assumption | exact rfl); exact rfl)
    | (apply s_extract; exact rfl; exact rfl; exact rfl)
    | (apply s_box; exact rfl; exact rfl; exact rfl)
    | (apply s_neq; exact rfl; exact rfl; exact rfl)
    | apply w_seq
    | apply w_region
    | apply s_nil
    | apply t_norm
    | apply w_ret
    | apply w_skip
    | (apply s_call (CheckFlashes_s x rs l b); exact rfl; exact rfl; exact rfl; exact rfl)
    | (apply s_call (grown_nil x rs l (flashesOk h)); exact rfl; exact rfl; exact rfl; exact rfl)
    | (apply w_condF; exact rfl; (first | exact rfl | assumption)))
  exact lv_ret (ret2 rfl (res_tmp rfl) (res_tmp rfl))
noncomputable def fits (ms : List (List Int × List Bool)) : List (List Int) := (ms.filter fun m => !m.2.any fun b => false == b).map (·.1)
theorem fits_take {ms : List (List Int × List Bool)} {k : Nat} (hk : k < ms.length) : fits (ms.take (k + 1)) = fits (ms.take k) ++ (if (ms[k].2.any fun b => false == b) = true then [] else [ms[k].1]) := by
  unfold fits
  rw [List.take_succ_eq_append_getElem hk, List.filter_append, List.map_append]
  congr 1
  by_cases h : (ms[k].2.any fun b => false == b) = true
  · rw [if_pos h]; simp only [List.filter_cons, h]; rfl
  · rw [if_neg h]; simp only [List.filter_cons]; rw [show (ms[k].2.any fun b => false == b) = false by simpa using h]; rfl
theorem fits_len (ms : List (List Int × List Bool)) : (fits ms).length ≤ ms.length := by unfold fits; rw [List.length_map]; exact List.length_filter_le _ _
def rowF (r : List Int) : FV := .sl r.length (intsF r)
def matF (M : List (List Int)) : List FV := M.map rowF
theorem matF_snoc (M : List (List Int)) (r : List Int) : matF (M ++ [r]) = matF M ++ [rowF r] := by simp [matF]
noncomputable def modelsM (x : Grid) (rs : List Rng) (l : List Flash) : List (List Int) := fits (allMo x rs l)
theorem allMo_len {x : Grid} {rs : List Rng} {l : List Flash} (K : FlashesOk x rs l) : (allMo x rs l).length ≤ 300 := by unfold allMo news; rw [List.length_map]; exact K.k.cnt
theorem allMo_bools {x : Grid} {rs : List Rng} {l : List Flash} {m : List Int × List Bool} (h : m ∈ allMo x rs l) : m.2.length = l.length := by
  unfold allMo news at h
  obtain ⟨ds, _, rfl⟩ := List.mem_map.1 h
  simp [mo, explains]
set_option maxRecDepth 100000 in
theorem ModelsOf_err (x : Grid) (rs : List Rng) (l : List Flash) (b : Small x rs l) (h : (checkFlashes x rs l).2 ≠ 0) : Summ Tryd.prog GG 28 [classF x rs, .sl l.length (flasF l)] (.tup [.v (.slice none 0 0), iv (checkFlashes x rs l).2]) := by
  have hb : (!decide ((checkFlashes x rs l).2 = 0)) = true := by simpa using h
  refine summW Tryd.func28 rfl rfl 37 rfl (by simp) (fun M0 => ?_)
  repeat (first
    | (apply s_move_f; exact rfl; exact rfl)
    | (apply s_assign_f; exact rfl; exact rfl)
    | (apply s_load_pts TY; exact rfl; exact rfl; exact rfl; (first | assumption | exact rfl); exact rfl)
    | (apply s_extract; exact rfl; exact rfl; exact rfl)
    | (apply s_box; exact rfl; exact rfl; exact rfl)
    | (apply s_neq; exact rfl; exact rfl; exact rfl)
    | apply w_seq
    | apply w_region
    | apply s_nil
    | apply t_norm
    | apply t_ret
    | apply w_ret
    | (apply s_call (openModels_err x rs l b h); exact rfl; exact rfl; exact rfl; exact rfl)
    | (apply w_condT; exact rfl; (first | exact rfl | assumption)))
  exact lv_ret (ret2 rfl (res_tmp rfl) (res_tmp rfl))
set_option maxRecDepth 100000 in
theorem ModelsOf_ok (x : Grid) (rs : List Rng) (l : List Flash) (b : Small x rs l) (h : (checkFlashes x rs l).2 = 0) : Summ Tryd.prog GG 28 [classF x rs, .sl l.length (flasF l)] (.tup [.sl (modelsM x rs l).length (matF (modelsM x rs l)), iv 0]) := by
  have K := flashesOk h
  have h300 := allMo_len K
  have hb : (!decide ((0 : Int) = 0)) = false := by simp
  refine summW Tryd.func28 rfl rfl 37 rfl (by simp) (fun M0 => ?_)
  repeat (first
    | (apply s_move_f; exact rfl; exact rfl)
    | (apply s_assign_f; exact rfl; exact rfl)
    | (apply s_load_pts TY; exact rfl; exact rfl; exact rfl; (first | assumption | exact rfl); exact rfl)
    | (apply s_len TY; exact rfl; exact rfl; exact rfl)
    | (apply s_extract; exact rfl; exact rfl; exact rfl)
    | (apply s_box; exact rfl; exact rfl; exact rfl)
    | (apply s_neq; exact rfl; exact rfl; exact rfl)
    | apply w_seq
    | apply w_region
    | apply s_nil
    | apply t_norm
    | apply w_block
    | apply w_skip
    | (apply s_call (openModels_ok x rs l b h); exact rfl; exact rfl; exact rfl; exact rfl)
    | (apply w_condF; exact rfl; (first | exact rfl | assumption)))
  apply w_gh (gh_own 8 23 1 rfl rfl)
  apply w_loop (fun k : Nat => ⟨(Ab.upd (Ab.upd (Ab.upd (Ab.upd (fun _ => .bot) 8 (.ow 0)) 20 (.f (.sl (allMo x rs l).length (modelsF (allMo x rs l))))) 21 (.f (iv (allMo x rs l).length))) 22 (.f (iv (k : Nat)))), (Ab.upd (fun _ => none) 0 (some (.row 23 1 (fits ((allMo x rs l).take k)).length (matF (fits ((allMo x rs l).take k)))))), 1⟩) (fun k => k ≤ (allMo x rs l).length) (fun k => (allMo x rs l).length - k) 0 (Nat.zero_le _) (gh_le ⟨le_upd rfl trivial (le_upd rfl trivial (le_upd rfl trivial (le_upd rfl rfl (le_nil _)))), le_hupd rfl trivial (le_h0 _ _)⟩)
  intro k hk
  have hfl := fits_len ((allMo x rs l).take k)
  rw [List.length_take] at hfl
  by_cases hkc : k < (allMo x rs l).length
  · have hc : decide ((k : Int) < ((allMo x rs l).length : Int)) = true := by simpa using hkc
    have hsub : ((modelsF (allMo x rs l)).drop (k * 2)).take 2 = modF (allMo x rs l)[k] := flat_sub (f := modF) (fun _ => rfl) hkc
    have hne : modelsF (allMo x rs l) ≠ [] := flat_ne (s := 2) (fun _ => rfl) (by decide) hkc
    have hbl := allMo_bools (List.getElem_mem hkc)
    have h8 := K.l8
    have hft := fits_take hkc
    cases hany : ((allMo x rs l)[k].2.any fun b => false == b)
    · have hn : (!((allMo x rs l)[k].2.any fun b => false == b)) = true := by rw [hany]; rfl
      rw [hany] at hft
      simp only [Bool.false_eq_true, if_false] at hft
      repeat (first
    | (apply s_append TY; exact rfl; exact rfl; exact rfl; exact rfl; exact rfl; exact rfl; exact rfl; exact rfl; exact rfl; (unfold maxLen; omega); omega)
    | (apply s_move_f; exact rfl; exact rfl)
    | (apply s_load_pts TY; exact rfl; exact rfl; exact rfl; (first | assumption | exact rfl); exact rfl)
    | (apply s_not; exact rfl; exact rfl)
    | (apply s_lss; exact rfl; exact rfl; exact rfl)
    | (apply s_move_o; exact rfl; exact rfl)
    | (apply s_assign_o; exact rfl; exact rfl)
    | (apply s_fld_bx TY; exact rfl; exact rfl; exact rfl)
    | (apply s_load_bx_f TY; exact rfl; exact rfl; exact rfl; exact rfl; exact rfl)
    | (apply s_bslice TY; exact rfl; exact rfl; exact rfl; exact rfl; exact rfl; exact rfl)
    | apply w_seq
    | apply w_region
    | apply s_nil
    | apply t_norm
    | apply k_norm
    | apply w_block
    | apply w_skip
    | (apply s_call (containsB_s (allMo x rs l)[k].2 false (by omega)); exact rfl; exact rfl; exact rfl; exact rfl)
    | (apply s_add; exact rfl; exact rfl; exact rfl; (omega))
    | (apply s_idxN TY; exact rfl; exact rfl; exact rfl; exact rfl; assumption; assumption)
    | (apply s_alloc TY; exact rfl; exact rfl; exact rfl)
    | (apply s_store TY; exact rfl; exact rfl; exact rfl; exact rfl; exact rfl; exact rfl)
    | (apply w_condT; exact rfl; (first | exact rfl | assumption)))
      exact ⟨k + 1, by omega, by omega, gh_le ⟨le_upd rfl trivial (le_upd rfl trivial (le_upd rfl trivial (le_upd rfl rfl (le_nil _)))), le_hupd (by rw [hft, matF_snoc, List.length_append]; rfl) trivial (le_h0 _ _)⟩⟩
    · have hn : (!((allMo x rs l)[k].2.any fun b => false == b)) = false := by rw [hany]; rfl
      rw [hany] at hft
      simp only [if_true, List.append_nil] at hft
      repeat (first
    | (apply s_move_f; exact rfl; exact rfl)
    | (apply s_load_pts TY; exact rfl; exact rfl; exact rfl; (first | assumption | exact rfl); exact rfl)
    | (apply s_not; exact rfl; exact rfl)
    | (apply s_lss; exact rfl; exact rfl; exact rfl)
    | (apply s_fld_bx TY; exact rfl; exact rfl; exact rfl)
    | (apply s_load_bx_f TY; exact rfl; exact rfl; exact rfl; exact rfl; exact rfl)
    | apply w_seq
    | apply w_region
    | apply s_nil
    | apply t_norm
    | apply k_norm
    | apply w_block
    | apply w_skip
    | (apply s_call (containsB_s (allMo x rs l)[k].2 false (by omega)); exact rfl; exact rfl; exact rfl; exact rfl)
    | (apply s_add; exact rfl; exact rfl; exact rfl; (omega))
    | (apply s_idxN TY; exact rfl; exact rfl; exact rfl; exact rfl; assumption; assumption)
    | (apply s_alloc TY; exact rfl; exact rfl; exact rfl)
    | (apply s_store TY; exact rfl; exact rfl; exact rfl; exact rfl; exact rfl; exact rfl)
    | (apply w_condT; exact rfl; (first | exact rfl | assumption))
    | (apply w_condF; exact rfl; (first | exact rfl | assumption)))
      exact ⟨k + 1, by omega, by omega, gh_le ⟨le_upd rfl trivial (le_upd rfl trivial (le_upd rfl trivial (le_upd rfl rfl (le_nil _)))), le_hupd (by rw [hft]; rfl) trivial (le_h0 _ _)⟩⟩
  · have hc : decide ((k : Int) < ((allMo x rs l).length : Int)) = false := by simpa using hkc
    have hke : k = (allMo x rs l).length := by omega
    subst hke
    rw [List.take_length]
    repeat (first
    | (apply s_assign_f; exact rfl; exact rfl)
    | (apply s_lss; exact rfl; exact rfl; exact rfl)
    | (apply s_move_o; exact rfl; exact rfl)
    | (apply s_assign_o; exact rfl; exact rfl)
    | apply w_seq
    | apply w_region
    | apply s_nil
    | apply t_norm
    | apply t_exit
    | apply k_hit
    | apply w_exit
    | apply w_ret
    | (apply w_condF; exact rfl; (first | exact rfl | assumption)))
    exact lv_ret (ret_gh (gh_row 0 rfl) (ret2 rfl (res_tmp rfl) (res_tmp rfl)))
end Go.Proofs.YtienhiloecfgnaaDoor
namespace Go.Proofs.YtienhiloecfgnaaDoor
open Go Go.RowKit Go.Proofs Go.Shelf Go.Ab
theorem assigns_rows : ∀ (rs : List Rng) (pre ds : List Int), ds ∈ assigns rs pre → ds.length = pre.length + rs.length
  | [], pre, ds, h => by simp [assigns] at h; subst h; simp
  | r :: rs, pre, ds, h => by
    simp only [assigns, List.mem_flatMap] at h
    obtain ⟨n, _, h⟩ := h
    have := assigns_rows rs _ ds h
    simp at this ⊢; omega
theorem assigns_bd : ∀ (rs : List Rng) (pre ds : List Int), (∀ r ∈ rs, 1 ≤ r.lo ∧ r.lo ≤ r.hi ∧ r.hi ≤ 1000) → (∀ n ∈ pre, 1 ≤ n ∧ n ≤ 1000) → ds ∈ assigns rs pre → ∀ n ∈ ds, 1 ≤ n ∧ n ≤ 1000
  | [], pre, ds, _, hp, h => by simp [assigns] at h; subst h; exact hp
  | r :: rs, pre, ds, hr, hp, h => by
    simp only [assigns, List.mem_flatMap] at h
    obtain ⟨n, hn, h⟩ := h
    refine assigns_bd rs _ ds (fun r hm => hr r (by simp [hm])) (fun k hk => ?_) h
    rcases List.mem_append.1 hk with h1 | h1
    · exact hp k h1
    · simp at h1; subst h1
      simp only [upTo, List.mem_map, List.mem_range] at hn
      obtain ⟨j, hj, rfl⟩ := hn
      have := hr r (by simp)
      omega
theorem fits_mem {ms : List (List Int × List Bool)} {r : List Int} (h : r ∈ fits ms) : ∃ m ∈ ms, m.1 = r := by
  unfold fits at h
  obtain ⟨m, hm, rfl⟩ := List.mem_map.1 h
  exact ⟨m, (List.mem_filter.1 hm).1, rfl⟩
theorem modelsM_rows {x : Grid} {rs : List Rng} {l : List Flash} {r : List Int} (h : r ∈ modelsM x rs l) : r.length = rs.length := by
  obtain ⟨m, hm, rfl⟩ := fits_mem h
  unfold allMo news at hm
  obtain ⟨ds, hd, rfl⟩ := List.mem_map.1 hm
  have := assigns_rows rs [] ds hd
  simpa [mo] using this
theorem modelsM_bd {x : Grid} {rs : List Rng} {l : List Flash} (K : ClassOk x rs) {r : List Int} (h : r ∈ modelsM x rs l) : ∀ n ∈ r, 1 ≤ n ∧ n ≤ 1000 := by
  obtain ⟨m, hm, rfl⟩ := fits_mem h
  unfold allMo news at hm
  obtain ⟨ds, hd, rfl⟩ := List.mem_map.1 hm
  exact assigns_bd rs [] ds K.rng (by simp) hd
def atI (M : List (List Int)) (k i : Nat) : Int := (M.getD k []).getD i 0
def loK (M : List (List Int)) (i : Nat) : Nat → Int
  | 0 => atI M 0 i
  | k + 1 => min (loK M i k) (atI M k i)
def hiK (M : List (List Int)) (i : Nat) : Nat → Int
  | 0 => atI M 0 i
  | k + 1 => max (hiK M i k) (atI M k i)
def rangesR (M : List (List Int)) (n : Nat) : List Rng := (List.range n).map fun i => ⟨loK M i M.length, hiK M i M.length⟩
theorem rangesR_succ (M : List (List Int)) (n : Nat) : rangesR M (n + 1) = rangesR M n ++ [⟨loK M n M.length, hiK M n M.length⟩] := by simp [rangesR, List.range_succ]
theorem rangesR_len (M : List (List Int)) (n : Nat) : (rangesR M n).length = n := by simp [rangesR]
theorem rngsF_snoc (l : List Rng) (r : Rng) : rngsF (l ++ [r]) = rngsF l ++ rngF r := by simp [rngsF]
theorem matF_at {M : List (List Int)} {k : Nat} (hk : k < M.length) : (matF M)[k * 1]? = some (rowF M[k]) := map_at hk
theorem atI_eq {M : List (List Int)} {k i : Nat} (hk : k < M.length) (hi : i < M[k].length) : atI M k i = M[k][i] := by
  unfold atI
  simp only [List.getD_eq_getElem?_getD, List.getElem?_eq_getElem hk, Option.getD_some, List.getElem?_eq_getElem hi]
set_option maxRecDepth 100000 in
theorem RangesOf_err (x : Grid) (rs : List Rng) (l : List Flash) (b : Small x rs l) (h : (checkFlashes x rs l).2 ≠ 0) : Summ Tryd.prog GG 69 [classF x rs, .sl l.length (flasF l)] (.tup [.v (.slice none 0 0), iv (checkFlashes x rs l).2]) := by
  have hf : firstE [(checkFlashes x rs l).2, unlessE (decide ((0 : Int) < 0)) 12] = (checkFlashes x rs l).2 := by rw [firstE, if_neg h]
  have hb : (!decide (firstE [(checkFlashes x rs l).2, unlessE (decide ((0 : Int) < 0)) 12] = 0)) = true := by rw [hf]; simpa using h
  refine summW Tryd.func69 rfl rfl 76 rfl (by simp) (fun M0 => ?_)
  repeat (first
    | (apply s_move_f; exact rfl; exact rfl)
    | (apply s_assign_f; exact rfl; exact rfl)
    | (apply s_load_pts TY; exact rfl; exact rfl; exact rfl; (first | assumption | exact rfl); exact rfl)
    | (apply s_extract; exact rfl; exact rfl; exact rfl)
    | (apply s_box; exact rfl; exact rfl; exact rfl)
    | (apply s_gtr; exact rfl; exact rfl; exact rfl)
    | (apply s_neq; exact rfl; exact rfl; exact rfl)
    | (apply s_len_nil TY; exact rfl; exact rfl; exact rfl)
    | (apply s_bslice TY; exact rfl; exact rfl; exact rfl; exact rfl; exact rfl; exact rfl)
    | apply w_seq
    | apply w_region
    | apply s_nil
    | apply t_norm
    | apply t_ret
    | apply w_ret
    | (apply s_call (ModelsOf_err x rs l b h); exact rfl; exact rfl; exact rfl; exact rfl)
    | (apply s_call (unless_s _ _); exact rfl; exact rfl; exact rfl; exact rfl)
    | (apply s_call (first_s [(checkFlashes x rs l).2, unlessE (decide ((0 : Int) < 0)) 12] (by simp)); exact rfl; exact rfl; exact rfl; exact rfl)
    | (apply w_condT; exact rfl; (first | exact rfl | assumption)))
  exact lv_ret (ret2 rfl (res_tmp rfl) (res_tmp (congrArg (fun z => AV.f (iv z)) hf)))
set_option maxRecDepth 100000 in
theorem RangesOf_none (x : Grid) (rs : List Rng) (l : List Flash) (b : Small x rs l) (h : (checkFlashes x rs l).2 = 0) (hm : (modelsM x rs l).length = 0) : Summ Tryd.prog GG 69 [classF x rs, .sl l.length (flasF l)] (.tup [.v (.slice none 0 0), iv 12]) := by
  have hf : firstE [0, unlessE (decide ((0 : Int) < ((modelsM x rs l).length : Int))) 12] = 12 := by rw [hm]; rfl
  have hb : (!decide (firstE [0, unlessE (decide ((0 : Int) < ((modelsM x rs l).length : Int))) 12] = 0)) = true := by rw [hf]; decide
  refine summW Tryd.func69 rfl rfl 76 rfl (by simp) (fun M0 => ?_)
  repeat (first
    | (apply s_move_f; exact rfl; exact rfl)
    | (apply s_assign_f; exact rfl; exact rfl)
    | (apply s_load_pts TY; exact rfl; exact rfl; exact rfl; (first | assumption | exact rfl); exact rfl)
    | (apply s_len TY; exact rfl; exact rfl; exact rfl)
    | (apply s_extract; exact rfl; exact rfl; exact rfl)
    | (apply s_box; exact rfl; exact rfl; exact rfl)
    | (apply s_gtr; exact rfl; exact rfl; exact rfl)
    | (apply s_neq; exact rfl; exact rfl; exact rfl)
    | (apply s_bslice TY; exact rfl; exact rfl; exact rfl; exact rfl; exact rfl; exact rfl)
    | apply w_seq
    | apply w_region
    | apply s_nil
    | apply t_norm
    | apply t_ret
    | apply w_ret
    | (apply s_call (ModelsOf_ok x rs l b h); exact rfl; exact rfl; exact rfl; exact rfl)
    | (apply s_call (unless_s _ _); exact rfl; exact rfl; exact rfl; exact rfl)
    | (apply s_call (first_s [0, unlessE (decide ((0 : Int) < ((modelsM x rs l).length : Int))) 12] (by simp)); exact rfl; exact rfl; exact rfl; exact rfl)
    | (apply w_condT; exact rfl; (first | exact rfl | assumption)))
  exact lv_ret (ret2 rfl (res_tmp rfl) (res_tmp (congrArg (fun z => AV.f (iv z)) hf)))
set_option maxRecDepth 100000 in
set_option maxHeartbeats 1000000 in
theorem RangesOf_ok (x : Grid) (rs : List Rng) (l : List Flash) (b : Small x rs l) (h : (checkFlashes x rs l).2 = 0) (hm : 0 < (modelsM x rs l).length) : Summ Tryd.prog GG 69 [classF x rs, .sl l.length (flasF l)] (.tup [.sl (rangesR (modelsM x rs l) rs.length).length (rngsF (rangesR (modelsM x rs l) rs.length)), iv 0]) := by
  have K := flashesOk h
  have h6 := K.k.v.l6
  have hrl := K.k.len
  have h300 : (modelsM x rs l).length ≤ 300 := Nat.le_trans (fits_len _) (allMo_len K)
  have hu : unlessE (decide ((0 : Int) < ((modelsM x rs l).length : Int))) 12 = 0 := by unfold unlessE; rw [if_pos (by simpa using hm)]
  have hf : firstE [0, unlessE (decide ((0 : Int) < ((modelsM x rs l).length : Int))) 12] = 0 := by rw [hu]; rfl
  have hb : (!decide (firstE [0, unlessE (decide ((0 : Int) < ((modelsM x rs l).length : Int))) 12] = 0)) = false := by rw [hf]; rfl
  have hne : matF (modelsM x rs l) ≠ [] := map_ne hm
  have hm0 : (matF (modelsM x rs l))[0]? = some (rowF (modelsM x rs l)[0]) := by have := matF_at hm; simpa using this
  have hl0 : (modelsM x rs l)[0].length = rs.length := modelsM_rows (List.getElem_mem hm)
  refine summW Tryd.func69 rfl rfl 76 rfl (by simp) (fun M0 => ?_)
  repeat (first
    | (apply s_move_f; exact rfl; exact rfl)
    | (apply s_assign_f; exact rfl; exact rfl)
    | (apply s_fld_pt TY; exact rfl; exact rfl; exact rfl)
    | (apply s_load_pt TY; exact rfl; exact rfl; exact rfl; (first | exact rfl | assumption))
    | (apply s_load_pts TY; exact rfl; exact rfl; exact rfl; (first | assumption | exact rfl); exact rfl)
    | (apply s_len TY; exact rfl; exact rfl; exact rfl)
    | (apply s_extract; exact rfl; exact rfl; exact rfl)
    | (apply s_box; exact rfl; exact rfl; exact rfl)
    | (apply s_gtr; exact rfl; exact rfl; exact rfl)
    | (apply s_neq; exact rfl; exact rfl; exact rfl)
    | (apply s_bslice TY; exact rfl; exact rfl; exact rfl; exact rfl; exact rfl; exact rfl)
    | apply w_seq
    | apply w_region
    | apply s_nil
    | apply t_norm
    | apply w_block
    | apply w_skip
    | (apply s_call (ModelsOf_ok x rs l b h); exact rfl; exact rfl; exact rfl; exact rfl)
    | (apply s_call (unless_s _ _); exact rfl; exact rfl; exact rfl; exact rfl)
    | (apply s_call (first_s [0, unlessE (decide ((0 : Int) < ((modelsM x rs l).length : Int))) 12] (by simp)); exact rfl; exact rfl; exact rfl; exact rfl)
    | (apply w_condF; exact rfl; (first | exact rfl | assumption)))
  apply w_gh (gh_own 8 101 2 rfl rfl)
  apply w_loop (fun i : Nat => ⟨(Ab.upd (Ab.upd (Ab.upd (Ab.upd (fun _ => .bot) 6 (.f (.sl (modelsM x rs l).length (matF (modelsM x rs l))))) 8 (.ow 0)) 31 (.f (iv rs.length))) 32 (.f (iv (i : Nat)))), (Ab.upd (fun _ => none) 0 (some (.row 101 2 i (rngsF (rangesR (modelsM x rs l) i))))), 1⟩) (fun i => i ≤ rs.length) (fun i => rs.length - i) 0 (Nat.zero_le _) (gh_le ⟨le_upd rfl trivial (le_upd rfl trivial (le_upd rfl rfl (le_upd rfl trivial (le_nil _)))), le_hupd rfl trivial (le_h0 _ _)⟩)
  intro i hi
  by_cases hic : i < rs.length
  · have hc : decide ((i : Int) < (rs.length : Int)) = true := by simpa using hic
    have hi0 : i < (modelsM x rs l)[0].length := by omega
    have hc0 : (intsF (modelsM x rs l)[0])[i * 1]? = some (iv (modelsM x rs l)[0][i]) := map_at hi0
    have hne0 : intsF (modelsM x rs l)[0] ≠ [] := map_ne hi0
    have ha0 := atI_eq hm hi0
    repeat (first
    | (apply s_move_f; exact rfl; exact rfl)
    | (apply s_assign_f; exact rfl; exact rfl)
    | (apply s_lss; exact rfl; exact rfl; exact rfl)
    | apply w_seq
    | apply w_region
    | apply s_nil
    | apply t_norm
    | apply w_block
    | apply w_skip
    | (apply w_condT; exact rfl; (first | exact rfl | assumption)))
    apply w_draw 14 rfl (by kernel_rfl)
    repeat (first
    | (apply s_move_f; exact rfl; exact rfl)
    | (apply s_load_pt TY; exact rfl; exact rfl; exact rfl; (first | exact rfl | assumption))
    | (apply s_len TY; exact rfl; exact rfl; exact rfl)
    | (apply s_build TY; exact rfl; exact rfl; exact rfl; exact rfl; exact rfl)
    | apply w_seq
    | apply w_region
    | apply s_nil
    | apply t_norm
    | apply w_block
    | (apply s_idxN TY; exact rfl; exact rfl; exact rfl; exact rfl; assumption; assumption)
    | (apply s_alloc TY; exact rfl; exact rfl; exact rfl)
    | (apply s_store TY; exact rfl; exact rfl; exact rfl; exact rfl; exact rfl; exact rfl))
    apply w_loop (fun k : Nat => ⟨(Ab.upd (Ab.upd (Ab.upd (Ab.upd (Ab.upd (Ab.upd (Ab.upd (Ab.upd (Ab.upd (fun _ => .bot) 6 (.f (.sl (modelsM x rs l).length (matF (modelsM x rs l))))) 8 (.ow 0)) 9 (.f (iv (i : Nat)))) 10 (.bx 1 0)) 31 (.f (iv rs.length))) 32 (.f (iv (i : Nat)))) 48 (.f (.sl (modelsM x rs l).length (matF (modelsM x rs l))))) 49 (.f (iv (modelsM x rs l).length))) 50 (.f (iv (k : Nat)))), (Ab.upd (Ab.upd (fun _ => none) 0 (some (.row 101 2 i (rngsF (rangesR (modelsM x rs l) i))))) 1 (some (.box [.f (iv (loK (modelsM x rs l) i k)), .f (iv (hiK (modelsM x rs l) i k))]))), 2⟩) (fun k => k ≤ (modelsM x rs l).length) (fun k => (modelsM x rs l).length - k) 0 (Nat.zero_le _) (gh_le ⟨le_upd rfl trivial (le_upd rfl trivial (le_upd rfl trivial (le_upd rfl trivial (le_upd rfl trivial (le_upd rfl rfl (le_upd rfl trivial (le_upd rfl rfl (le_upd rfl trivial (le_nil _))))))))), le_hupd (by rw [loK, hiK, ha0]; rfl) (fun y hy => by simp at hy; rcases hy with rfl | rfl <;> first | trivial | rfl) (le_hupd rfl trivial (le_h0 _ _))⟩)
    intro k hk
    by_cases hkc : k < (modelsM x rs l).length
    · have hck : decide ((k : Int) < ((modelsM x rs l).length : Int)) = true := by simpa using hkc
      have hlk : (modelsM x rs l)[k].length = rs.length := modelsM_rows (List.getElem_mem hkc)
      have hik : i < (modelsM x rs l)[k].length := by omega
      have hr : (matF (modelsM x rs l))[k * 1]? = some (rowF (modelsM x rs l)[k]) := matF_at hkc
      have hci : (intsF (modelsM x rs l)[k])[i * 1]? = some (iv (modelsM x rs l)[k][i]) := map_at hik
      have hnek : intsF (modelsM x rs l)[k] ≠ [] := map_ne hik
      have hak := atI_eq hkc hik
      repeat (first
    | (apply s_assign_f; exact rfl; exact rfl)
    | (apply s_load_pt TY; exact rfl; exact rfl; exact rfl; (first | exact rfl | assumption))
    | (apply s_lss; exact rfl; exact rfl; exact rfl)
    | apply w_seq
    | apply w_region
    | apply s_nil
    | apply t_norm
    | apply w_block
    | apply w_skip
    | (apply s_idxN TY; exact rfl; exact rfl; exact rfl; exact rfl; assumption; assumption)
    | (apply w_condT; exact rfl; (first | exact rfl | assumption)))
      apply w_draw 15 rfl (by kernel_rfl)
      repeat (first
    | (apply s_move_f; exact rfl; exact rfl)
    | (apply s_load_pt TY; exact rfl; exact rfl; exact rfl; (first | exact rfl | assumption))
    | (apply s_fld_bx TY; exact rfl; exact rfl; exact rfl)
    | (apply s_load_bx_f TY; exact rfl; exact rfl; exact rfl; exact rfl; exact rfl)
    | (apply s_min; exact rfl; exact rfl; exact rfl)
    | (apply s_max; exact rfl; exact rfl; exact rfl)
    | (apply s_build TY; exact rfl; exact rfl; exact rfl; exact rfl; exact rfl)
    | apply w_region
    | apply s_nil
    | apply t_norm
    | apply k_norm
    | (apply s_add; exact rfl; exact rfl; exact rfl; (omega))
    | (apply s_idxN TY; exact rfl; exact rfl; exact rfl; exact rfl; assumption; assumption)
    | (apply s_store TY; exact rfl; exact rfl; exact rfl; exact rfl; exact rfl; exact rfl))
      exact ⟨k + 1, by omega, by omega, gh_le ⟨le_upd rfl trivial (le_upd rfl trivial (le_upd rfl trivial (le_upd rfl trivial (le_upd rfl trivial (le_upd rfl rfl (le_upd rfl trivial (le_upd rfl rfl (le_upd rfl trivial (le_nil _))))))))), le_hupd (by rw [loK, hiK, hak]; rfl) (fun y hy => by simp at hy; rcases hy with rfl | rfl <;> first | trivial | rfl) (le_hupd rfl trivial (le_h0 _ _))⟩⟩
    · have hck : decide ((k : Int) < ((modelsM x rs l).length : Int)) = false := by simpa using hkc
      have hke : k = (modelsM x rs l).length := by omega
      subst hke
      repeat (first
    | (apply s_append TY; exact rfl; exact rfl; exact rfl; exact rfl; exact rfl; exact rfl; exact rfl; exact rfl; exact rfl; (unfold maxLen; omega); omega)
    | (apply s_move_f; exact rfl; exact rfl)
    | (apply s_lss; exact rfl; exact rfl; exact rfl)
    | (apply s_move_o; exact rfl; exact rfl)
    | (apply s_assign_o; exact rfl; exact rfl)
    | (apply s_load_bxs TY; exact rfl; exact rfl; exact rfl; exact rfl; exact rfl; exact rfl)
    | (apply s_bslice TY; exact rfl; exact rfl; exact rfl; exact rfl; exact rfl; exact rfl)
    | apply w_seq
    | apply w_region
    | apply s_nil
    | apply t_norm
    | apply t_exit
    | apply k_hit
    | apply k_norm
    | apply w_exit
    | (apply s_add; exact rfl; exact rfl; exact rfl; (omega))
    | (apply w_condF; exact rfl; (first | exact rfl | assumption)))
      exact ⟨i + 1, by omega, by omega, gh_le ⟨le_upd rfl trivial (le_upd rfl trivial (le_upd rfl rfl (le_upd rfl trivial (le_nil _)))), le_hupd (by rw [rangesR_succ, rngsF_snoc]; rfl) trivial (le_h0 _ _)⟩⟩
  · have hc : decide ((i : Int) < (rs.length : Int)) = false := by simpa using hic
    have hie : i = rs.length := by omega
    subst hie
    repeat (first
    | (apply s_assign_f; exact rfl; exact rfl)
    | (apply s_lss; exact rfl; exact rfl; exact rfl)
    | (apply s_move_o; exact rfl; exact rfl)
    | (apply s_assign_o; exact rfl; exact rfl)
    | apply w_seq
    | apply w_region
    | apply s_nil
    | apply t_norm
    | apply t_exit
    | apply k_hit
    | apply w_exit
    | apply w_ret
    | (apply w_condF; exact rfl; (first | exact rfl | assumption)))
    rw [rangesR_len]
    exact lv_ret (ret_gh (gh_row 0 rfl) (ret2 rfl (res_tmp rfl) (res_tmp rfl)))
end Go.Proofs.YtienhiloecfgnaaDoor
namespace Go.Proofs.YtienhiloecfgnaaDoor
open Go.RowKit Go.Proofs Go.Shelf
def grid0 : Grid := ⟨[⟨2, 100, 500⟩, ⟨5, 0, 0⟩], 2, [0, 0, 1]⟩
theorem row_at {W : World} {b : Nat} {cs : List Value} (hb : b < W.heap.size) (h : ∀ k, k < cs.length → W.cell? ⟨b, k, none⟩ = cs[k]?) : Row W (some ⟨b, 0, none⟩) cs :=
  ⟨fun _ => ⟨b, 0, rfl, hb, fun k hk => by rw [Nat.zero_add]; exact h k hk⟩⟩
theorem ext_cell {W W' : World} (h : Ext W W') {b o : Nat} {v : Option Value} (hb : b < W.heap.size) (hc : W.cell? ⟨b, o, none⟩ = v) : W'.cell? ⟨b, o, none⟩ = v := (h.cell hb).trans hc
set_option maxRecDepth 100000 in
theorem Grid_any (w : World) : Calls Tryd.prog 79 #[] w fun e w' => ∃ la ta, e = .returned (.agg #[.slice la 2 2, .int .i64 2, .slice ta 3 3]) ∧ GridAt w' la ta grid0 ∧ Ext w w' ∧ (∀ ad, la = some ad → w.heap.size ≤ ad.block) ∧ (∀ ad, ta = some ad → w.heap.size ≤ ad.block) := by
  go_enter Tryd.func79, Tryd.ntmps79
  go_wp2_with fail
  refine bodyPost_ret (v := .agg #[.slice (some ⟨w.heap.size + 1, 0, none⟩) 2 2, .int .i64 2, .slice (some ⟨w.heap.size + 1 + 1, 0, none⟩) 3 3]) (by simp [results, Tryd.results79, go_sem]) rfl ?_
  refine ⟨_, _, rfl, ⟨row_at (by simp) (fun k hk => ?_), row_at (by simp) (fun k hk => ?_), by decide, by decide⟩, ((Ext.alloc _ _).toAlloc _).toAlloc _, fun ad h => by cases h; simp, fun ad h => by cases h; simp; omega⟩
  · have hk6 : k < 6 := by simpa [grid0, Layer.enc] using hk
    refine ext_cell (Ext.alloc _ _) (by simp) ((World.cell_at (by simp)).trans ?_)
    obtain rfl | rfl | rfl | rfl | rfl | rfl : k = 0 ∨ k = 1 ∨ k = 2 ∨ k = 3 ∨ k = 4 ∨ k = 5 := by omega
    all_goals rfl
  · have hk3 : k < 3 := by simpa [grid0, encI] using hk
    refine (World.cell_at (by simp)).trans ?_
    obtain rfl | rfl | rfl : k = 0 ∨ k = 1 ∨ k = 2 := by omega
    all_goals rfl
theorem row_setCell {W : World} {a : Option Addr} {cs : List Value} (h : Row W a cs) (b o : Nat) (v : Value) (hne : ∀ ad, a = some ad → ad.block ≠ b) : Row (W.setCell ⟨b, o, none⟩ v) a cs :=
  ⟨fun hn => by
    obtain ⟨b1, off, e1, hb, hc⟩ := h.at_ hn
    have h1 : b1 ≠ b := hne _ e1
    exact ⟨b1, off, e1, by simpa using hb, fun k hk => by
      have := hc k hk
      rw [List.getElem?_eq_getElem hk] at this ⊢
      exact World.cell_other this h1⟩⟩
theorem grid_setCell {W : World} {la ta : Option Addr} {x : Grid} (h : GridAt W la ta x) (b o : Nat) (v : Value) (h1 : ∀ ad, la = some ad → ad.block ≠ b) (h2 : ∀ ad, ta = some ad → ad.block ≠ b) : GridAt (W.setCell ⟨b, o, none⟩ v) la ta x :=
  ⟨row_setCell h.layers b o v h1, row_setCell h.tilt b o v h2, h.nl, h.nt⟩
def rngs0 : List Rng := [⟨1, 3⟩, ⟨5, 5⟩]
set_option maxRecDepth 100000 in
theorem Class_any (w : World) : Calls Tryd.prog 80 #[] w fun e w' => ∃ la ta ra, e = .returned (.agg #[.slice la 2 2, .int .i64 2, .slice ta 3 3, .slice ra 2 2]) ∧ GridAt w' la ta grid0 ∧ RowS Rng.enc w' ra rngs0 ∧ Ext w w' := by
  go_enter Tryd.func80, Tryd.ntmps80
  go_wp2_with fail
  refine (Grid_any _).mono ?_
  rintro e w1 ⟨la, ta, rfl, hg, hx, hla, hta⟩
  have c0 : w1.cell? ⟨w.heap.size, 0, none⟩ = some (.slice none 0 0) := hx.cell_of ((World.cell_at rfl).trans rfl)
  have c1 : w1.cell? ⟨w.heap.size, 1, none⟩ = some (.int .i64 0) := hx.cell_of ((World.cell_at rfl).trans rfl)
  have c2 : w1.cell? ⟨w.heap.size, 2, none⟩ = some (.slice none 0 0) := hx.cell_of ((World.cell_at rfl).trans rfl)
  have c3 : w1.cell? ⟨w.heap.size, 3, none⟩ = some (.slice none 0 0) := hx.cell_of ((World.cell_at rfl).trans rfl)
  have f0 : w1.frozen? ⟨w.heap.size, 0, none⟩ = false := hx.frozen_of (by simp) (World.frozen_at rfl)
  have f1 : w1.frozen? ⟨w.heap.size, 1, none⟩ = false := hx.frozen_of (by simp) (World.frozen_at rfl)
  have f2 : w1.frozen? ⟨w.heap.size, 2, none⟩ = false := hx.frozen_of (by simp) (World.frozen_at rfl)
  have f3 : w1.frozen? ⟨w.heap.size, 3, none⟩ = false := hx.frozen_of (by simp) (World.frozen_at rfl)
  have q := cell_lt c0
  have HG := Lib.hid hg
  have HX := Lib.hid ((Ext.alloc w _).trans hx)
  clear hg hx
  have n1 : ∀ ad, la = some ad → ad.block ≠ w.heap.size := fun ad h => by have := hla ad h; simp at this; omega
  have n2 : ∀ ad, ta = some ad → ad.block ≠ w.heap.size := fun ad h => by have := hta ad h; simp at this; omega
  go_wp2_with fail
  refine bodyPost_ret (v := .agg #[.slice la 2 2, .int .i64 2, .slice ta 3 3, .slice (some ⟨w1.heap.size, 0, none⟩) 2 2]) (by simp [results, Tryd.results80, go_sem, c0, c1, c2, c3, q]) rfl ?_
  refine ⟨la, ta, _, rfl, GridAt.ext (grid_setCell (grid_setCell (grid_setCell (grid_setCell HG.out _ _ _ n1 n2) _ _ _ n1 n2) _ _ _ n1 n2) _ _ _ n1 n2) (Ext.alloc _ _), row_at (by simp) (fun k hk => ?_), ((((HX.out.setCell (Nat.le_refl _) _).setCell (Nat.le_refl _) _).setCell (Nat.le_refl _) _).setCell (Nat.le_refl _) _).toAlloc _⟩
  have hk4 : k < 4 := by simpa [rngs0, Rng.enc] using hk
  refine (World.cell_at (by simp)).trans ?_
  obtain rfl | rfl | rfl | rfl : k = 0 ∨ k = 1 ∨ k = 2 ∨ k = 3 := by omega
  all_goals rfl
def hole0 : Hole := ⟨[20, 16, 16], [1, 1, 2], 10⟩
set_option maxRecDepth 100000 in
theorem Hole_any (w : World) : Calls Tryd.prog 81 #[] w fun e w' => ∃ wa sa, e = .returned (.agg #[.slice wa 3 3, .slice sa 3 3, .int .i64 10]) ∧ HoleAt w' wa sa hole0 ∧ Ext w w' := by
  go_enter Tryd.func81, Tryd.ntmps81
  go_wp2_with fail
  refine bodyPost_ret (v := .agg #[.slice (some ⟨w.heap.size + 1, 0, none⟩) 3 3, .slice (some ⟨w.heap.size + 1 + 1, 0, none⟩) 3 3, .int .i64 10]) (by simp [results, Tryd.results81, go_sem]) rfl ?_
  refine ⟨_, _, rfl, ⟨row_at (by simp) (fun k hk => ?_), row_at (by simp) (fun k hk => ?_), by decide, by decide⟩, ((Ext.alloc _ _).toAlloc _).toAlloc _⟩
  · have hk3 : k < 3 := by simpa [hole0, encI] using hk
    refine ext_cell (Ext.alloc _ _) (by simp) ((World.cell_at (by simp)).trans ?_)
    obtain rfl | rfl | rfl : k = 0 ∨ k = 1 ∨ k = 2 := by omega
    all_goals rfl
  · have hk3 : k < 3 := by simpa [hole0, encI] using hk
    refine (World.cell_at (by simp)).trans ?_
    obtain rfl | rfl | rfl : k = 0 ∨ k = 1 ∨ k = 2 := by omega
    all_goals rfl
end Go.Proofs.YtienhiloecfgnaaDoor
namespace Go.Proofs.YtienhiloecfgnaaDoor
open Go.RowKit Go.Proofs Go.Shelf
attribute [local go_sem ↓] eql_cel neq_cel
theorem stood101 : Tryd.prog.stoodInHeld 101 = false := by kernel_rfl
theorem fields101 : Tryd.prog.fieldsOf 101 = #[{ name := "Lo", type := 3, offset := 0, embedded := false, tag := "", pkgPath := "", byteOffset := 0 }, { name := "Hi", type := 3, offset := 1, embedded := false, tag := "", pkgPath := "", byteOffset := 8 }] := by kernel_rfl
theorem equalIn_rng (d : Nat) (a b : Rng) (W : World) : (Op.equalIn (d + 2) 101 (.agg #[.int .i64 a.lo, .int .i64 a.hi]) (.agg #[.int .i64 b.lo, .int .i64 b.hi])).run Tryd.prog W = .ok (decide (a = b)) W := by
  rw [run_equalIn_agg W (d + 1) 101 _ _ (by rw [fields101]; exact Tryd.underlying101) stood101, fields101]
  have e : decide (a = b) = (a.lo == b.lo && a.hi == b.hi) := by
    cases a; cases b; simp [Rng.mk.injEq]; rfl
  rw [e]
  cases h1 : a.lo == b.lo <;> cases h2 : a.hi == b.hi <;> simp [Op.eqFields, part, run_equalIn_int W d 3 _ _ _ _ Tryd.underlying3, h1, h2]
theorem neq_rng (a b : Rng) (W : World) : (binOp .neq 101 (.agg #[.int .i64 a.lo, .int .i64 a.hi]) (.agg #[.int .i64 b.lo, .int .i64 b.hi])).run Tryd.prog W = .ok (.bool (!decide (a = b))) W := by
  rw [run_neq_struct, equalIn_rng 9998 a b W]
  rfl
attribute [local go_sem ↓] neq_rng
theorem list_eq_of {α : Type} {l m : List α} (hl : l.length = m.length) (h : ∀ j (h1 : j < l.length) (h2 : j < m.length), l[j] = m[j]) : l = m := List.ext_getElem hl h
set_option maxRecDepth 100000 in
theorem Ints_any (a a' : Option Addr) (l m : List Int) (c c' : Nat) (w : World) (hl : RowS encI w a l) (hm : RowS encI w a' m) (hn : l.length ≤ 140737488355328) :
    Calls Tryd.prog 22 #[.slice a l.length c, .slice a' m.length c'] w fun e w' => e = .returned (.bool (decide (l = m))) ∧ Ext w w' := by
  have HL := Lib.hid hl
  have HM := Lib.hid hm
  clear hl hm
  go_enter Tryd.func22, Tryd.ntmps22
  by_cases hlen : ((l.length : Int) != (m.length : Int)) = true
  · go_wp2_with fail
    go_ret
    exact ⟨ret_bool (by symm; simp only [decide_eq_false_iff_not]; intro e; subst e; simp at hlen), Ext.refl _⟩
  have hle : l.length = m.length := by
    have : (l.length : Int) = m.length := by simpa using hlen
    omega
  replace hlen : ((l.length : Int) != (m.length : Int)) = false := by simpa using hlen
  have HLE := Lib.hid hle
  clear hle
  go_wp2_with fail
  go_loopw [5] (fun i wr => ∃ k : Nat, k ≤ l.length ∧ i = .int .i64 k ∧ Hid (Ext w wr) ∧ Hid (∀ j (h1 : j < l.length) (h2 : j < m.length), j < k → l[j] = m[j])) (fun i _ => l.length - (intOf i).toNat)
  case atStart => exact ⟨0, Nat.zero_le _, rfl, Lib.hid (Ext.refl _), Lib.hid (fun _ _ _ h => absurd h (Nat.not_lt_zero _))⟩
  case round =>
  obtain ⟨k, hk, rfl, Hx, Hf⟩ := hrel
  by_cases hlt : k < l.length
  · have hlt2 : k < m.length := by rw [← HLE.out]; exact hlt
    obtain ⟨b1, o1, rfl, q1, hc⟩ := (HL.out.ext Hx.out).get encI_length (by decide) hlt
    obtain ⟨b2, o2, rfl, q2, hd⟩ := (HM.out.ext Hx.out).get encI_length (by decide) hlt2
    have c0 : wr.cell? ⟨b1, o1 + k, none⟩ = some (.int .i64 l[k]) := by have := hc k 0 hlt (by decide); rwa [Nat.mul_one] at this
    have d0 : wr.cell? ⟨b2, o2 + k, none⟩ = some (.int .i64 m[k]) := by have := hd k 0 hlt2 (by decide); rwa [Nat.mul_one] at this
    clear hc hd
    go_wp2_with fail
    refine wp_region_over_all (by kernel_rfl) (by kernel_rfl) ?_
    repeat (quiet_step (fail))
    refine wpQuiet_nil ?_
    rintro _ ⟨x1, rfl⟩
    have Hx2 := Lib.hid (Hx.out.trans (wr.over_ext x1))
    have HN := Lib.hid hlt2
    cases t : (l[k] != m[k])
    · have he : l[k] = m[k] := by simpa using t
      have HE := Lib.hid he
      clear he
      go_wp2_with fail
      go_roundw
      case rel => exact ⟨k + 1, by omega, by go_num, Hx2, Lib.hid (fun j h1 h2 hj => by rcases Nat.lt_succ_iff_lt_or_eq.1 hj with h' | rfl; exact Hf.out j h1 h2 h'; exact HE.out)⟩
      case measure => simp [intOf]; omega
    · have he : ¬ l[k] = m[k] := by simpa using t
      have HE := Lib.hid he
      clear he
      go_wp2_with fail
      go_ret
      exact ⟨ret_bool (by symm; simp only [decide_eq_false_iff_not]; intro e; subst e; exact HE.out rfl), Hx2.out⟩
  · go_wp2_with fail
    go_ret
    exact ⟨ret_bool (by symm; simp only [decide_eq_true_eq]; exact list_eq_of HLE.out (fun j h1 h2 => Hf.out j h1 h2 (by omega))), Hx.out⟩
set_option maxRecDepth 100000 in
theorem SameWay_any (a a' : Option Addr) (l m : List Cel) (c c' : Nat) (w : World) (hl : RowS Cel.enc w a l) (hm : RowS Cel.enc w a' m) (hn : l.length ≤ 140737488355328) :
    Calls Tryd.prog 63 #[.slice a l.length c, .slice a' m.length c'] w fun e w' => e = .returned (.bool (decide (l = m))) ∧ Ext w w' := by
  have HL := Lib.hid hl
  have HM := Lib.hid hm
  clear hl hm
  go_enter Tryd.func63, Tryd.ntmps63
  by_cases hlen : ((l.length : Int) != (m.length : Int)) = true
  · go_wp2_with fail
    go_ret
    exact ⟨ret_bool (by symm; simp only [decide_eq_false_iff_not]; intro e; subst e; simp at hlen), Ext.refl _⟩
  have hle : l.length = m.length := by
    have : (l.length : Int) = m.length := by simpa using hlen
    omega
  replace hlen : ((l.length : Int) != (m.length : Int)) = false := by simpa using hlen
  have HLE := Lib.hid hle
  clear hle
  go_wp2_with fail
  go_loopw [5] (fun i wr => ∃ k : Nat, k ≤ l.length ∧ i = .int .i64 k ∧ Hid (Ext w wr) ∧ Hid (∀ j (h1 : j < l.length) (h2 : j < m.length), j < k → l[j] = m[j])) (fun i _ => l.length - (intOf i).toNat)
  case atStart => exact ⟨0, Nat.zero_le _, rfl, Lib.hid (Ext.refl _), Lib.hid (fun _ _ _ h => absurd h (Nat.not_lt_zero _))⟩
  case round =>
  obtain ⟨k, hk, rfl, Hx, Hf⟩ := hrel
  by_cases hlt : k < l.length
  · have hlt2 : k < m.length := by rw [← HLE.out]; exact hlt
    obtain ⟨b1, o1, rfl, q1, hc⟩ := (HL.out.ext Hx.out).get Cel.enc_length (by decide) hlt
    obtain ⟨b2, o2, rfl, q2, hd⟩ := (HM.out.ext Hx.out).get Cel.enc_length (by decide) hlt2
    have c0 : wr.cell? ⟨b1, o1 + k * 2, none⟩ = some (.int .i64 l[k].col) := by have := hc k 0 hlt (by decide); exact this
    have c1 : wr.cell? ⟨b1, o1 + k * 2 + 1, none⟩ = some (.int .i64 l[k].row) := by have := hc k 1 hlt (by decide); exact this
    have d0 : wr.cell? ⟨b2, o2 + k * 2, none⟩ = some (.int .i64 m[k].col) := by have := hd k 0 hlt2 (by decide); exact this
    have d1 : wr.cell? ⟨b2, o2 + k * 2 + 1, none⟩ = some (.int .i64 m[k].row) := by have := hd k 1 hlt2 (by decide); exact this
    clear hc hd
    go_wp2_with fail
    refine wp_region_over_all (by kernel_rfl) (by kernel_rfl) ?_
    repeat (quiet_step (fail))
    refine wpQuiet_nil ?_
    rintro _ ⟨x1, rfl⟩
    have Hx2 := Lib.hid (Hx.out.trans (wr.over_ext x1))
    have HN := Lib.hid hlt2
    cases t : (!decide (l[k] = m[k]))
    · have he : l[k] = m[k] := by simpa using t
      have HE := Lib.hid he
      clear he
      go_wp2_with fail
      go_roundw
      case rel => exact ⟨k + 1, by omega, by go_num, Hx2, Lib.hid (fun j h1 h2 hj => by rcases Nat.lt_succ_iff_lt_or_eq.1 hj with h' | rfl; exact Hf.out j h1 h2 h'; exact HE.out)⟩
      case measure => simp [intOf]; omega
    · have he : ¬ l[k] = m[k] := by simpa using t
      have HE := Lib.hid he
      clear he
      go_wp2_with fail
      go_ret
      exact ⟨ret_bool (by symm; simp only [decide_eq_false_iff_not]; intro e; subst e; exact HE.out rfl), Hx2.out⟩
  · go_wp2_with fail
    go_ret
    exact ⟨ret_bool (by symm; simp only [decide_eq_true_eq]; exact list_eq_of HLE.out (fun j h1 h2 => Hf.out j h1 h2 (by omega))), Hx.out⟩
set_option maxRecDepth 100000 in
theorem Ranges_any (a a' : Option Addr) (l m : List Rng) (c c' : Nat) (w : World) (hl : RowS Rng.enc w a l) (hm : RowS Rng.enc w a' m) (hn : l.length ≤ 140737488355328) :
    Calls Tryd.prog 82 #[.slice a l.length c, .slice a' m.length c'] w fun e w' => e = .returned (.bool (decide (l = m))) ∧ Ext w w' := by
  have HL := Lib.hid hl
  have HM := Lib.hid hm
  clear hl hm
  go_enter Tryd.func82, Tryd.ntmps82
  by_cases hlen : ((l.length : Int) != (m.length : Int)) = true
  · go_wp2_with fail
    go_ret
    exact ⟨ret_bool (by symm; simp only [decide_eq_false_iff_not]; intro e; subst e; simp at hlen), Ext.refl _⟩
  have hle : l.length = m.length := by
    have : (l.length : Int) = m.length := by simpa using hlen
    omega
  replace hlen : ((l.length : Int) != (m.length : Int)) = false := by simpa using hlen
  have HLE := Lib.hid hle
  clear hle
  go_wp2_with fail
  go_loopw [5] (fun i wr => ∃ k : Nat, k ≤ l.length ∧ i = .int .i64 k ∧ Hid (Ext w wr) ∧ Hid (∀ j (h1 : j < l.length) (h2 : j < m.length), j < k → l[j] = m[j])) (fun i _ => l.length - (intOf i).toNat)
  case atStart => exact ⟨0, Nat.zero_le _, rfl, Lib.hid (Ext.refl _), Lib.hid (fun _ _ _ h => absurd h (Nat.not_lt_zero _))⟩
  case round =>
  obtain ⟨k, hk, rfl, Hx, Hf⟩ := hrel
  by_cases hlt : k < l.length
  · have hlt2 : k < m.length := by rw [← HLE.out]; exact hlt
    obtain ⟨b1, o1, rfl, q1, hc⟩ := (HL.out.ext Hx.out).get Rng.enc_length (by decide) hlt
    obtain ⟨b2, o2, rfl, q2, hd⟩ := (HM.out.ext Hx.out).get Rng.enc_length (by decide) hlt2
    have c0 : wr.cell? ⟨b1, o1 + k * 2, none⟩ = some (.int .i64 l[k].lo) := by have := hc k 0 hlt (by decide); exact this
    have c1 : wr.cell? ⟨b1, o1 + k * 2 + 1, none⟩ = some (.int .i64 l[k].hi) := by have := hc k 1 hlt (by decide); exact this
    have d0 : wr.cell? ⟨b2, o2 + k * 2, none⟩ = some (.int .i64 m[k].lo) := by have := hd k 0 hlt2 (by decide); exact this
    have d1 : wr.cell? ⟨b2, o2 + k * 2 + 1, none⟩ = some (.int .i64 m[k].hi) := by have := hd k 1 hlt2 (by decide); exact this
    clear hc hd
    go_wp2_with fail
    refine wp_region_over_all (by kernel_rfl) (by kernel_rfl) ?_
    repeat (quiet_step (fail))
    refine wpQuiet_nil ?_
    rintro _ ⟨x1, rfl⟩
    have Hx2 := Lib.hid (Hx.out.trans (wr.over_ext x1))
    have HN := Lib.hid hlt2
    cases t : (!decide (l[k] = m[k]))
    · have he : l[k] = m[k] := by simpa using t
      have HE := Lib.hid he
      clear he
      go_wp2_with fail
      go_roundw
      case rel => exact ⟨k + 1, by omega, by go_num, Hx2, Lib.hid (fun j h1 h2 hj => by rcases Nat.lt_succ_iff_lt_or_eq.1 hj with h' | rfl; exact Hf.out j h1 h2 h'; exact HE.out)⟩
      case measure => simp [intOf]; omega
    · have he : ¬ l[k] = m[k] := by simpa using t
      have HE := Lib.hid he
      clear he
      go_wp2_with fail
      go_ret
      exact ⟨ret_bool (by symm; simp only [decide_eq_false_iff_not]; intro e; subst e; exact HE.out rfl), Hx2.out⟩
  · go_wp2_with fail
    go_ret
    exact ⟨ret_bool (by symm; simp only [decide_eq_true_eq]; exact list_eq_of HLE.out (fun j h1 h2 => Hf.out j h1 h2 (by omega))), Hx.out⟩
end Go.Proofs.YtienhiloecfgnaaDoor
namespace Go.Proofs.YtienhiloecfgnaaDoor
open Go.RowKit Go.Proofs Go.Shelf
set_option maxRecDepth 100000 in
theorem SameTimes_any (a a' : Option Addr) (ss ss' : List Sl) (M M' : List (List Int)) (c c' : Nat) (w : World) (hl : MatAt w a ss M) (hm : MatAt w a' ss' M') (hn : M.length ≤ 140737488355328) (hn2 : ∀ r ∈ M, r.length ≤ 140737488355328) :
    Calls Tryd.prog 31 #[.slice a M.length c, .slice a' M'.length c'] w fun e w' => e = .returned (.bool (decide (M = M'))) ∧ Ext w w' := by
  have HL := Lib.hid hl
  have HM := Lib.hid hm
  clear hl hm
  go_enter Tryd.func31, Tryd.ntmps31
  by_cases hlen : ((M.length : Int) != (M'.length : Int)) = true
  · go_wp2_with fail
    go_ret
    exact ⟨ret_bool (by symm; simp only [decide_eq_false_iff_not]; intro e; subst e; simp at hlen), Ext.refl _⟩
  have hle : M.length = M'.length := by
    have : (M.length : Int) = M'.length := by simpa using hlen
    omega
  replace hlen : ((M.length : Int) != (M'.length : Int)) = false := by simpa using hlen
  have HLE := Lib.hid hle
  clear hle
  go_wp2_with fail
  go_loopw [5] (fun i wr => ∃ k : Nat, k ≤ M.length ∧ i = .int .i64 k ∧ Hid (Ext w wr) ∧ Hid (∀ j (h1 : j < M.length) (h2 : j < M'.length), j < k → M[j] = M'[j])) (fun i _ => M.length - (intOf i).toNat)
  case atStart => exact ⟨0, Nat.zero_le _, rfl, Lib.hid (Ext.refl _), Lib.hid (fun _ _ _ h => absurd h (Nat.not_lt_zero _))⟩
  case round =>
  obtain ⟨k, hk, rfl, Hx, Hf⟩ := hrel
  by_cases hlt : k < M.length
  · have hlt2 : k < M'.length := by rw [← HLE.out]; exact hlt
    have s1 : k < ss.length := by rw [HL.out.len]; exact hlt
    have s2 : k < ss'.length := by rw [HM.out.len]; exact hlt2
    obtain ⟨b1, o1, rfl, q1, hc⟩ := (HL.out.row.ext Hx.out).get Sl.enc_length (by decide) s1
    obtain ⟨b2, o2, rfl, q2, hd⟩ := (HM.out.row.ext Hx.out).get Sl.enc_length (by decide) s2
    have e1 := HL.out.rows k s1 hlt
    have e2 := HM.out.rows k s2 hlt2
    have c0 : wr.cell? ⟨b1, o1 + k, none⟩ = some (.slice ss[k].a M[k].length ss[k].c) := by have := hc k 0 s1 (by decide); rw [Nat.mul_one] at this; rw [← e1.1]; exact this
    have d0 : wr.cell? ⟨b2, o2 + k, none⟩ = some (.slice ss'[k].a M'[k].length ss'[k].c) := by have := hd k 0 s2 (by decide); rw [Nat.mul_one] at this; rw [← e2.1]; exact this
    have LC : Hid (∀ y, Calls Tryd.prog 22 #[.slice ss[k].a M[k].length ss[k].c, .slice ss'[k].a M'[k].length ss'[k].c] (wr.over y) fun e w' => e = .returned (.bool (decide (M[k] = M'[k]))) ∧ Ext (wr.over y) w') := Lib.hid (fun y =>
      Ints_any _ _ _ _ _ _ _ (e1.2.ext (Hx.out.trans (wr.over_ext y))) (e2.2.ext (Hx.out.trans (wr.over_ext y))) (hn2 _ (List.getElem_mem hlt)))
    clear hc hd e1 e2
    go_wp2_with fail
    refine wp_region_over_all (by kernel_rfl) (by kernel_rfl) ?_
    repeat (quiet_step ((go_at_call 22; exact Calls.over_ext (LC.out _))))
    refine wpQuiet_nil ?_
    rintro _ ⟨x1, rfl⟩
    have Hx2 := Lib.hid (Hx.out.trans (wr.over_ext x1))
    have HN := Lib.hid hlt2
    cases t : decide (M[k] = M'[k])
    · have he : ¬ M[k] = M'[k] := by simpa using t
      have HE := Lib.hid he
      clear he
      go_wp2_with fail
      go_ret
      exact ⟨ret_bool (by symm; simp only [decide_eq_false_iff_not]; intro e; subst e; exact HE.out rfl), Hx2.out⟩
    · have he : M[k] = M'[k] := by simpa using t
      have HE := Lib.hid he
      clear he
      go_wp2_with fail
      go_roundw
      case rel => exact ⟨k + 1, by omega, by go_num, Hx2, Lib.hid (fun j h1 h2 hj => by rcases Nat.lt_succ_iff_lt_or_eq.1 hj with h' | rfl; exact Hf.out j h1 h2 h'; exact HE.out)⟩
      case measure => simp [intOf]; omega
  · go_wp2_with fail
    go_ret
    exact ⟨ret_bool (by symm; simp only [decide_eq_true_eq]; exact list_eq_of HLE.out (fun j h1 h2 => Hf.out j h1 h2 (by omega))), Hx.out⟩
end Go.Proofs.YtienhiloecfgnaaDoor
namespace Go.Proofs.YtienhiloecfgnaaDoor
open Go Go.RowKit Go.Proofs Go.Shelf Go.Ab
theorem row_sl {w w' : World} {M : Nat → Prop} {a : Option Addr} {n c : Nat} {us : List Value} {cs : List FV} (hr : Row w' a us) (hn : n ≤ c) (hd : detC cs = some us) (one : ∀ u ∈ us, u.oneCell' = true) (hM : ∀ b, M b → b < w.heap.size) (hf : ∀ ad, a = some ad → w.heap.size ≤ ad.block) : RepF w' M (.slice a n c) (.sl n cs) := by
  have R := repL_det (w := w') (M := M) hd
  refine RepF.sl a n c cs us hn R.1 one (fun hne => ?_) R.2
  obtain ⟨b, off, e, hb, hc⟩ := hr.at_ hne
  exact ⟨b, off, e, hb, fun hm => by have := hM b hm; have := hf _ e; simp at this; omega, hc⟩
theorem one_cels (l : List Cel) : ∀ u ∈ l.flatMap Cel.enc, u.oneCell' = true := encC_one l
theorem mat_sl {w w' : World} {M : Nat → Prop} {a : Option Addr} {ss : List Sl} {c : Nat} {T : List (List Int)} (h : MatAt w' a ss T) (hc : T.length ≤ c) (hM : ∀ b, M b → b < w.heap.size) (hf : ∀ ad, a = some ad → w.heap.size ≤ ad.block) (hr : ∀ r (hr : r < ss.length), ss[r].n ≤ ss[r].c ∧ ∀ ad, ss[r].a = some ad → w.heap.size ≤ ad.block) : RepF w' M (.slice a T.length c) (.sl T.length (matF T)) := by
  have hx : (ss.flatMap Sl.enc) = ss.map fun s => Value.slice s.a s.n s.c := by
    rw [← List.flatMap_singleton' (ss.map _), List.flatMap_map]; rfl
  refine RepF.sl a _ c (matF T) (ss.map fun s => Value.slice s.a s.n s.c) hc (by simp [matF, h.len]) (by simp [Value.oneCell']) (fun hne => ?_) (fun k u x h1 h2 => ?_)
  · obtain ⟨b, off, e, hb, hcc⟩ := h.row.at_ (by rw [hx]; exact hne)
    rw [hx] at hcc
    exact ⟨b, off, e, hb, fun hm => by have := hM b hm; have := hf _ e; simp at this; omega, hcc⟩
  · rw [List.getElem?_map] at h1
    rw [matF, List.getElem?_map] at h2
    cases hs : ss[k]? with
    | none => rw [hs] at h1; simp at h1
    | some s =>
      cases ht : T[k]? with
      | none => rw [ht] at h2; simp at h2
      | some t =>
        rw [hs] at h1; rw [ht] at h2
        simp at h1 h2; subst h1; subst h2
        obtain ⟨k1, e1⟩ := List.getElem?_eq_some_iff.1 hs
        obtain ⟨k2, e2⟩ := List.getElem?_eq_some_iff.1 ht
        obtain ⟨p1, p2⟩ := h.rows k k1 k2
        obtain ⟨q1, q2⟩ := hr k k1
        rw [e1] at p1 p2 q1 q2; rw [e2] at p1 p2
        rw [p1]
        exact row_sl p2 (by omega) (detC_ints t) (one_ints t) hM q2
theorem rep_mat {w : World} {M : Nat → Prop} {v : Value} {T : List (List Int)} (h : RepF w M v (.sl T.length (matF T))) : ∃ a ss c, v = .slice a T.length c ∧ MatAt w a ss T := by
  cases h with
  | sl a _ c _ us h1 h2 h3 h4 h5 =>
    have hlen : us.length = T.length := by rw [h2]; simp [matF]
    have hex : ∀ k, k < T.length → ∃ s : Sl, us[k]? = some (.slice s.a s.n s.c) ∧ (∀ (hk : k < T.length), s.n = T[k].length ∧ RowS encI w s.a T[k]) := fun k hk => by
      have hu : us[k]? = some us[k] := List.getElem?_eq_getElem (by omega)
      have := h5 k _ _ hu (show (matF T)[k]? = some (rowF T[k]) by simp [matF, hk])
      obtain ⟨a', c', e, _, r⟩ := rep_row this (detC_ints _)
      exact ⟨⟨a', T[k].length, c'⟩, by rw [hu, e], fun _ => ⟨rfl, r⟩⟩
    obtain ⟨ss, l1, l2⟩ := exists_list (fun k (s : Sl) => us[k]? = some (.slice s.a s.n s.c) ∧ ∀ (hk : k < T.length), s.n = T[k].length ∧ RowS encI w s.a T[k]) T.length hex
    have hx : (ss.flatMap Sl.enc) = us := by
      have : (ss.flatMap Sl.enc) = ss.map fun s => Value.slice s.a s.n s.c := by
        rw [← List.flatMap_singleton' (ss.map _), List.flatMap_map]; rfl
      rw [this]
      apply List.ext_getElem?
      intro k
      by_cases hk : k < ss.length
      · rw [(l2 k hk).1]; simp [hk]
      · rw [List.getElem?_eq_none (by simp; omega), List.getElem?_eq_none (by omega)]
    refine ⟨a, ss, c, rfl, ⟨fun hn => ?_⟩, l1, fun r hr hr' => (l2 r hr).2 hr'⟩
    rw [hx] at hn ⊢
    obtain ⟨b, off, e, L⟩ := h4 hn
    exact ⟨b, off, e, L.lt, L.at_⟩
theorem rep_hole {w : World} {M : Nat → Prop} {v : Value} {h : Hole} (r : RepF w M v (holeF h)) (hl : h.widths.length ≤ 140737488355328) (ht : h.shrinks.length ≤ 140737488355328) :
    ∃ wa sa wc sc, v = .agg #[.slice wa h.widths.length wc, .slice sa h.shrinks.length sc, .int .i64 h.need] ∧ HoleAt w wa sa h := by
  cases r with
  | agg _ us h1 h2 h3 =>
    have R : RepL w M us (holeL h) := ⟨h1, h3⟩
    obtain ⟨u1, us1, rfl, r1, R1⟩ := R.head
    obtain ⟨u2, us2, rfl, r2, R2⟩ := R1.head
    obtain ⟨u3, us3, rfl, r3, R3⟩ := R2.head
    have := R3.end; subst this
    obtain ⟨wa, wc, rfl, _, p1⟩ := rep_row r1 (detC_ints _)
    obtain ⟨sa, sc, rfl, _, p2⟩ := rep_row r2 (detC_ints _)
    have := rep_int r3; subst this
    exact ⟨wa, sa, wc, sc, rfl, p1, p2, hl, ht⟩
theorem tup2 {w : World} {M : Nat → Prop} (a b : Int) : RepF w M (.tuple #[.int .i64 a, .int .i64 b]) (.tup [iv a, iv b]) := by
  have R := RepL.cons (RepF.v (w := w) (M := M) (.int .i64 a)) (RepL.cons (RepF.v (.int .i64 b)) (RepL.nil _ _))
  exact RepF.tup _ _ R.1 R.2
structure SmallG (x : Grid) : Prop where
  nl : x.layers.length ≤ 140737488355328
  nt : x.tilt.length ≤ 140737488355328
theorem CheckIce_s (x : Grid) (b : SmallG x) : Summ Tryd.prog GG 33 [gridF x] (.tup [iv (checkIce x).1, iv (checkIce x).2]) := by
  refine ⟨enters_of Tryd.func33 (by kernel_rfl) rfl, fun w M us hM hG R => ?_⟩
  obtain ⟨u1, us1, rfl, r1, R1⟩ := R.head
  have := R1.end; subst this
  obtain ⟨la, ta, lc, tc, rfl, hg⟩ := rep_gridF r1 b.nl b.nt
  exact (CheckIce_any la ta lc tc x w hg).mono fun e w' ⟨h1, h2⟩ => ⟨_, h1, tup2 _ _, h2⟩
theorem LayerAt_s (x : Grid) (c : Cel) (b : SmallG x) : Summ Tryd.prog GG 34 [gridF x, .agg (celF c)] (.tup [iv (layerAtE x c).1, iv (layerAtE x c).2]) := by
  refine ⟨enters_of Tryd.func34 (by kernel_rfl) rfl, fun w M us hM hG R => ?_⟩
  obtain ⟨u1, us1, rfl, r1, R1⟩ := R.head
  obtain ⟨u2, us2, rfl, r2, R2⟩ := R1.head
  have := R2.end; subst this
  obtain ⟨la, ta, lc, tc, rfl, hg⟩ := rep_gridF r1 b.nl b.nt
  have := rep_cel r2; subst this
  exact (LayerAt_any la ta lc tc x c w hg).mono fun e w' ⟨h1, h2⟩ => ⟨_, h1, tup2 _ _, h2⟩
theorem CheckClass_s (x : Grid) (rs : List Rng) (b : SmallG x) (hn : rs.length ≤ 140737488355328) : Summ Tryd.prog GG 24 [classF x rs] (.tup [iv (checkClass x rs).1, iv (checkClass x rs).2]) := by
  refine ⟨enters_of Tryd.func24 (by kernel_rfl) rfl, fun w M us hM hG R => ?_⟩
  obtain ⟨u1, us1, rfl, r1, R1⟩ := R.head
  have := R1.end; subst this
  obtain ⟨la, ta, ra, lc, tc, rc, rfl, hg, hr⟩ := rep_classF r1 b.nl b.nt
  exact (CheckClass_any la ta ra lc tc rc x rs w hg hr hn).mono fun e w' ⟨h1, h2⟩ => ⟨_, h1, tup2 _ _, h2⟩
theorem TimesFrom_s (x : Grid) (fr : Cel) (b : SmallG x) : Summ Tryd.prog GG 19 [gridF x, .agg (celF fr)] (.tup [.sl (timesR x fr).1.length (matF (timesR x fr).1), iv (timesR x fr).2]) := by
  refine ⟨enters_of Tryd.func19 (by kernel_rfl) rfl, fun w M us hM hG R => ?_⟩
  obtain ⟨u1, us1, rfl, r1, R1⟩ := R.head
  obtain ⟨u2, us2, rfl, r2, R2⟩ := R1.head
  have := R2.end; subst this
  obtain ⟨la, ta, lc, tc, rfl, hg⟩ := rep_gridF r1 b.nl b.nt
  have := rep_cel r2; subst this
  refine (TimesFrom_any la ta lc tc x fr w hg (rep_sides hG)).mono fun e w' ⟨a, ss, c, h1, h2, h3, h4, h5, h6⟩ => ⟨_, h1, ?_, h3⟩
  have R := RepL.cons (mat_sl h2 h4 hM h5 h6) (RepL.cons (RepF.v (.int .i64 (timesR x fr).2)) (RepL.nil _ _))
  exact RepF.tup _ _ R.1 R.2
theorem WayTo_s (x : Grid) (fr to : Cel) (b : SmallG x) : Summ Tryd.prog GG 60 [gridF x, .agg (celF fr), .agg (celF to)] (.tup [.sl (wayR x fr to).1.length (celsF (wayR x fr to).1), iv (wayR x fr to).2]) := by
  refine ⟨enters_of Tryd.func60 (by kernel_rfl) rfl, fun w M us hM hG R => ?_⟩
  obtain ⟨u1, us1, rfl, r1, R1⟩ := R.head
  obtain ⟨u2, us2, rfl, r2, R2⟩ := R1.head
  obtain ⟨u3, us3, rfl, r3, R3⟩ := R2.head
  have := R3.end; subst this
  obtain ⟨la, ta, lc, tc, rfl, hg⟩ := rep_gridF r1 b.nl b.nt
  have := rep_cel r2; subst this
  have := rep_cel r3; subst this
  refine (WayTo_any la ta lc tc x fr to w hg (rep_sides hG)).mono fun e w' ⟨a, c, h1, h2, h3, h4, h5⟩ => ⟨_, h1, ?_, h3⟩
  have R := RepL.cons (row_sl h2 h4 (detC_cels _) (one_cels _) hM h5) (RepL.cons (RepF.v (.int .i64 (wayR x fr to).2)) (RepL.nil _ _))
  exact RepF.tup _ _ R.1 R.2
theorem SurvivalOf_s (x : Grid) (n : Int) (l : List Int) (b : SmallG x) (hm : l.length ≤ 140737488355328) : Summ Tryd.prog GG 39 [gridF x, iv n, .sl l.length (intsF l)] (.tup [iv (survR x n l).1, iv (survR x n l).2]) := by
  refine ⟨enters_of Tryd.func39 (by kernel_rfl) rfl, fun w M us hM hG R => ?_⟩
  obtain ⟨u1, us1, rfl, r1, R1⟩ := R.head
  obtain ⟨u2, us2, rfl, r2, R2⟩ := R1.head
  obtain ⟨u3, us3, rfl, r3, R3⟩ := R2.head
  have := R3.end; subst this
  obtain ⟨la, ta, lc, tc, rfl, hg⟩ := rep_gridF r1 b.nl b.nt
  have := rep_int r2; subst this
  obtain ⟨a, c, rfl, _, hr⟩ := rep_row r3 (detC_ints l)
  exact (SurvivalOf_any la ta lc tc x n a c l w hg hr hm).mono fun e w' ⟨h1, h2⟩ => ⟨_, h1, tup2 _ _, h2⟩
structure SmallH (h : Hole) : Prop where
  nw : h.widths.length ≤ 140737488355328
  ns : h.shrinks.length ≤ 140737488355328
theorem CheckHole_s (h : Hole) (b : SmallH h) : Summ Tryd.prog GG 47 [holeF h] (.tup [iv (checkHole h).1, iv (checkHole h).2]) := by
  refine ⟨enters_of Tryd.func47 (by kernel_rfl) rfl, fun w M us hM hG R => ?_⟩
  obtain ⟨u1, us1, rfl, r1, R1⟩ := R.head
  have := R1.end; subst this
  obtain ⟨wa, sa, wc, sc, rfl, hh⟩ := rep_hole r1 b.nw b.ns
  exact (CheckHole_any wa sa wc sc h w hh).mono fun e w' ⟨h1, h2⟩ => ⟨_, h1, tup2 _ _, h2⟩
theorem ClosesAt_s (h : Hole) (d : Int) (b : SmallH h) : Summ Tryd.prog GG 49 [holeF h, iv d] (.tup [iv (closesR h d).1, iv (closesR h d).2]) := by
  refine ⟨enters_of Tryd.func49 (by kernel_rfl) rfl, fun w M us hM hG R => ?_⟩
  obtain ⟨u1, us1, rfl, r1, R1⟩ := R.head
  obtain ⟨u2, us2, rfl, r2, R2⟩ := R1.head
  have := R2.end; subst this
  obtain ⟨wa, sa, wc, sc, rfl, hh⟩ := rep_hole r1 b.nw b.ns
  have := rep_int r2; subst this
  exact (ClosesAt_any wa sa wc sc h d w hh).mono fun e w' ⟨h1, h2⟩ => ⟨_, h1, tup2 _ _, h2⟩
theorem LatestStart_s (h : Hole) (d : Int) (b : SmallH h) : Summ Tryd.prog GG 50 [holeF h, iv d] (.tup [iv (latestR h d).1, iv (latestR h d).2]) := by
  refine ⟨enters_of Tryd.func50 (by kernel_rfl) rfl, fun w M us hM hG R => ?_⟩
  obtain ⟨u1, us1, rfl, r1, R1⟩ := R.head
  obtain ⟨u2, us2, rfl, r2, R2⟩ := R1.head
  have := R2.end; subst this
  obtain ⟨wa, sa, wc, sc, rfl, hh⟩ := rep_hole r1 b.nw b.ns
  have := rep_int r2; subst this
  exact (LatestStart_any wa sa wc sc h d w hh).mono fun e w' ⟨h1, h2⟩ => ⟨_, h1, tup2 _ _, h2⟩
theorem SlowestPace_s (h : Hole) (d : Int) (b : SmallH h) : Summ Tryd.prog GG 51 [holeF h, iv d] (.tup [iv (slowR h d).1, iv (slowR h d).2]) := by
  refine ⟨enters_of Tryd.func51 (by kernel_rfl) rfl, fun w M us hM hG R => ?_⟩
  obtain ⟨u1, us1, rfl, r1, R1⟩ := R.head
  obtain ⟨u2, us2, rfl, r2, R2⟩ := R1.head
  have := R2.end; subst this
  obtain ⟨wa, sa, wc, sc, rfl, hh⟩ := rep_hole r1 b.nw b.ns
  have := rep_int r2; subst this
  exact (SlowestPace_any wa sa wc sc h d w hh).mono fun e w' ⟨h1, h2⟩ => ⟨_, h1, tup2 _ _, h2⟩
theorem Ints_s (l m : List Int) (hn : l.length ≤ 140737488355328) : Summ Tryd.prog GG 22 [.sl l.length (intsF l), .sl m.length (intsF m)] (.v (.bool (decide (l = m)))) := by
  refine ⟨enters_of Tryd.func22 (by kernel_rfl) rfl, fun w M us hM hG R => ?_⟩
  obtain ⟨u1, us1, rfl, r1, R1⟩ := R.head
  obtain ⟨u2, us2, rfl, r2, R2⟩ := R1.head
  have := R2.end; subst this
  obtain ⟨a, c, rfl, _, hr⟩ := rep_row r1 (detC_ints l)
  obtain ⟨a', c', rfl, _, hr'⟩ := rep_row r2 (detC_ints m)
  exact (Ints_any a a' l m c c' w hr hr' hn).mono fun e w' ⟨h1, h2⟩ => ⟨_, h1, RepF.v _, h2⟩
theorem SameWay_s (l m : List Cel) (hn : l.length ≤ 140737488355328) : Summ Tryd.prog GG 63 [.sl l.length (celsF l), .sl m.length (celsF m)] (.v (.bool (decide (l = m)))) := by
  refine ⟨enters_of Tryd.func63 (by kernel_rfl) rfl, fun w M us hM hG R => ?_⟩
  obtain ⟨u1, us1, rfl, r1, R1⟩ := R.head
  obtain ⟨u2, us2, rfl, r2, R2⟩ := R1.head
  have := R2.end; subst this
  obtain ⟨a, c, rfl, _, hr⟩ := rep_row r1 (detC_cels l)
  obtain ⟨a', c', rfl, _, hr'⟩ := rep_row r2 (detC_cels m)
  exact (SameWay_any a a' l m c c' w hr hr' hn).mono fun e w' ⟨h1, h2⟩ => ⟨_, h1, RepF.v _, h2⟩
theorem Ranges_s (l m : List Rng) (hn : l.length ≤ 140737488355328) : Summ Tryd.prog GG 82 [.sl l.length (rngsF l), .sl m.length (rngsF m)] (.v (.bool (decide (l = m)))) := by
  refine ⟨enters_of Tryd.func82 (by kernel_rfl) rfl, fun w M us hM hG R => ?_⟩
  obtain ⟨u1, us1, rfl, r1, R1⟩ := R.head
  obtain ⟨u2, us2, rfl, r2, R2⟩ := R1.head
  have := R2.end; subst this
  obtain ⟨a, c, rfl, _, hr⟩ := rep_row r1 (detC_rngs l)
  obtain ⟨a', c', rfl, _, hr'⟩ := rep_row r2 (detC_rngs m)
  exact (Ranges_any a a' l m c c' w hr hr' hn).mono fun e w' ⟨h1, h2⟩ => ⟨_, h1, RepF.v _, h2⟩
theorem SameTimes_s (T T' : List (List Int)) (hn : T.length ≤ 140737488355328) (hn2 : ∀ r ∈ T, r.length ≤ 140737488355328) : Summ Tryd.prog GG 31 [.sl T.length (matF T), .sl T'.length (matF T')] (.v (.bool (decide (T = T')))) := by
  refine ⟨enters_of Tryd.func31 (by kernel_rfl) rfl, fun w M us hM hG R => ?_⟩
  obtain ⟨u1, us1, rfl, r1, R1⟩ := R.head
  obtain ⟨u2, us2, rfl, r2, R2⟩ := R1.head
  have := R2.end; subst this
  obtain ⟨a, ss, c, rfl, hr⟩ := rep_mat r1
  obtain ⟨a', ss', c', rfl, hr'⟩ := rep_mat r2
  exact (SameTimes_any a a' ss ss' T T' c c' w hr hr' hn hn2).mono fun e w' ⟨h1, h2⟩ => ⟨_, h1, RepF.v _, h2⟩
end Go.Proofs.YtienhiloecfgnaaDoor
namespace Go.Proofs.YtienhiloecfgnaaDoor
open Go Go.RowKit Go.Proofs Go.Shelf Go.Ab
def cellsG (x : Grid) : List Cel := (List.range x.tilt.length).flatMap fun c => (List.range x.rows.toNat).map fun r => ⟨(c : Nat), (r : Nat)⟩
theorem mem_cellsG {x : Grid} {c : Cel} : InG x c ↔ c ∈ cellsG x := by
  unfold InG cellsG
  simp only [List.mem_flatMap, List.mem_range, List.mem_map]
  constructor
  · rintro ⟨⟨h1, h2⟩, h3, h4⟩
    exact ⟨c.col.toNat, by omega, c.row.toNat, by omega, by cases c; simp at *; omega⟩
  · rintro ⟨a, ha, b, hb, rfl⟩
    simp; omega
def tab (T : List (List Int)) (c : Cel) : Int := (T.getD c.row.toNat []).getD c.col.toNat 0
def chkD (x : Grid) (fr : Cel) (d : Cel → Int) : Bool := decide (d fr = 0) && (cellsG x).all fun c => decide (0 ≤ d c) && ((nbrs x c).all fun n => decide (d n ≤ d c + stepI x c n)) && (decide (c = fr) || (nbrs x c).any fun n => decide (d c = d n + stepI x n c))
theorem chkD_is {x : Grid} {fr : Cel} {d : Cel → Int} (h : chkD x fr d = true) : IsDist x fr d := by
  unfold chkD at h
  simp only [Bool.and_eq_true, List.all_eq_true, Bool.or_eq_true, List.any_eq_true, decide_eq_true_eq] at h
  obtain ⟨h0, h1⟩ := h
  exact ⟨h0, fun c hc => (h1 c (mem_cellsG.1 hc)).1.1, fun c n hc hn => (h1 c (mem_cellsG.1 hc)).1.2 n hn, fun c hc hne => ((h1 c (mem_cellsG.1 hc)).2).resolve_left hne⟩
theorem distOf_tab {x : Grid} (v : Valid x) {fr : Cel} {d : Cel → Int} (h : chkD x fr d = true) {c : Cel} (hc : InG x c) : distOf x fr c = d c :=
  (distOf_is (chkD_is h)).unique v (chkD_is h) hc
theorem timesM_tab {x : Grid} (v : Valid x) {fr : Cel} {d : Cel → Int} (h : chkD x fr d = true) : timesM x fr = (List.range x.rows.toNat).map fun r => (List.range x.tilt.length).map fun c => d ⟨(c : Nat), (r : Nat)⟩ := by
  unfold timesM
  refine List.map_congr_left fun r hr => List.map_congr_left fun c hc => ?_
  have h1 := List.mem_range.1 hr
  have h2 := List.mem_range.1 hc
  exact distOf_tab v h (by unfold InG; simp; omega)
def nextD (x : Grid) (d : Cel → Int) (c : Cel) : Option Cel := (nbrs x c).find? fun n => decide (d n + stepI x c n = d c)
def wayD (x : Grid) (d : Cel → Int) (to : Cel) : Nat → Cel → List Cel
  | 0, _ => []
  | k + 1, c => if c = to then [] else match nextD x d c with
    | some n => n :: wayD x d to k n
    | none => []
theorem find_congr {α : Type} {p q : α → Bool} : ∀ {l : List α}, (∀ x ∈ l, p x = q x) → l.find? p = l.find? q
  | [], _ => rfl
  | a :: l, h => by
    rw [List.find?_cons, List.find?_cons, h a (by simp), find_congr fun x hx => h x (by simp [hx])]
theorem nextC_tab {x : Grid} (v : Valid x) {to c : Cel} {d : Cel → Int} (h : chkD x to d = true) (hc : InG x c) : nextC x to c = nextD x d c := by
  unfold nextC nextD
  exact find_congr fun n hn => by rw [distOf_tab v h hc, distOf_tab v h (nbrs_in v hn)]
theorem wayGo_tab {x : Grid} (v : Valid x) {to : Cel} {d : Cel → Int} (h : chkD x to d = true) : ∀ (k : Nat) (c : Cel), InG x c → wayGo x to k c = wayD x d to k c
  | 0, _, _ => rfl
  | k + 1, c, hc => by
    rw [wayGo, wayD, nextC_tab v h hc]
    split
    · rfl
    · cases hn : nextD x d c with
      | none => rfl
      | some n => exact congrArg (n :: ·) (wayGo_tab v h k n (nbrs_in v (List.mem_of_find?_eq_some hn)))
theorem wayM_tab {x : Grid} (v : Valid x) {fr to : Cel} {d : Cel → Int} (h : chkD x to d = true) (hc : InG x fr) : wayM x fr to = fr :: wayD x d to (d fr).toNat fr := by
  rw [wayM, distOf_tab v h hc, wayGo_tab v h _ _ hc]
def T0 : List (List Int) := [[0, 4, 8], [7, 11, 12]]
def T0r : List (List Int) := [[12, 8, 4], [17, 7, 0]]
def W0 : List Cel := [⟨0, 0⟩, ⟨1, 0⟩, ⟨2, 0⟩, ⟨2, 1⟩]
theorem grid0_valid : Valid grid0 := (checkIce_zero grid0).1 (by decide +kernel)
theorem timesR0 : timesR grid0 ⟨0, 0⟩ = (T0, 0) := by
  have h : fromE grid0 ⟨0, 0⟩ = 0 := by decide +kernel
  rw [timesR, h, if_neg (by decide), timesM_tab grid0_valid (d := tab T0) (by decide +kernel)]
  exact congrArg (·, 0) (by decide +kernel)
theorem wayR0 : wayR grid0 ⟨0, 0⟩ ⟨2, 1⟩ = (W0, 0) := by
  have h : wayE grid0 ⟨0, 0⟩ ⟨2, 1⟩ = 0 := by decide +kernel
  rw [wayR, h, if_neg (by decide), wayM_tab grid0_valid (d := tab T0r) (by decide +kernel) (mem_cellsG.2 (by decide +kernel))]
  exact congrArg (·, 0) (by decide +kernel)
theorem survR0 : survR grid0 100 [0, 0] = (82, 0) := by decide +kernel
theorem latestR0 : latestR hole0 1 = (1, 0) := by decide +kernel
def fl0 : Flash := { name := "a".toByteArray, frm := ⟨0, 0⟩, to := ⟨2, 1⟩, time := ⟨10, 14⟩ }
theorem dist_own (k : Int) (T : List (List Int)) (v : (checkIce (own grid0 [k, 5])).2 = 0) (h : chkD (own grid0 [k, 5]) ⟨0, 0⟩ (tab T) = true) (hi : (⟨2, 1⟩ : Cel) ∈ cellsG (own grid0 [k, 5])) : distOf (own grid0 [k, 5]) ⟨0, 0⟩ ⟨2, 1⟩ = tab T ⟨2, 1⟩ :=
  distOf_tab ((checkIce_zero _).1 v) h (mem_cellsG.2 hi)
theorem models0 : modelsM grid0 rngs0 [fl0] = [[2, 5]] := by
  have h1 := dist_own 1 [[0, 2, 4], [6, 8, 6]] (by decide +kernel) (by decide +kernel) (by decide +kernel)
  have h2 := dist_own 2 [[0, 4, 8], [7, 11, 12]] (by decide +kernel) (by decide +kernel) (by decide +kernel)
  have h3 := dist_own 3 [[0, 6, 12], [8, 14, 18]] (by decide +kernel) (by decide +kernel) (by decide +kernel)
  have ha : assigns rngs0 [] = [[1, 5], [2, 5], [3, 5]] := by decide +kernel
  unfold modelsM allMo news
  rw [ha]
  simp only [List.map_cons, List.map_nil, mo, explains, fl0, h1, h2, h3]
  decide +kernel
theorem Grid_s : Summ Tryd.prog GG 79 [] (gridF grid0) := by
  refine summW Tryd.func79 rfl rfl 6 rfl (by simp) (fun M0 => ?_)
  repeat (first
    | (apply s_build TY; exact rfl; exact rfl; exact rfl; exact rfl; exact rfl)
    | (apply s_bslice TY; exact rfl; exact rfl; exact rfl; exact rfl; exact rfl; exact rfl)
    | apply w_seq
    | apply w_region
    | apply s_nil
    | apply t_norm
    | apply w_ret
    | (apply s_alloc TY; exact rfl; exact rfl; exact rfl)
    | (apply s_store TY; exact rfl; exact rfl; exact rfl; exact rfl; exact rfl; exact rfl))
  exact lv_ret (ret1 rfl (res_bxs TY rfl rfl rfl rfl rfl))
theorem Class_s : Summ Tryd.prog GG 80 [] (classF grid0 rngs0) := by
  refine summW Tryd.func80 rfl rfl 6 rfl (by simp) (fun M0 => ?_)
  repeat (first
    | (apply s_build TY; exact rfl; exact rfl; exact rfl; exact rfl; exact rfl)
    | (apply s_bslice TY; exact rfl; exact rfl; exact rfl; exact rfl; exact rfl; exact rfl)
    | apply w_seq
    | apply w_region
    | apply s_nil
    | apply t_norm
    | apply w_ret
    | (apply s_call (Grid_s); exact rfl; exact rfl; exact rfl; exact rfl)
    | (apply s_alloc TY; exact rfl; exact rfl; exact rfl)
    | (apply s_store TY; exact rfl; exact rfl; exact rfl; exact rfl; exact rfl; exact rfl))
  exact lv_ret (ret1 rfl (res_bxs TY rfl rfl rfl rfl rfl))
theorem Hole_s : Summ Tryd.prog GG 81 [] (holeF hole0) := by
  refine summW Tryd.func81 rfl rfl 4 rfl (by simp) (fun M0 => ?_)
  repeat (first
    | (apply s_build TY; exact rfl; exact rfl; exact rfl; exact rfl; exact rfl)
    | (apply s_bslice TY; exact rfl; exact rfl; exact rfl; exact rfl; exact rfl; exact rfl)
    | apply w_seq
    | apply w_region
    | apply s_nil
    | apply t_norm
    | apply w_ret
    | (apply s_alloc TY; exact rfl; exact rfl; exact rfl)
    | (apply s_store TY; exact rfl; exact rfl; exact rfl; exact rfl; exact rfl; exact rfl))
  exact lv_ret (ret1 rfl (res_bxs TY rfl rfl rfl rfl rfl))
theorem TimesFrom0 : Summ Tryd.prog GG 19 [gridF grid0, .agg (celF ⟨0, 0⟩)] (.tup [.sl 2 (matF T0), iv 0]) := by
  have := TimesFrom_s grid0 ⟨0, 0⟩ ⟨by decide, by decide⟩
  rw [timesR0] at this
  exact this
theorem WayTo0 : Summ Tryd.prog GG 60 [gridF grid0, .agg (celF ⟨0, 0⟩), .agg (celF ⟨2, 1⟩)] (.tup [.sl 4 (celsF W0), iv 0]) := by
  have := WayTo_s grid0 ⟨0, 0⟩ ⟨2, 1⟩ ⟨by decide, by decide⟩
  rw [wayR0] at this
  exact this
theorem SurvivalOf0 : Summ Tryd.prog GG 39 [gridF grid0, iv 100, .sl 2 (intsF [0, 0])] (.tup [iv 82, iv 0]) := by
  have := SurvivalOf_s grid0 100 [0, 0] ⟨by decide, by decide⟩ (by decide)
  rw [survR0] at this
  exact this
theorem LatestStart0 : Summ Tryd.prog GG 50 [holeF hole0, iv 1] (.tup [iv 1, iv 0]) := by
  have := LatestStart_s hole0 1 ⟨by decide, by decide⟩
  rw [latestR0] at this
  exact this
theorem RangesOf0 : Summ Tryd.prog GG 69 [classF grid0 rngs0, .sl 1 (flasF [fl0])] (.tup [.sl 2 (rngsF [⟨2, 2⟩, ⟨5, 5⟩]), iv 0]) := by
  have := RangesOf_ok grid0 rngs0 [fl0] ⟨by decide, by decide, by decide, by decide, by decide +kernel⟩ (by decide +kernel) (by rw [models0]; decide)
  rw [models0] at this
  exact this
theorem SameTimes0 : Summ Tryd.prog GG 31 [.sl 2 (matF T0), .sl 2 (matF T0)] (.v (.bool true)) := SameTimes_s T0 T0 (by decide) (by decide)
theorem SameWay0 : Summ Tryd.prog GG 63 [.sl 4 (celsF W0), .sl 4 (celsF W0)] (.v (.bool true)) := SameWay_s W0 W0 (by decide)
theorem Ranges0 : Summ Tryd.prog GG 82 [.sl 2 (rngsF [⟨2, 2⟩, ⟨5, 5⟩]), .sl 2 (rngsF [⟨2, 2⟩, ⟨5, 5⟩])] (.v (.bool true)) := Ranges_s [⟨2, 2⟩, ⟨5, 5⟩] [⟨2, 2⟩, ⟨5, 5⟩] (by decide)
set_option maxRecDepth 100000 in
theorem awake_s : Summ Tryd.prog GG 15 [] (.v (.bool true)) := by
  refine summW Tryd.func15 rfl rfl 93 rfl (by simp) (fun M0 => ?_)
  repeat (first
    | (apply s_move_f; exact rfl; exact rfl)
    | (apply s_assign_f; exact rfl; exact rfl)
    | (apply s_extract; exact rfl; exact rfl; exact rfl)
    | (apply s_eql; exact rfl; exact rfl; exact rfl)
    | (apply s_build TY; exact rfl; exact rfl; exact rfl; exact rfl; exact rfl)
    | (apply s_bslice TY; exact rfl; exact rfl; exact rfl; exact rfl; exact rfl; exact rfl)
    | (apply s_pickT; exact rfl; exact rfl; (first | exact rfl | assumption); exact rfl)
    | apply w_seq
    | apply w_region
    | apply s_nil
    | apply t_norm
    | apply w_ret
    | (apply s_call (Grid_s); exact rfl; exact rfl; exact rfl; exact rfl)
    | (apply s_call (Class_s); exact rfl; exact rfl; exact rfl; exact rfl)
    | (apply s_call (Hole_s); exact rfl; exact rfl; exact rfl; exact rfl)
    | (apply s_call (TimesFrom0); exact rfl; exact rfl; exact rfl; exact rfl)
    | (apply s_call (WayTo0); exact rfl; exact rfl; exact rfl; exact rfl)
    | (apply s_call (SurvivalOf0); exact rfl; exact rfl; exact rfl; exact rfl)
    | (apply s_call (LatestStart0); exact rfl; exact rfl; exact rfl; exact rfl)
    | (apply s_call (RangesOf0); exact rfl; exact rfl; exact rfl; exact rfl)
    | (apply g_move_f; exact rfl; (first | exact rfl | assumption); exact rfl; exact rfl)
    | (apply g_eql; exact rfl; (first | exact rfl | assumption); exact rfl; exact rfl; exact rfl)
    | (apply g_build TY; exact rfl; (first | exact rfl | assumption); exact rfl; exact rfl; exact rfl; exact rfl; exact rfl)
    | (apply g_bslice TY; exact rfl; (first | exact rfl | assumption); exact rfl; exact rfl; exact rfl; exact rfl; exact rfl; exact rfl)
    | (apply g_call (SameTimes0); exact rfl; (first | exact rfl | assumption); exact rfl; exact rfl; exact rfl; exact rfl)
    | (apply g_call (SameWay0); exact rfl; (first | exact rfl | assumption); exact rfl; exact rfl; exact rfl; exact rfl)
    | (apply g_call (Ranges0); exact rfl; (first | exact rfl | assumption); exact rfl; exact rfl; exact rfl; exact rfl))
  exact lv_ret (ret1 rfl (res_tmp rfl))
end Go.Proofs.YtienhiloecfgnaaDoor
namespace Go.Ab
open Go Go.RowKit Go.Shelf Go.Proofs
section
variable {C : Ctx} {N : Nat}
theorem v_bslice_clip {o : Oper} {st : St} {T len E s bs : Nat} {parts : Array (Nat × Operand)} {zs : List Value} {xs : List (Nat × FV)} {cs : List FV} (ty : Ty C.P) (ho : o.op = .buildSlice T len parts) (hd : dstB N o.dst = true)
    (hT : (ty.ty T).sl = some (E, s, bs)) (hz : (ty.ty E).zero = some zs) (hs : len * s ≤ 16777216) (hp : st.evP C parts.toList = some xs) (hf : fillF (fun i => some (i * s, s)) (initF zs (len * s)) xs = some cs) : ValOp C N o st (.f (.slc len cs)) :=
  valop_run hd fun w0 a w J st' hA S => by
    obtain ⟨q1, q2⟩ := evP_rep (st := st) S (fun x hx => hA.ev x.2 (by simp only [ho, Op.operands]; simp; exact ⟨x.1, by simpa using hx⟩)) hp
    have h1 := (ty.ok E).one zs hz
    obtain ⟨it, z, hi, hzz, hzl⟩ := zero_spec ((ty.ok E).zero zs hz)
    obtain ⟨us, r1, r2, r3⟩ := fill_of (M := Mb C st'.h J) (w := w) (fun i => some (i * s, s)) (parts.toList.map fun p => (p.1, a.eval p.2)) xs (madeCells z.cells (len * s)) (initF zs (len * s)) cs (by rw [← hzl]; exact made_rep _ _) (made_one _ _ (by rw [hzl]; exact h1)) q1 q2 hf
    have hrun := run_buildSlice (w := w) (len := len) (parts := parts.map fun (i, x) => (i, a.eval x)) (us := us) ((ty.ok T).sl _ hT) ((ty.ok E).zero zs hz) hs (fun z' hz' => by
      have e : z'.cells = z.cells := Array.ext' (by rw [hz', hzl])
      rw [e, Array.toList_map]; exact r1)
    refine ⟨_, _, by simp only [execOp, ho, Sem.run_bind]; rw [hrun]; rfl, Ext.alloc _ _, ?_⟩
    have R := r2.ext (Ext.alloc w (.cells us E)) (M' := Mb C st'.h J) (fun _ _ h => h)
    have L := lies_new (w := w) (mb_lt S) us.toList E
    simp only [Array.toArray_toList] at L
    exact RepF.slc _ len cs us.toList R.1 (fun h => by cases h) r3 (fun _ => ⟨_, _, rfl, L⟩) R.2
theorem run_append_no (P : Program) (w : World) (t ty e : TypeId) (i : TypeInfo) (ht : P.underlying t = some (.slice e)) (hi : P.info? e = some i) (base ad : Option Addr) (n c k : Nat) (hn : n ≤ k) :
    (Builtin.append_ #[t, t] ty #[.slice base n k, .slice ad 0 c]).run P w = .ok (.slice base n k) w := by
  cases base <;> cases ad <;> simp [Builtin.append_, run_underlying ht, sizeOf, typeInfo, hi, Builtin.lenOf, Builtin.firstCells, storeCells, hn, loadCells, loadCellsFrom]
theorem v_append_cl {o : Oper} {st : St} {T n m e sz bs : Nat} {x y : Operand} {cs ys : List FV} {zs : List Value} (ty : Ty C.P) (ho : o.op = .call { callee := .builtin .append, args := #[x, y], argTypes := #[T, T] }) (hd : dstB N o.dst = true)
    (hT : (ty.ty T).sl = some (e, sz, bs)) (hz : (ty.ty e).zero = some zs) (hzl : zs.length = sz) (hsz : 0 < sz) (hx : st.ev C x = .f (.slc n cs)) (hy : st.ev C y = .f (.sl m ys)) (hln : cs.length = n * sz) (hl : ys.length = m * sz)
    (h63 : n + m ≤ maxLen) (hbs : (n + m) * bs ≤ 140737488355328) : ValOp C N o st (.f (.sl (n + m) (cs ++ ys))) := by
  by_cases hm : 0 < m
  · exact v_append_clip ty ho hd hT hz hzl hsz hx hy hm hln hl h63 hbs
  have hm0 : m = 0 := by omega
  subst hm0
  have hy0 : ys = [] := List.eq_nil_of_length_eq_zero (by simpa using hl)
  subst hy0
  refine valop_run hd fun w0 a w J st' hA S => ?_
  have e1 := evF S ((hA.ev x (by simp [ho, Op.operands, Call.operands])).trans hx)
  have e2 := evF S ((hA.ev y (by simp [ho, Op.operands, Call.operands])).trans hy)
  obtain ⟨hu, it, hi1, hi2, hi3⟩ := slE_spec ((ty.ok T).sl _ hT)
  generalize hxv : a.eval x = xv at e1
  generalize hyv : a.eval y = yv at e2
  cases e1 with
  | slc ad1 _ _ vs o1 o1' o2 o3 o4 =>
  cases e2 with
  | sl ad _ c _ us p0 p1 p2 p3 p4 =>
    refine ⟨.slice ad1 n n, w, ?_, Ext.refl _, ?_⟩
    · simp only [execOp, ho, resolve, invoke, builtin, Sem.run_bind, Sem.run_pure, Result.andThen_ok, List.map_toArray, List.map_cons, List.map_nil, hxv, hyv, run_append_no C.P w T o.type e it hu hi1 ad1 ad n c n (Nat.le_refl _)]
    · rw [List.append_nil]
      exact RepF.sl ad1 n n cs vs (Nat.le_refl _) o1 o2 o3 o4
variable {Q : Exit → St → Prop} {st : St} {ops : Array Oper} {pr : Bool} {K : St → Prop} {rest : List Oper}
theorem s_bslice_clip (ty : Ty C.P) {d : Option Tmp} {T0 : TypeId} {pos : String} {af : Array Edge} {T len E s bs : Nat} {parts : Array (Nat × Operand)} {zs : List Value} {xs : List (Nat × FV)} {cs : List FV} (hd : dstB N d = true) (hT : (ty.ty T).sl = some (E, s, bs)) (hz : (ty.ty E).zero = some zs) (hs : Nat.ble (len * s) 16777216 = true) (hp : st.evP C parts.toList = some xs) (hf : fillF (fun i => some (i * s, s)) (initF zs (len * s)) xs = some cs) (h : R C N ops pr K rest (st.put d (.f (.slc len cs)))) : R C N ops pr K (⟨d, .buildSlice T len parts, T0, pos, af, none⟩ :: rest) st := ⟨r_val rfl (v_bslice_clip ty rfl hd hT hz (Nat.le_of_ble_eq_true hs) hp hf) h.out⟩
theorem s_append_cl (ty : Ty C.P) {d : Option Tmp} {T0 : TypeId} {pos : String} {af : Array Edge} {T n m e sz bs : Nat} {x y : Operand} {cs ys : List FV} {zs : List Value} (hd : dstB N d = true) (hT : (ty.ty T).sl = some (e, sz, bs)) (hz : (ty.ty e).zero = some zs) (hzl : zs.length = sz) (hsz : Nat.blt 0 sz = true) (hx : st.ev C x = .f (.slc n cs)) (hy : st.ev C y = .f (.sl m ys)) (hln : cs.length = n * sz) (hl : ys.length = m * sz) (h63 : n + m ≤ maxLen) (hbs : (n + m) * bs ≤ 140737488355328) (h : R C N ops pr K rest (st.put d (.f (.sl (n + m) (cs ++ ys))))) : R C N ops pr K (⟨d, .call { callee := .builtin .append, args := #[x, y], argTypes := #[T, T] }, T0, pos, af, none⟩ :: rest) st := ⟨r_val rfl (v_append_cl ty rfl hd hT hz hzl (Nat.le_of_ble_eq_true hsz) hx hy hln hl h63 hbs) h.out⟩
theorem s_append_copy (ty : Ty C.P) {d : Option Tmp} {T0 : TypeId} {pos : String} {af : Array Edge} {T m e sz bs : Nat} {x y : Operand} {ys : List FV} {zs : List Value} (hd : dstB N d = true) (hT : (ty.ty T).sl = some (e, sz, bs)) (hz : (ty.ty e).zero = some zs) (hzl : zs.length = sz) (hsz : Nat.blt 0 sz = true) (hx : st.ev C x = .f (.slc 0 [])) (hy : st.ev C y = .f (.sl m ys)) (hl : ys.length = m * sz) (h63 : m ≤ maxLen) (hbs : m * bs ≤ 140737488355328) (h : R C N ops pr K rest (st.put d (.f (.sl m ys)))) : R C N ops pr K (⟨d, .call { callee := .builtin .append, args := #[x, y], argTypes := #[T, T] }, T0, pos, af, none⟩ :: rest) st := by
  refine s_append_cl ty hd hT hz hzl hsz hx hy (by simp) hl (by omega) (by rw [Nat.zero_add]; exact hbs) ?_
  rw [Nat.zero_add]; exact h
end
end Go.Ab
namespace Go.Proofs.YtienhiloecfgnaaDoor
open Go Go.RowKit Go.Proofs Go.Shelf Go.Ab
def bv (b : Bool) : FV := .v (.bool b)
theorem avb {a b : Bool} (h : a = b) : AV.f (bv a) = AV.f (bv b) := by rw [h]
theorem avi {a b : Int} (h : a = b) : AV.f (iv a) = AV.f (iv b) := by rw [h]
theorem Within_s (n lo hi : Int) : Summ Tryd.prog GG 46 [iv n, iv lo, iv hi] (bv (withinB n lo hi)) := by
  refine summW Tryd.func46 rfl rfl 15 rfl (by simp) (fun M0 => ?_)
  by_cases h1 : lo ≤ n
  · have hc : decide (lo ≤ n) = true := by simpa using h1
    repeat (first
    | (apply s_move_f; exact rfl; exact rfl)
    | (apply s_assign_f; exact rfl; exact rfl)
    | (apply s_leq; exact rfl; exact rfl; exact rfl)
    | (apply s_pickT; exact rfl; exact rfl; (first | exact rfl | assumption); exact rfl)
    | apply w_seq
    | apply w_region
    | apply s_nil
    | apply t_norm
    | apply w_ret
    | (apply g_move_f; exact rfl; (first | exact rfl | assumption); exact rfl; exact rfl)
    | (apply g_leq; exact rfl; (first | exact rfl | assumption); exact rfl; exact rfl; exact rfl))
    exact lv_ret (ret1 rfl (res_tmp (avb (by unfold withinB; rw [hc]; rfl))))
  · have hc : decide (lo ≤ n) = false := by simpa using h1
    repeat (first
    | (apply s_move_f; exact rfl; exact rfl)
    | (apply s_assign_f; exact rfl; exact rfl)
    | (apply s_leq; exact rfl; exact rfl; exact rfl)
    | (apply s_pickF; exact rfl; exact rfl; (first | exact rfl | assumption); exact rfl)
    | apply w_seq
    | apply w_region
    | apply s_nil
    | apply t_norm
    | apply w_ret
    | (apply g_skip; exact rfl; (first | exact rfl | assumption); exact rfl))
    exact lv_ret (ret1 rfl (res_tmp (avb (by unfold withinB; rw [hc]; rfl))))
def fewB (x : Grid) : Bool := decide ((x.layers.length : Int) ≤ 8) && decide ((x.tilt.length : Int) ≤ 10)
theorem fewB_true {x : Grid} (h : fewB x = true) : x.layers.length ≤ 8 ∧ x.tilt.length ≤ 10 := by
  unfold fewB at h
  simp only [Bool.and_eq_true, decide_eq_true_eq] at h
  omega
theorem Few_s (x : Grid) : Summ Tryd.prog GG 16 [gridF x] (bv (fewB x)) := by
  refine summW Tryd.func16 rfl rfl 13 rfl (by simp) (fun M0 => ?_)
  by_cases h1 : (x.layers.length : Int) ≤ 8
  · have hc : decide ((x.layers.length : Int) ≤ 8) = true := by simpa using h1
    repeat (first
    | (apply s_move_f; exact rfl; exact rfl)
    | (apply s_assign_f; exact rfl; exact rfl)
    | (apply s_fld_pt TY; exact rfl; exact rfl; exact rfl)
    | (apply s_load_pt TY; exact rfl; exact rfl; exact rfl; (first | exact rfl | assumption))
    | (apply s_len TY; exact rfl; exact rfl; exact rfl)
    | (apply s_box; exact rfl; exact rfl; exact rfl)
    | (apply s_leq; exact rfl; exact rfl; exact rfl)
    | (apply s_pickT; exact rfl; exact rfl; (first | exact rfl | assumption); exact rfl)
    | apply w_seq
    | apply w_region
    | apply s_nil
    | apply t_norm
    | apply w_ret
    | (apply g_fld_pt TY; exact rfl; (first | exact rfl | assumption); exact rfl; exact rfl; exact rfl)
    | (apply g_load_pt TY; exact rfl; (first | exact rfl | assumption); exact rfl; exact rfl; exact rfl; (first | exact rfl | assumption))
    | (apply g_len TY; exact rfl; (first | exact rfl | assumption); exact rfl; exact rfl; exact rfl)
    | (apply g_leq; exact rfl; (first | exact rfl | assumption); exact rfl; exact rfl; exact rfl))
    exact lv_ret (ret1 rfl (res_tmp (avb (by unfold fewB; rw [hc]; rfl))))
  · have hc : decide ((x.layers.length : Int) ≤ 8) = false := by simpa using h1
    repeat (first
    | (apply s_move_f; exact rfl; exact rfl)
    | (apply s_assign_f; exact rfl; exact rfl)
    | (apply s_fld_pt TY; exact rfl; exact rfl; exact rfl)
    | (apply s_load_pt TY; exact rfl; exact rfl; exact rfl; (first | exact rfl | assumption))
    | (apply s_len TY; exact rfl; exact rfl; exact rfl)
    | (apply s_box; exact rfl; exact rfl; exact rfl)
    | (apply s_leq; exact rfl; exact rfl; exact rfl)
    | (apply s_pickF; exact rfl; exact rfl; (first | exact rfl | assumption); exact rfl)
    | apply w_seq
    | apply w_region
    | apply s_nil
    | apply t_norm
    | apply w_ret
    | (apply g_skip; exact rfl; (first | exact rfl | assumption); exact rfl))
    exact lv_ret (ret1 rfl (res_tmp (avb (by unfold fewB; rw [hc]; rfl))))
theorem intsF_len (l : List Int) : (intsF l).length = l.length * 1 := by simp [intsF]
theorem laysF_len (l : List Layer) : (laysF l).length = l.length * 3 := by
  induction l with
  | nil => rfl
  | cons y l ih => simp only [laysF, List.flatMap_cons, List.length_append, List.length_cons] at *; rw [ih]; simp [layF]; omega
theorem CopyInts_s (l : List Int) (hl : l.length ≤ 1000000) : Summ Tryd.prog GG 38 [.sl l.length (intsF l)] (.sl l.length (intsF l)) := by
  have h1 := intsF_len l
  refine summW Tryd.func38 rfl rfl 6 rfl (by simp) (fun M0 => ?_)
  repeat (first
    | (apply s_bslice_clip TY; exact rfl; exact rfl; exact rfl; exact rfl; exact rfl; exact rfl)
    | (apply s_append_copy TY; exact rfl; exact rfl; exact rfl; exact rfl; exact rfl; exact rfl; exact rfl; assumption; (unfold maxLen; omega); omega)
    | (apply s_move_f; exact rfl; exact rfl)
    | (apply s_assign_f; exact rfl; exact rfl)
    | apply w_seq
    | apply w_region
    | apply s_nil
    | apply t_norm
    | apply w_ret)
  exact lv_ret (ret1 rfl (res_tmp rfl))
set_option maxRecDepth 100000 in
theorem CopyIce_s (x : Grid) (hl : x.layers.length ≤ 1000000) (ht : x.tilt.length ≤ 1000000) : Summ Tryd.prog GG 20 [gridF x] (gridF x) := by
  have h1 := intsF_len x.tilt
  have h2 := laysF_len x.layers
  refine summW Tryd.func20 rfl rfl 13 rfl (by simp) (fun M0 => ?_)
  repeat (first
    | (apply s_boxw; exact rfl; exact rfl; exact rfl; exact rfl)
    | apply w_seq
    | apply w_region
    | apply s_nil
    | apply t_norm
    | (apply s_alloc TY; exact rfl; exact rfl; exact rfl))
  apply w_draw 8 rfl (by kernel_rfl)
  repeat (first
    | (apply s_bslice_clip TY; exact rfl; exact rfl; exact rfl; exact rfl; exact rfl; exact rfl)
    | (apply s_append_copy TY; exact rfl; exact rfl; exact rfl; exact rfl; exact rfl; exact rfl; exact rfl; assumption; (unfold maxLen; omega); omega)
    | (apply s_fld_bx TY; exact rfl; exact rfl; exact rfl)
    | (apply s_load_bx_f TY; exact rfl; exact rfl; exact rfl; exact rfl; exact rfl)
    | (apply s_load_bxs TY; exact rfl; exact rfl; exact rfl; exact rfl; exact rfl; exact rfl)
    | apply w_seq
    | apply w_region
    | apply s_nil
    | apply t_norm
    | apply w_ret
    | (apply s_call (CopyInts_s x.tilt ht); exact rfl; exact rfl; exact rfl; exact rfl)
    | (apply s_store TY; exact rfl; exact rfl; exact rfl; exact rfl; exact rfl; exact rfl))
  exact lv_ret (ret1 rfl (res_bxs (sub := gridL x) TY rfl rfl rfl rfl rfl))
set_option maxRecDepth 100000 in
theorem CellErr_s (x : Grid) (c : Cel) (v : Valid x) : Summ Tryd.prog GG 18 [gridF x, .agg (celF c)] (iv (cellErrE x c)) := by
  have r1 := v.r1
  have r12 := v.r12
  have t8 := v.t8
  have hw : wrap64 (x.rows - 1) = x.rows - 1 := by unfold wrap64; omega
  refine summW Tryd.func18 rfl rfl 22 rfl (by simp) (fun M0 => ?_)
  by_cases h1 : withinB c.col 0 ((x.tilt.length : Int) - 1) = true
  · have hc : (!withinB c.col 0 ((x.tilt.length : Int) - 1)) = false := by rw [h1]; rfl
    by_cases h2 : withinB c.row 0 (x.rows - 1) = true
    · have hd : (!withinB c.row 0 (x.rows - 1)) = false := by rw [h2]; rfl
      repeat (first
    | (apply s_move_f; exact rfl; exact rfl)
    | (apply s_assign_f; exact rfl; exact rfl)
    | (apply s_fld_pt TY; exact rfl; exact rfl; exact rfl)
    | (apply s_load_pt TY; exact rfl; exact rfl; exact rfl; (first | exact rfl | assumption))
    | (apply s_len TY; exact rfl; exact rfl; exact rfl)
    | (apply s_box; exact rfl; exact rfl; exact rfl)
    | (apply s_not; exact rfl; exact rfl)
    | (apply s_pickF; exact rfl; exact rfl; (first | exact rfl | assumption); exact rfl)
    | apply w_seq
    | apply w_region
    | apply s_nil
    | apply t_norm
    | apply w_ret
    | apply w_skip
    | (apply s_call (Within_s _ _ _); exact rfl; exact rfl; exact rfl; exact rfl)
    | (apply s_sub; exact rfl; exact rfl; exact rfl; (omega))
    | (apply g_fld_pt TY; exact rfl; (first | exact rfl | assumption); exact rfl; exact rfl; exact rfl)
    | (apply g_load_pt TY; exact rfl; (first | exact rfl | assumption); exact rfl; exact rfl; exact rfl; (first | exact rfl | assumption))
    | (apply g_not; exact rfl; (first | exact rfl | assumption); exact rfl; exact rfl)
    | (apply g_call (Within_s _ _ _); exact rfl; (first | exact rfl | assumption); exact rfl; exact rfl; exact rfl; exact rfl)
    | (apply g_sub; exact rfl; (first | exact rfl | assumption); exact rfl; exact rfl; exact rfl; (omega))
    | (apply w_condF; exact rfl; (first | exact rfl | assumption)))
      exact lv_ret (ret1 rfl (res_tmp (avi (by unfold cellErrE cellB; rw [hw, h1, h2]; rfl))))
    · have h2 := Bool.eq_false_iff.2 h2
      have hd : (!withinB c.row 0 (x.rows - 1)) = true := by rw [h2]; rfl
      repeat (first
    | (apply s_move_f; exact rfl; exact rfl)
    | (apply s_assign_f; exact rfl; exact rfl)
    | (apply s_fld_pt TY; exact rfl; exact rfl; exact rfl)
    | (apply s_load_pt TY; exact rfl; exact rfl; exact rfl; (first | exact rfl | assumption))
    | (apply s_len TY; exact rfl; exact rfl; exact rfl)
    | (apply s_box; exact rfl; exact rfl; exact rfl)
    | (apply s_not; exact rfl; exact rfl)
    | (apply s_pickF; exact rfl; exact rfl; (first | exact rfl | assumption); exact rfl)
    | apply w_seq
    | apply w_region
    | apply s_nil
    | apply t_norm
    | apply t_ret
    | apply w_ret
    | (apply s_call (Within_s _ _ _); exact rfl; exact rfl; exact rfl; exact rfl)
    | (apply s_sub; exact rfl; exact rfl; exact rfl; (omega))
    | (apply g_fld_pt TY; exact rfl; (first | exact rfl | assumption); exact rfl; exact rfl; exact rfl)
    | (apply g_load_pt TY; exact rfl; (first | exact rfl | assumption); exact rfl; exact rfl; exact rfl; (first | exact rfl | assumption))
    | (apply g_not; exact rfl; (first | exact rfl | assumption); exact rfl; exact rfl)
    | (apply g_call (Within_s _ _ _); exact rfl; (first | exact rfl | assumption); exact rfl; exact rfl; exact rfl; exact rfl)
    | (apply g_sub; exact rfl; (first | exact rfl | assumption); exact rfl; exact rfl; exact rfl; (omega))
    | (apply w_condT; exact rfl; (first | exact rfl | assumption)))
      exact lv_ret (ret1 rfl (res_tmp (avi (by unfold cellErrE cellB; rw [hw, h1, h2]; rfl))))
  · have h1 := Bool.eq_false_iff.2 h1
    have hc : (!withinB c.col 0 ((x.tilt.length : Int) - 1)) = true := by rw [h1]; rfl
    repeat (first
    | (apply s_move_f; exact rfl; exact rfl)
    | (apply s_assign_f; exact rfl; exact rfl)
    | (apply s_fld_pt TY; exact rfl; exact rfl; exact rfl)
    | (apply s_load_pt TY; exact rfl; exact rfl; exact rfl; (first | exact rfl | assumption))
    | (apply s_len TY; exact rfl; exact rfl; exact rfl)
    | (apply s_box; exact rfl; exact rfl; exact rfl)
    | (apply s_not; exact rfl; exact rfl)
    | (apply s_pickT; exact rfl; exact rfl; (first | exact rfl | assumption); exact rfl)
    | apply w_seq
    | apply w_region
    | apply s_nil
    | apply t_norm
    | apply t_ret
    | apply w_ret
    | (apply s_call (Within_s _ _ _); exact rfl; exact rfl; exact rfl; exact rfl)
    | (apply s_sub; exact rfl; exact rfl; exact rfl; (omega))
    | (apply g_skip; exact rfl; (first | exact rfl | assumption); exact rfl)
    | (apply w_condT; exact rfl; (first | exact rfl | assumption)))
    exact lv_ret (ret1 rfl (res_tmp (avi (by unfold cellErrE cellB; rw [h1]; rfl))))
set_option maxRecDepth 100000 in
theorem Layer_s (x : Grid) (c : Cel) (v : Valid x) (hc : InG x c) : Summ Tryd.prog GG 36 [gridF x, .agg (celF c)] (iv (layerI x c)) := by
  have l6 := v.l6
  have t8 := v.t8
  have r12 := v.r12
  obtain ⟨⟨c0, c1⟩, d0, d1⟩ := hc
  have hk : c.col.toNat < x.tilt.length := by omega
  have hn : intsF x.tilt ≠ [] := map_ne hk
  have hg : (intsF x.tilt)[c.col.toNat * 1]? = some (iv x.tilt[c.col.toNat]) := map_at hk
  have hb := v.til _ (List.getElem_mem hk)
  refine summW Tryd.func36 rfl rfl 20 rfl (by simp) (fun M0 => ?_)
  repeat (first
    | (apply s_assign_f; exact rfl; exact rfl)
    | (apply s_box; exact rfl; exact rfl; exact rfl)
    | apply w_seq
    | apply w_region
    | apply s_nil
    | apply t_norm)
  apply w_draw 16 rfl (by kernel_rfl)
  repeat (first
    | (apply s_assign_f; exact rfl; exact rfl)
    | (apply s_fld_pt TY; exact rfl; exact rfl; exact rfl)
    | (apply s_load_pt TY; exact rfl; exact rfl; exact rfl; (first | exact rfl | assumption))
    | (apply s_len TY; exact rfl; exact rfl; exact rfl)
    | (apply s_min; exact rfl; exact rfl; exact rfl)
    | (apply s_max; exact rfl; exact rfl; exact rfl)
    | apply s_nil
    | apply t_norm
    | apply w_ret
    | (apply s_sub; exact rfl; exact rfl; exact rfl; (omega))
    | (apply s_idx TY; exact rfl; exact rfl; exact rfl; exact rfl; omega; omega; assumption))
  exact lv_ret (ret1 rfl (res_tmp (avi (by unfold layerI; rw [List.getD_eq_getElem?_getD, List.getElem?_eq_getElem hk, Option.getD_some]; omega))))
end Go.Proofs.YtienhiloecfgnaaDoor
namespace Go.Proofs.YtienhiloecfgnaaDoor
open Go Go.RowKit Go.Proofs Go.Shelf Go.Ab
theorem ck_none {x : Grid} (h : x.layers.length = 0) : checkIce x = (0, 10) := by
  have e : iceE1 x = 10 := by unfold iceE1; rw [h]; rfl
  unfold checkIce; rw [e]; rfl
theorem ck_many {x : Grid} (h : 6 < x.layers.length) : checkIce x = (0, 8) := by
  have e : iceE1 x = 8 := by
    unfold iceE1 unlessE
    rw [if_pos (by simpa using (by omega : 0 < x.layers.length)), if_neg (by simpa using (by omega : (6 : Int) < x.layers.length))]; rfl
  unfold checkIce; rw [e]; rfl
theorem ck_e1 {x : Grid} (h : 0 < x.layers.length) (h2 : x.layers.length ≤ 6) : (iceE1 x != 0) = false := by
  have e : iceE1 x = 0 := by
    unfold iceE1 unlessE
    rw [if_pos (by simpa using h), if_pos (by simpa using (by omega : (x.layers.length : Int) ≤ 6))]; rfl
  rw [e]; rfl
theorem ck_layer {x : Grid} (h : 0 < x.layers.length) (h2 : x.layers.length ≤ 6) {k : Nat} (hk : k < x.layers.length) (hb : layerOk x.layers[k] = false) (hf : ∀ j, (h : j < x.layers.length) → j < k → layerOk x.layers[j] = true) : checkIce x = ((k : Int), 2) := by
  have e : iceI1 x = k := by
    unfold iceI1
    rw [findIdx_some (p := fun l => !layerOk l) hk (by simp [hb]) (fun j h hj => by simp [hf j h hj])]; rfl
  unfold checkIce
  rw [ck_e1 h h2, if_neg (by decide), e, if_pos (by omega)]
structure LayOk (x : Grid) : Prop where
  h : 0 < x.layers.length
  h2 : x.layers.length ≤ 6
  all : ∀ j, (h : j < x.layers.length) → layerOk x.layers[j] = true
theorem ck_i1 {x : Grid} (L : LayOk x) : ¬ 0 ≤ iceI1 x := by
  have : iceI1 x = -1 := by
    unfold iceI1
    rw [List.findIdx?_eq_none_iff.2 (fun y hy => by
      obtain ⟨j, hj, rfl⟩ := List.getElem_of_mem hy
      simp [L.all j hj])]; rfl
  rw [this]; decide
theorem ck_rows {x : Grid} (L : LayOk x) (h : withinB x.rows 1 12 = false) : checkIce x = (0, 2) := by
  have e : iceE2 x = 2 := by unfold iceE2; rw [h]; rfl
  unfold checkIce
  rw [ck_e1 L.h L.h2, if_neg (by decide), if_neg (ck_i1 L), e]; rfl
theorem ck_tilt0 {x : Grid} (L : LayOk x) (h : withinB x.rows 1 12 = true) (h0 : x.tilt.length = 0) : checkIce x = (0, 10) := by
  have e : iceE2 x = 10 := by unfold iceE2; rw [h, h0]; rfl
  unfold checkIce
  rw [ck_e1 L.h L.h2, if_neg (by decide), if_neg (ck_i1 L), e]; rfl
theorem ck_tilt8 {x : Grid} (L : LayOk x) (h : withinB x.rows 1 12 = true) (h0 : 8 < x.tilt.length) : checkIce x = (0, 8) := by
  have e : iceE2 x = 8 := by
    unfold iceE2
    rw [h]
    unfold unlessE
    rw [if_pos rfl, if_pos (by simpa using (by omega : 0 < x.tilt.length)), if_neg (by simpa using (by omega : (8 : Int) < x.tilt.length))]; rfl
  unfold checkIce
  rw [ck_e1 L.h L.h2, if_neg (by decide), if_neg (ck_i1 L), e]; rfl
theorem ck_e2 {x : Grid} (h : withinB x.rows 1 12 = true) (h0 : 0 < x.tilt.length) (h8 : x.tilt.length ≤ 8) : (iceE2 x != 0) = false := by
  have e : iceE2 x = 0 := by
    unfold iceE2
    rw [h]
    unfold unlessE
    rw [if_pos rfl, if_pos (by simpa using h0), if_pos (by simpa using (by omega : (x.tilt.length : Int) ≤ 8))]; rfl
  rw [e]; rfl
theorem ck_tilt {x : Grid} (L : LayOk x) (h : withinB x.rows 1 12 = true) (h0 : 0 < x.tilt.length) (h8 : x.tilt.length ≤ 8) {k : Nat} (hk : k < x.tilt.length) (hb : withinB x.tilt[k] (-12) 12 = false) (hf : ∀ j, (h : j < x.tilt.length) → j < k → withinB x.tilt[j] (-12) 12 = true) : checkIce x = ((k : Int), 2) := by
  have e : iceI2 x = k := by
    unfold iceI2
    rw [findIdx_some (p := fun n => !withinB n (-12) 12) hk (by simp [hb]) (fun j h hj => by simp [hf j h hj])]; rfl
  unfold checkIce
  rw [ck_e1 L.h L.h2, if_neg (by decide), if_neg (ck_i1 L), ck_e2 h h0 h8, if_neg (by decide), e, if_pos (by omega)]
theorem ck_ok {x : Grid} (L : LayOk x) (h : withinB x.rows 1 12 = true) (h0 : 0 < x.tilt.length) (h8 : x.tilt.length ≤ 8) (hf : ∀ j, (h : j < x.tilt.length) → withinB x.tilt[j] (-12) 12 = true) : checkIce x = (0, 0) := by
  have e : iceI2 x = -1 := by
    unfold iceI2
    rw [List.findIdx?_eq_none_iff.2 (fun y hy => by
      obtain ⟨j, hj, rfl⟩ := List.getElem_of_mem hy
      simp [hf j hj])]; rfl
  unfold checkIce
  rw [ck_e1 L.h L.h2, if_neg (by decide), if_neg (ck_i1 L), ck_e2 h h0 h8, if_neg (by decide), e, if_neg (by decide)]
theorem av1 {p q : Int × Int} (h : p = q) : AV.f (iv q.1) = AV.f (iv p.1) := by rw [h]
theorem av2 {p q : Int × Int} (h : p = q) : AV.f (iv q.2) = AV.f (iv p.2) := by rw [h]
set_option maxRecDepth 100000 in
set_option maxHeartbeats 1000000 in
theorem refCheckIce_s (x : Grid) : Summ Tryd.prog GG 35 [gridF x] (.tup [iv (checkIce x).1, iv (checkIce x).2]) := by
  refine summW Tryd.func35 rfl rfl 71 rfl (by simp) (fun M0 => ?_)
  by_cases h0 : x.layers.length = 0
  · have hc : decide ((x.layers.length : Int) = 0) = true := by simpa using h0
    repeat (first
    | (apply s_assign_f; exact rfl; exact rfl)
    | (apply s_fld_pt TY; exact rfl; exact rfl; exact rfl)
    | (apply s_load_pt TY; exact rfl; exact rfl; exact rfl; (first | exact rfl | assumption))
    | (apply s_len TY; exact rfl; exact rfl; exact rfl)
    | (apply s_box; exact rfl; exact rfl; exact rfl)
    | (apply s_eql; exact rfl; exact rfl; exact rfl)
    | apply w_seq
    | apply w_region
    | apply s_nil
    | apply t_norm
    | apply t_ret
    | apply w_ret
    | (apply w_condT; exact rfl; (first | exact rfl | assumption)))
    have e := ck_none h0
    exact lv_ret (ret2 rfl (res_tmp (av1 e)) (res_tmp (av2 e)))
  have hc : decide ((x.layers.length : Int) = 0) = false := by simpa using h0
  by_cases h6 : 6 < x.layers.length
  · have hd : decide ((6 : Int) < x.layers.length) = true := decide_eq_true (by omega)
    repeat (first
    | (apply s_assign_f; exact rfl; exact rfl)
    | (apply s_fld_pt TY; exact rfl; exact rfl; exact rfl)
    | (apply s_load_pt TY; exact rfl; exact rfl; exact rfl; (first | exact rfl | assumption))
    | (apply s_len TY; exact rfl; exact rfl; exact rfl)
    | (apply s_box; exact rfl; exact rfl; exact rfl)
    | (apply s_gtr; exact rfl; exact rfl; exact rfl)
    | (apply s_eql; exact rfl; exact rfl; exact rfl)
    | apply w_seq
    | apply w_region
    | apply s_nil
    | apply t_norm
    | apply t_ret
    | apply w_ret
    | apply w_skip
    | (apply w_condT; exact rfl; (first | exact rfl | assumption))
    | (apply w_condF; exact rfl; (first | exact rfl | assumption)))
    have e := ck_many h6
    exact lv_ret (ret2 rfl (res_tmp (av1 e)) (res_tmp (av2 e)))
  have hd : decide ((6 : Int) < x.layers.length) = false := decide_eq_false (by omega)
  repeat (first
    | (apply s_assign_f; exact rfl; exact rfl)
    | (apply s_fld_pt TY; exact rfl; exact rfl; exact rfl)
    | (apply s_load_pt TY; exact rfl; exact rfl; exact rfl; (first | exact rfl | assumption))
    | (apply s_len TY; exact rfl; exact rfl; exact rfl)
    | (apply s_box; exact rfl; exact rfl; exact rfl)
    | (apply s_gtr; exact rfl; exact rfl; exact rfl)
    | (apply s_eql; exact rfl; exact rfl; exact rfl)
    | apply w_seq
    | apply w_region
    | apply s_nil
    | apply t_norm
    | apply w_block
    | apply w_skip
    | (apply w_condF; exact rfl; (first | exact rfl | assumption)))
  apply w_loop (fun k : Nat => ⟨(Ab.upd (Ab.upd (Ab.upd (Ab.upd (fun _ => .bot) 1 (.f (.pt (gridL x) 0))) 2 (.f (iv 0))) 3 (.f (iv 0))) 4 (.f (iv (k : Nat)))), (fun _ => none), 0⟩) (fun k => k ≤ x.layers.length ∧ ∀ j, (h : j < x.layers.length) → j < k → layerOk x.layers[j] = true) (fun k => x.layers.length - k) 0 ⟨Nat.zero_le _, fun j _ h => absurd h (Nat.not_lt_zero j)⟩ (gh_le ⟨le_upd rfl trivial (le_upd rfl trivial (le_upd rfl trivial (le_upd rfl trivial (le_nil _)))), le_h0 _ _⟩)
  intro k ⟨hk, hall⟩
  by_cases hkc : k < x.layers.length
  · have hcc : decide ((k : Int) < (x.layers.length : Int)) = true := by simpa using hkc
    have hsub : ((laysF x.layers).drop (k * 3)).take 3 = layF x.layers[k] := flat_sub (f := layF) (fun _ => rfl) hkc
    have hne : laysF x.layers ≠ [] := flat_ne (f := layF) (s := 3) (fun _ => rfl) (by decide) hkc
    cases w1 : withinB x.layers[k].delay 1 1000 with
    | false =>
      have g1 : (!withinB x.layers[k].delay 1 1000) = true := by rw [w1]; rfl
      repeat (first
    | (apply s_move_f; exact rfl; exact rfl)
    | (apply s_assign_f; exact rfl; exact rfl)
    | (apply s_fld_pt TY; exact rfl; exact rfl; exact rfl)
    | (apply s_load_pt TY; exact rfl; exact rfl; exact rfl; (first | exact rfl | assumption))
    | (apply s_load_pts TY; exact rfl; exact rfl; exact rfl; (first | assumption | exact rfl); exact rfl)
    | (apply s_len TY; exact rfl; exact rfl; exact rfl)
    | (apply s_not; exact rfl; exact rfl)
    | (apply s_lss; exact rfl; exact rfl; exact rfl)
    | (apply s_fld_bx TY; exact rfl; exact rfl; exact rfl)
    | (apply s_load_bx_f TY; exact rfl; exact rfl; exact rfl; exact rfl; exact rfl)
    | (apply s_pickT; exact rfl; exact rfl; (first | exact rfl | assumption); exact rfl)
    | apply w_seq
    | apply w_region
    | apply s_nil
    | apply t_norm
    | apply t_ret
    | apply k_ret
    | apply w_block
    | apply w_ret
    | apply w_skip
    | (apply s_call (Within_s _ _ _); exact rfl; exact rfl; exact rfl; exact rfl)
    | (apply g_skip; exact rfl; (first | exact rfl | assumption); exact rfl)
    | (apply s_idxN TY; exact rfl; exact rfl; exact rfl; exact rfl; assumption; assumption)
    | (apply s_alloc TY; exact rfl; exact rfl; exact rfl)
    | (apply s_store TY; exact rfl; exact rfl; exact rfl; exact rfl; exact rfl; exact rfl)
    | (apply w_condT; exact rfl; (first | exact rfl | assumption)))
      have e := ck_layer (by omega) (by omega) hkc (by unfold layerOk; rw [w1]; rfl) hall
      exact lv_ret (ret2 rfl (res_tmp (av1 e)) (res_tmp (av2 e)))
    | true =>
      have g1 : (!withinB x.layers[k].delay 1 1000) = false := by rw [w1]; rfl
      cases w2 : withinB x.layers[k].loss 0 1000 with
      | false =>
        have g2 : (!withinB x.layers[k].loss 0 1000) = true := by rw [w2]; rfl
        repeat (first
    | (apply s_move_f; exact rfl; exact rfl)
    | (apply s_assign_f; exact rfl; exact rfl)
    | (apply s_fld_pt TY; exact rfl; exact rfl; exact rfl)
    | (apply s_load_pt TY; exact rfl; exact rfl; exact rfl; (first | exact rfl | assumption))
    | (apply s_load_pts TY; exact rfl; exact rfl; exact rfl; (first | assumption | exact rfl); exact rfl)
    | (apply s_len TY; exact rfl; exact rfl; exact rfl)
    | (apply s_not; exact rfl; exact rfl)
    | (apply s_lss; exact rfl; exact rfl; exact rfl)
    | (apply s_fld_bx TY; exact rfl; exact rfl; exact rfl)
    | (apply s_load_bx_f TY; exact rfl; exact rfl; exact rfl; exact rfl; exact rfl)
    | (apply s_pickT; exact rfl; exact rfl; (first | exact rfl | assumption); exact rfl)
    | (apply s_pickF; exact rfl; exact rfl; (first | exact rfl | assumption); exact rfl)
    | apply w_seq
    | apply w_region
    | apply s_nil
    | apply t_norm
    | apply t_ret
    | apply k_ret
    | apply w_block
    | apply w_ret
    | apply w_skip
    | (apply s_call (Within_s _ _ _); exact rfl; exact rfl; exact rfl; exact rfl)
    | (apply g_skip; exact rfl; (first | exact rfl | assumption); exact rfl)
    | (apply g_not; exact rfl; (first | exact rfl | assumption); exact rfl; exact rfl)
    | (apply g_fld_bx TY; exact rfl; (first | exact rfl | assumption); exact rfl; exact rfl; exact rfl)
    | (apply g_load_bx_f TY; exact rfl; (first | exact rfl | assumption); exact rfl; exact rfl; exact rfl; exact rfl; exact rfl)
    | (apply g_call (Within_s _ _ _); exact rfl; (first | exact rfl | assumption); exact rfl; exact rfl; exact rfl; exact rfl)
    | (apply s_idxN TY; exact rfl; exact rfl; exact rfl; exact rfl; assumption; assumption)
    | (apply s_alloc TY; exact rfl; exact rfl; exact rfl)
    | (apply s_store TY; exact rfl; exact rfl; exact rfl; exact rfl; exact rfl; exact rfl)
    | (apply w_condT; exact rfl; (first | exact rfl | assumption)))
        have e := ck_layer (by omega) (by omega) hkc (by unfold layerOk; rw [w1, w2]; rfl) hall
        exact lv_ret (ret2 rfl (res_tmp (av1 e)) (res_tmp (av2 e)))
      | true =>
        have g2 : (!withinB x.layers[k].loss 0 1000) = false := by rw [w2]; rfl
        cases w3 : withinB x.layers[k].scatter 0 1000 with
        | false =>
          have g3 : (!withinB x.layers[k].scatter 0 1000) = true := by rw [w3]; rfl
          repeat (first
    | (apply s_move_f; exact rfl; exact rfl)
    | (apply s_assign_f; exact rfl; exact rfl)
    | (apply s_fld_pt TY; exact rfl; exact rfl; exact rfl)
    | (apply s_load_pt TY; exact rfl; exact rfl; exact rfl; (first | exact rfl | assumption))
    | (apply s_load_pts TY; exact rfl; exact rfl; exact rfl; (first | assumption | exact rfl); exact rfl)
    | (apply s_len TY; exact rfl; exact rfl; exact rfl)
    | (apply s_not; exact rfl; exact rfl)
    | (apply s_lss; exact rfl; exact rfl; exact rfl)
    | (apply s_fld_bx TY; exact rfl; exact rfl; exact rfl)
    | (apply s_load_bx_f TY; exact rfl; exact rfl; exact rfl; exact rfl; exact rfl)
    | (apply s_pickF; exact rfl; exact rfl; (first | exact rfl | assumption); exact rfl)
    | apply w_seq
    | apply w_region
    | apply s_nil
    | apply t_norm
    | apply t_ret
    | apply k_ret
    | apply w_block
    | apply w_ret
    | apply w_skip
    | (apply s_call (Within_s _ _ _); exact rfl; exact rfl; exact rfl; exact rfl)
    | (apply g_not; exact rfl; (first | exact rfl | assumption); exact rfl; exact rfl)
    | (apply g_fld_bx TY; exact rfl; (first | exact rfl | assumption); exact rfl; exact rfl; exact rfl)
    | (apply g_load_bx_f TY; exact rfl; (first | exact rfl | assumption); exact rfl; exact rfl; exact rfl; exact rfl; exact rfl)
    | (apply g_call (Within_s _ _ _); exact rfl; (first | exact rfl | assumption); exact rfl; exact rfl; exact rfl; exact rfl)
    | (apply s_idxN TY; exact rfl; exact rfl; exact rfl; exact rfl; assumption; assumption)
    | (apply s_alloc TY; exact rfl; exact rfl; exact rfl)
    | (apply s_store TY; exact rfl; exact rfl; exact rfl; exact rfl; exact rfl; exact rfl)
    | (apply w_condT; exact rfl; (first | exact rfl | assumption)))
          have e := ck_layer (by omega) (by omega) hkc (by unfold layerOk; rw [w1, w2, w3]; rfl) hall
          exact lv_ret (ret2 rfl (res_tmp (av1 e)) (res_tmp (av2 e)))
        | true =>
          have g3 : (!withinB x.layers[k].scatter 0 1000) = false := by rw [w3]; rfl
          repeat (first
    | (apply s_move_f; exact rfl; exact rfl)
    | (apply s_assign_f; exact rfl; exact rfl)
    | (apply s_fld_pt TY; exact rfl; exact rfl; exact rfl)
    | (apply s_load_pt TY; exact rfl; exact rfl; exact rfl; (first | exact rfl | assumption))
    | (apply s_load_pts TY; exact rfl; exact rfl; exact rfl; (first | assumption | exact rfl); exact rfl)
    | (apply s_len TY; exact rfl; exact rfl; exact rfl)
    | (apply s_not; exact rfl; exact rfl)
    | (apply s_lss; exact rfl; exact rfl; exact rfl)
    | (apply s_fld_bx TY; exact rfl; exact rfl; exact rfl)
    | (apply s_load_bx_f TY; exact rfl; exact rfl; exact rfl; exact rfl; exact rfl)
    | (apply s_pickF; exact rfl; exact rfl; (first | exact rfl | assumption); exact rfl)
    | apply w_seq
    | apply w_region
    | apply s_nil
    | apply t_norm
    | apply k_norm
    | apply w_block
    | apply w_skip
    | (apply s_call (Within_s _ _ _); exact rfl; exact rfl; exact rfl; exact rfl)
    | (apply s_add; exact rfl; exact rfl; exact rfl; (omega))
    | (apply g_not; exact rfl; (first | exact rfl | assumption); exact rfl; exact rfl)
    | (apply g_fld_bx TY; exact rfl; (first | exact rfl | assumption); exact rfl; exact rfl; exact rfl)
    | (apply g_load_bx_f TY; exact rfl; (first | exact rfl | assumption); exact rfl; exact rfl; exact rfl; exact rfl; exact rfl)
    | (apply g_call (Within_s _ _ _); exact rfl; (first | exact rfl | assumption); exact rfl; exact rfl; exact rfl; exact rfl)
    | (apply s_idxN TY; exact rfl; exact rfl; exact rfl; exact rfl; assumption; assumption)
    | (apply s_alloc TY; exact rfl; exact rfl; exact rfl)
    | (apply s_store TY; exact rfl; exact rfl; exact rfl; exact rfl; exact rfl; exact rfl)
    | (apply w_condT; exact rfl; (first | exact rfl | assumption))
    | (apply w_condF; exact rfl; (first | exact rfl | assumption)))
          refine ⟨k + 1, ⟨by omega, fun j h hj => ?_⟩, by omega, gh_le ⟨le_upd rfl trivial (le_upd rfl trivial (le_upd rfl trivial (le_upd rfl trivial (le_nil _)))), le_h0 _ _⟩⟩
          by_cases hjk : j < k
          · exact hall j h hjk
          · have : j = k := by omega
            subst this
            unfold layerOk; rw [w1, w2, w3]; rfl
  have hcc : decide ((k : Int) < (x.layers.length : Int)) = false := by simpa using hkc
  have L : LayOk x := ⟨by omega, by omega, fun j h => hall j h (by omega)⟩
  cases wr : withinB x.rows 1 12 with
  | false =>
    have gr : (!withinB x.rows 1 12) = true := by rw [wr]; rfl
    repeat (first
    | (apply s_move_f; exact rfl; exact rfl)
    | (apply s_assign_f; exact rfl; exact rfl)
    | (apply s_fld_pt TY; exact rfl; exact rfl; exact rfl)
    | (apply s_load_pt TY; exact rfl; exact rfl; exact rfl; (first | exact rfl | assumption))
    | (apply s_len TY; exact rfl; exact rfl; exact rfl)
    | (apply s_not; exact rfl; exact rfl)
    | (apply s_lss; exact rfl; exact rfl; exact rfl)
    | apply w_seq
    | apply w_region
    | apply s_nil
    | apply t_norm
    | apply t_exit
    | apply t_ret
    | apply k_hit
    | apply w_exit
    | apply w_ret
    | (apply s_call (Within_s _ _ _); exact rfl; exact rfl; exact rfl; exact rfl)
    | (apply w_condT; exact rfl; (first | exact rfl | assumption))
    | (apply w_condF; exact rfl; (first | exact rfl | assumption)))
    have e := ck_rows L wr
    exact lv_ret (ret2 rfl (res_tmp (av1 e)) (res_tmp (av2 e)))
  | true =>
  have gr : (!withinB x.rows 1 12) = false := by rw [wr]; rfl
  by_cases t0 : x.tilt.length = 0
  · have ht : decide ((x.tilt.length : Int) = 0) = true := by simpa using t0
    repeat (first
    | (apply s_move_f; exact rfl; exact rfl)
    | (apply s_assign_f; exact rfl; exact rfl)
    | (apply s_fld_pt TY; exact rfl; exact rfl; exact rfl)
    | (apply s_load_pt TY; exact rfl; exact rfl; exact rfl; (first | exact rfl | assumption))
    | (apply s_len TY; exact rfl; exact rfl; exact rfl)
    | (apply s_not; exact rfl; exact rfl)
    | (apply s_lss; exact rfl; exact rfl; exact rfl)
    | (apply s_eql; exact rfl; exact rfl; exact rfl)
    | apply w_seq
    | apply w_region
    | apply s_nil
    | apply t_norm
    | apply t_exit
    | apply t_ret
    | apply k_hit
    | apply w_exit
    | apply w_ret
    | apply w_skip
    | (apply s_call (Within_s _ _ _); exact rfl; exact rfl; exact rfl; exact rfl)
    | (apply w_condT; exact rfl; (first | exact rfl | assumption))
    | (apply w_condF; exact rfl; (first | exact rfl | assumption)))
    have e := ck_tilt0 L wr t0
    exact lv_ret (ret2 rfl (res_tmp (av1 e)) (res_tmp (av2 e)))
  have ht : decide ((x.tilt.length : Int) = 0) = false := by simpa using t0
  by_cases t8 : 8 < x.tilt.length
  · have hu : decide ((8 : Int) < x.tilt.length) = true := decide_eq_true (by omega)
    repeat (first
    | (apply s_move_f; exact rfl; exact rfl)
    | (apply s_assign_f; exact rfl; exact rfl)
    | (apply s_fld_pt TY; exact rfl; exact rfl; exact rfl)
    | (apply s_load_pt TY; exact rfl; exact rfl; exact rfl; (first | exact rfl | assumption))
    | (apply s_len TY; exact rfl; exact rfl; exact rfl)
    | (apply s_not; exact rfl; exact rfl)
    | (apply s_lss; exact rfl; exact rfl; exact rfl)
    | (apply s_gtr; exact rfl; exact rfl; exact rfl)
    | (apply s_eql; exact rfl; exact rfl; exact rfl)
    | apply w_seq
    | apply w_region
    | apply s_nil
    | apply t_norm
    | apply t_exit
    | apply t_ret
    | apply k_hit
    | apply w_exit
    | apply w_ret
    | apply w_skip
    | (apply s_call (Within_s _ _ _); exact rfl; exact rfl; exact rfl; exact rfl)
    | (apply w_condT; exact rfl; (first | exact rfl | assumption))
    | (apply w_condF; exact rfl; (first | exact rfl | assumption)))
    have e := ck_tilt8 L wr t8
    exact lv_ret (ret2 rfl (res_tmp (av1 e)) (res_tmp (av2 e)))
  have hu : decide ((8 : Int) < x.tilt.length) = false := decide_eq_false (by omega)
  repeat (first
    | (apply s_move_f; exact rfl; exact rfl)
    | (apply s_assign_f; exact rfl; exact rfl)
    | (apply s_fld_pt TY; exact rfl; exact rfl; exact rfl)
    | (apply s_load_pt TY; exact rfl; exact rfl; exact rfl; (first | exact rfl | assumption))
    | (apply s_len TY; exact rfl; exact rfl; exact rfl)
    | (apply s_not; exact rfl; exact rfl)
    | (apply s_lss; exact rfl; exact rfl; exact rfl)
    | (apply s_gtr; exact rfl; exact rfl; exact rfl)
    | (apply s_eql; exact rfl; exact rfl; exact rfl)
    | apply w_seq
    | apply w_region
    | apply s_nil
    | apply t_norm
    | apply t_exit
    | apply k_hit
    | apply w_block
    | apply w_exit
    | apply w_skip
    | (apply s_call (Within_s _ _ _); exact rfl; exact rfl; exact rfl; exact rfl)
    | (apply w_condF; exact rfl; (first | exact rfl | assumption)))
  clear hk hall hkc hcc
  apply w_loop (fun k : Nat => ⟨(Ab.upd (Ab.upd (Ab.upd (Ab.upd (fun _ => .bot) 1 (.f (.pt (gridL x) 0))) 2 (.f (iv 0))) 3 (.f (iv 0))) 6 (.f (iv (k : Nat)))), (fun _ => none), 0⟩) (fun k => k ≤ x.tilt.length ∧ ∀ j, (h : j < x.tilt.length) → j < k → withinB x.tilt[j] (-12) 12 = true) (fun k => x.tilt.length - k) 0 ⟨Nat.zero_le _, fun j _ h => absurd h (Nat.not_lt_zero j)⟩ (gh_le ⟨le_upd rfl trivial (le_upd rfl trivial (le_upd rfl trivial (le_upd rfl trivial (le_nil _)))), le_h0 _ _⟩)
  intro k ⟨hk, hall⟩
  by_cases hkc : k < x.tilt.length
  · have hcc : decide ((k : Int) < (x.tilt.length : Int)) = true := by simpa using hkc
    have hat : (intsF x.tilt)[k * 1]? = some (iv x.tilt[k]) := map_at hkc
    have hne : intsF x.tilt ≠ [] := map_ne hkc
    cases w1 : withinB x.tilt[k] (-12) 12 with
    | false =>
      have g1 : (!withinB x.tilt[k] (-12) 12) = true := by rw [w1]; rfl
      repeat (first
    | (apply s_move_f; exact rfl; exact rfl)
    | (apply s_assign_f; exact rfl; exact rfl)
    | (apply s_fld_pt TY; exact rfl; exact rfl; exact rfl)
    | (apply s_load_pt TY; exact rfl; exact rfl; exact rfl; (first | exact rfl | assumption))
    | (apply s_len TY; exact rfl; exact rfl; exact rfl)
    | (apply s_not; exact rfl; exact rfl)
    | (apply s_lss; exact rfl; exact rfl; exact rfl)
    | apply w_seq
    | apply w_region
    | apply s_nil
    | apply t_norm
    | apply t_ret
    | apply k_ret
    | apply w_block
    | apply w_ret
    | apply w_skip
    | (apply s_call (Within_s _ _ _); exact rfl; exact rfl; exact rfl; exact rfl)
    | (apply s_idxN TY; exact rfl; exact rfl; exact rfl; exact rfl; assumption; assumption)
    | (apply w_condT; exact rfl; (first | exact rfl | assumption)))
      have e := ck_tilt L wr (by omega) (by omega) hkc w1 hall
      exact lv_ret (ret2 rfl (res_tmp (av1 e)) (res_tmp (av2 e)))
    | true =>
      have g1 : (!withinB x.tilt[k] (-12) 12) = false := by rw [w1]; rfl
      repeat (first
    | (apply s_move_f; exact rfl; exact rfl)
    | (apply s_assign_f; exact rfl; exact rfl)
    | (apply s_fld_pt TY; exact rfl; exact rfl; exact rfl)
    | (apply s_load_pt TY; exact rfl; exact rfl; exact rfl; (first | exact rfl | assumption))
    | (apply s_len TY; exact rfl; exact rfl; exact rfl)
    | (apply s_not; exact rfl; exact rfl)
    | (apply s_lss; exact rfl; exact rfl; exact rfl)
    | apply w_seq
    | apply w_region
    | apply s_nil
    | apply t_norm
    | apply k_norm
    | apply w_block
    | apply w_skip
    | (apply s_call (Within_s _ _ _); exact rfl; exact rfl; exact rfl; exact rfl)
    | (apply s_add; exact rfl; exact rfl; exact rfl; (omega))
    | (apply s_idxN TY; exact rfl; exact rfl; exact rfl; exact rfl; assumption; assumption)
    | (apply w_condT; exact rfl; (first | exact rfl | assumption))
    | (apply w_condF; exact rfl; (first | exact rfl | assumption)))
      refine ⟨k + 1, ⟨by omega, fun j h hj => ?_⟩, by omega, gh_le ⟨le_upd rfl trivial (le_upd rfl trivial (le_upd rfl trivial (le_upd rfl trivial (le_nil _)))), le_h0 _ _⟩⟩
      by_cases hjk : j < k
      · exact hall j h hjk
      · have : j = k := by omega
        subst this
        exact w1
  have hcc : decide ((k : Int) < (x.tilt.length : Int)) = false := by simpa using hkc
  repeat (first
    | (apply s_move_f; exact rfl; exact rfl)
    | (apply s_assign_f; exact rfl; exact rfl)
    | (apply s_fld_pt TY; exact rfl; exact rfl; exact rfl)
    | (apply s_load_pt TY; exact rfl; exact rfl; exact rfl; (first | exact rfl | assumption))
    | (apply s_len TY; exact rfl; exact rfl; exact rfl)
    | (apply s_lss; exact rfl; exact rfl; exact rfl)
    | apply w_seq
    | apply w_region
    | apply s_nil
    | apply t_norm
    | apply t_exit
    | apply k_hit
    | apply w_exit
    | apply w_ret
    | (apply w_condF; exact rfl; (first | exact rfl | assumption)))
  have e := ck_ok L wr (by omega) (by omega) (fun j h => hall j h (by omega))
  exact lv_ret (ret2 rfl (res_tmp (av1 e)) (res_tmp (av2 e)))
theorem IceErr_s (x : Grid) : Summ Tryd.prog GG 17 [gridF x] (iv (iceErrE x)) := by
  refine summW Tryd.func17 rfl rfl 11 rfl (by simp) (fun M0 => ?_)
  repeat (first
    | (apply s_move_f; exact rfl; exact rfl)
    | (apply s_assign_f; exact rfl; exact rfl)
    | (apply s_load_pts TY; exact rfl; exact rfl; exact rfl; (first | assumption | exact rfl); exact rfl)
    | (apply s_extract; exact rfl; exact rfl; exact rfl)
    | (apply s_box; exact rfl; exact rfl; exact rfl)
    | apply w_seq
    | apply w_region
    | apply s_nil
    | apply t_norm
    | apply w_ret
    | (apply s_call (refCheckIce_s x); exact rfl; exact rfl; exact rfl; exact rfl))
  exact lv_ret (ret1 rfl (res_tmp rfl))
end Go.Proofs.YtienhiloecfgnaaDoor
namespace Go.Ab
open Go Go.RowKit Go.Shelf Go.Proofs
def Opens (P : Program) (w : World) (T : TypeId) {α : Type} (f : α → List FV) : Prop :=
  ∀ (H : Type) (enc : TypeId × Value → H) (base : Nat) (sp : Nat → Bool) (hd : Bool) (fuel : Nat) (cs : List Value) (x : DataW H × List MemPlace), DataW.trod enc P w base sp hd fuel T cs = some x → ∃ a : α, RepL w (fun _ => False) cs (f a) ∧ ∀ u ∈ cs, u.oneCell' = true
section
variable {P : Program} {w : World}
theorem repL_one {M : Nat → Prop} {u : Value} {x : FV} (h : RepF w M u x) : RepL w M [u] [x] := RepL.cons h (RepL.nil _ _)
theorem opens_int {T : TypeId} {k : IntKind} (ht : P.underlying T = some (.int k)) : Opens P w T (fun z : Int => [.v (.int k z)]) := fun H enc base sp hd fuel cs x h => by
  obtain ⟨n, rfl, _, _⟩ := DataW.trod_int ht h
  exact ⟨n, repL_one (RepF.v _), by simp [Value.oneCell']⟩
theorem opens_bool {T : TypeId} (ht : P.underlying T = some .bool) : Opens P w T (fun b : Bool => [.v (.bool b)]) := fun H enc base sp hd fuel cs x h => by
  obtain ⟨n, rfl, _⟩ := DataW.trod_bool ht h
  exact ⟨n, repL_one (RepF.v _), by simp [Value.oneCell']⟩
theorem opens_str {T : TypeId} (ht : P.underlying T = some .string) : Opens P w T (fun s : ByteArray => [.v (.string s)]) := fun H enc base sp hd fuel cs x h => by
  obtain ⟨n, rfl, _⟩ := DataW.trod_string ht h
  exact ⟨n, repL_one (RepF.v _), by simp [Value.oneCell']⟩
theorem Opens.map {T : TypeId} {α β : Type} {f : α → List FV} {g : β → List FV} (h : Opens P w T f) (k : α → β) (e : ∀ a, f a = g (k a)) : Opens P w T g := fun H enc base sp hd fuel cs x hx => by
  obtain ⟨a, h1, h2⟩ := h H enc base sp hd fuel cs x hx
  exact ⟨k a, e a ▸ h1, h2⟩
theorem exists_fun {α : Type} (p : Nat → α → Prop) : ∀ n, (∀ i, i < n → ∃ a, p i a) → ∃ l : List α, l.length = n ∧ ∀ i (h : i < l.length), p i l[i]
  | 0, _ => ⟨[], rfl, fun i h => absurd h (Nat.not_lt_zero i)⟩
  | n + 1, h => by
    obtain ⟨l, h1, h2⟩ := exists_fun p n (fun i hi => h i (by omega))
    obtain ⟨a, ha⟩ := h n (by omega)
    refine ⟨l ++ [a], by simp [h1], fun i hi => ?_⟩
    by_cases e : i < l.length
    · rw [List.getElem_append_left e]; exact h2 i e
    · have e2 : i = l.length := by simp at hi; omega
      subst e2
      rw [List.getElem_append_right (Nat.le_refl _)]
      simp only [Nat.sub_self, List.getElem_cons_zero]
      rw [h1]; exact ha
theorem RepL.flat {M : Nat → Prop} {α : Type} {f : α → List FV} : ∀ {css : List (List Value)} {l : List α}, css.length = l.length → (∀ i (h : i < css.length) (h' : i < l.length), RepL w M css[i] (f l[i])) → RepL w M css.flatten (l.flatMap f)
  | [], [], _, _ => RepL.nil _ _
  | c :: css, a :: l, hl, h => by
    rw [List.flatten_cons, List.flatMap_cons]
    exact RepL.append (h 0 (by simp) (by simp)) (RepL.flat (by simpa using hl) fun i h1 h2 => h (i + 1) (by simpa using h1) (by simpa using h2))
  | [], _ :: _, hl, _ => by simp at hl
  | _ :: _, [], hl, _ => by simp at hl
theorem flatten_at {α : Type} {s : Nat} : ∀ {css : List (List α)} (_hs : ∀ c ∈ css, c.length = s) {i j : Nat} (hi : i < css.length) (_hj : j < s), css.flatten[i * s + j]? = css[i][j]?
  | c :: css, hs, 0, j, _, hj => by
    rw [List.flatten_cons, Nat.zero_mul, Nat.zero_add, List.getElem?_append_left (by rw [hs c (by simp)]; exact hj)]; rfl
  | c :: css, hs, i + 1, j, hi, hj => by
    have hc := hs c (by simp)
    rw [List.flatten_cons, List.getElem?_append_right (by rw [hc, Nat.succ_mul]; omega), hc, show (i + 1) * s + j - s = i * s + j by rw [Nat.succ_mul]; omega]
    exact flatten_at (fun c h => hs c (by simp [h])) (by simpa using hi) hj
theorem flatten_len {α : Type} {s : Nat} : ∀ {css : List (List α)} (_ : ∀ c ∈ css, c.length = s), css.flatten.length = css.length * s
  | [], _ => by simp
  | c :: css, hs => by rw [List.flatten_cons, List.length_append, hs c (by simp), flatten_len (fun c h => hs c (by simp [h])), List.length_cons, Nat.succ_mul]; omega
theorem opens_sl {T E s : TypeId} {α : Type} {f : α → List FV} (ht : P.underlying T = some (.slice E)) (hc : P.cellsOf E = s) (h0 : 0 < s) (h : Opens P w E f) : Opens P w T (fun l : List α => [.sl l.length (l.flatMap f)]) := fun H enc base sp hd fuel cs x hx => by
  rcases Go.Deep.open_slice ht hx with ⟨rfl, _⟩ | ⟨a, len, cap, m, n, D, Pl, rfl, hb, hl, hm, hmm, _, hel⟩
  · refine ⟨[], repL_one ?_, by simp [Value.oneCell']⟩
    exact RepF.sl none 0 0 [] [] (Nat.le_refl _) rfl (fun u hu => by simp at hu) (fun hn => absurd rfl hn) (fun k u x h => by simp at h)
  · have hlm : len ≤ m := by rw [hmm]; split <;> omega
    rw [hc] at hel
    obtain ⟨css, hcl, hcs⟩ := exists_fun (fun i (c : List Value) => w.cells? base (a.add (i * s)) s = some c ∧ ∃ a : α, RepL w (fun _ => False) c (f a) ∧ ∀ u ∈ c, u.oneCell' = true) len (fun i hi => by
      obtain ⟨c, h1, h2⟩ := hel i (by omega)
      exact ⟨c, h1, h H enc base sp hd n c _ h2⟩)
    obtain ⟨l, hll, hl2⟩ := exists_fun (fun i (b : α) => ∀ (hi : i < css.length), RepL w (fun _ => False) css[i] (f b)) len (fun i hi => by
      obtain ⟨b, h1, _⟩ := (hcs i (by omega)).2
      exact ⟨b, fun _ => h1⟩)
    have hsz : ∀ c ∈ css, c.length = s := fun c hcm => by
      obtain ⟨i, hi, rfl⟩ := List.getElem_of_mem hcm
      exact (World.cells?_some (hcs i hi).1).2.1
    have R : RepL w (fun _ => False) css.flatten (l.flatMap f) := RepL.flat (by omega) fun i h1 h2 => hl2 i h2 h1
    refine ⟨l, repL_one ?_, by simp [Value.oneCell']⟩
    have key : RepF w (fun _ => False) (.slice (some a) len cap) (.sl len (l.flatMap f)) := by
      refine RepF.sl (some a) len cap _ css.flatten hl R.1 (fun u hu => ?_) (fun hn => ?_) R.2
      · obtain ⟨c, hcm, huc⟩ := List.mem_flatten.1 hu
        obtain ⟨i, hi, rfl⟩ := List.getElem_of_mem hcm
        obtain ⟨_, _, h2⟩ := (hcs i hi).2
        exact h2 u huc
      · have hlen0 : 0 < css.length := by
          cases css with
          | nil => exact absurd rfl hn
          | cons c r => simp
        obtain ⟨b, off, spot⟩ := a
        have h00 := (World.cells?_some (hcs 0 hlen0).1).2.2 0 h0
        have hsp : spot = none := by
          rw [List.getElem?_eq_getElem (by rw [hsz _ (List.getElem_mem hlen0)]; exact h0)] at h00
          simp only [Nat.zero_mul, Addr.add, if_true] at h00
          unfold World.cell? at h00
          cases spot with
          | none => rfl
          | some q => split at h00 <;> simp at h00
        subst hsp
        refine ⟨b, off, rfl, ?_, fun h => h, fun k hk => ?_⟩
        · rw [List.getElem?_eq_getElem (by rw [hsz _ (List.getElem_mem hlen0)]; exact h0)] at h00
          simp only [Nat.zero_mul, Addr.add, if_true] at h00
          unfold World.cell? at h00
          by_cases hbl : b < w.heap.size
          · exact hbl
          · have hnone : w.heap[b]? = none := Array.getElem?_eq_none (Nat.le_of_not_lt hbl)
            simp [hnone] at h00
        · rw [flatten_len hsz] at hk
          have hi : k / s < css.length := Nat.div_lt_of_lt_mul (by rw [Nat.mul_comm]; exact hk)
          have hj : k % s < s := Nat.mod_lt _ h0
          have e : k / s * s + k % s = k := by rw [Nat.mul_comm]; exact Nat.div_add_mod k s
          have h1 := (World.cells?_some (hcs (k / s) hi).1).2.2 (k % s) hj
          have h2 := flatten_at hsz hi hj
          rw [e] at h2
          rw [Go.Deep.add_add, e, addr_add] at h1
          rw [h1, h2]
    rw [hll]; exact key
theorem drop_take_split {α : Type} (l : List α) (a b : Nat) (h : l.length = a + b) : l = (l.drop 0).take a ++ (l.drop a).take b := by
  rw [List.drop_zero, List.take_of_length_le (l := l.drop a) (by simp; omega), List.take_append_drop]
theorem opens_st2 {T : TypeId} {f0 f1 : Field} {s0 s1 : Nat} {α β : Type} {f : α → List FV} {g : β → List FV} (ht : P.underlying T = some (.struct #[f0, f1])) (ct : P.cellsOf T = s0 + s1) (c0 : P.cellsOf f0.type = s0) (c1 : P.cellsOf f1.type = s1) (o0 : f0.offset = 0) (o1 : f1.offset = s0)
    (h0 : Opens P w f0.type f) (h1 : Opens P w f1.type g) : Opens P w T (fun p : α × β => f p.1 ++ g p.2) := fun H enc base sp hd fuel cs x hx => by
  obtain ⟨xs, n, _, _, hlen, hxl, hf⟩ := DataW.trod_struct ht hx
  have e0 := hf 0 f0 rfl
  have e1 := hf 1 f1 rfl
  rw [o0, c0, List.getElem?_eq_getElem (by rw [hxl]; simp)] at e0
  rw [o1, c1, List.getElem?_eq_getElem (by rw [hxl]; simp)] at e1
  obtain ⟨a, r0, q0⟩ := h0 H enc base sp hd n _ _ e0
  obtain ⟨b, r1, q1⟩ := h1 H enc base sp hd n _ _ e1
  have hs := drop_take_split cs s0 s1 (by rw [hlen, ct])
  refine ⟨(a, b), ?_, fun u hu => ?_⟩
  · rw [hs]; exact RepL.append r0 r1
  · rw [hs] at hu
    rcases List.mem_append.1 hu with h | h
    · exact q0 u h
    · exact q1 u h
theorem opens_st3 {T : TypeId} {f0 f1 f2 : Field} {s0 s1 s2 : Nat} {α β γ : Type} {f : α → List FV} {g : β → List FV} {k : γ → List FV} (ht : P.underlying T = some (.struct #[f0, f1, f2])) (ct : P.cellsOf T = s0 + s1 + s2) (c0 : P.cellsOf f0.type = s0) (c1 : P.cellsOf f1.type = s1) (c2 : P.cellsOf f2.type = s2) (o0 : f0.offset = 0) (o1 : f1.offset = s0) (o2 : f2.offset = s0 + s1)
    (h0 : Opens P w f0.type f) (h1 : Opens P w f1.type g) (h2 : Opens P w f2.type k) : Opens P w T (fun p : α × β × γ => f p.1 ++ g p.2.1 ++ k p.2.2) := fun H enc base sp hd fuel cs x hx => by
  obtain ⟨xs, n, _, _, hlen, hxl, hf⟩ := DataW.trod_struct ht hx
  have e0 := hf 0 f0 rfl
  have e1 := hf 1 f1 rfl
  have e2 := hf 2 f2 rfl
  rw [o0, c0, List.getElem?_eq_getElem (by rw [hxl]; simp)] at e0
  rw [o1, c1, List.getElem?_eq_getElem (by rw [hxl]; simp)] at e1
  rw [o2, c2, List.getElem?_eq_getElem (by rw [hxl]; simp)] at e2
  obtain ⟨a, r0, q0⟩ := h0 H enc base sp hd n _ _ e0
  obtain ⟨b, r1, q1⟩ := h1 H enc base sp hd n _ _ e1
  obtain ⟨c, r2, q2⟩ := h2 H enc base sp hd n _ _ e2
  have hs : cs = (cs.drop 0).take s0 ++ (cs.drop s0).take s1 ++ (cs.drop (s0 + s1)).take s2 := by
    rw [List.drop_zero, List.take_of_length_le (l := cs.drop (s0 + s1)) (by simp [hlen, ct]), List.append_assoc, ← List.drop_drop, List.take_append_drop, List.take_append_drop]
  refine ⟨(a, b, c), ?_, fun u hu => ?_⟩
  · rw [hs]; exact RepL.append (RepL.append r0 r1) r2
  · rw [hs] at hu
    rcases List.mem_append.1 hu with h | h
    · rcases List.mem_append.1 h with h | h
      · exact q0 u h
      · exact q1 u h
    · exact q2 u h
theorem opens_st4 {T : TypeId} {f0 f1 f2 f3 : Field} {s0 s1 s2 s3 : Nat} {α β γ δ : Type} {f : α → List FV} {g : β → List FV} {k : γ → List FV} {m : δ → List FV} (ht : P.underlying T = some (.struct #[f0, f1, f2, f3])) (ct : P.cellsOf T = s0 + s1 + s2 + s3) (c0 : P.cellsOf f0.type = s0) (c1 : P.cellsOf f1.type = s1) (c2 : P.cellsOf f2.type = s2) (c3 : P.cellsOf f3.type = s3) (o0 : f0.offset = 0) (o1 : f1.offset = s0) (o2 : f2.offset = s0 + s1) (o3 : f3.offset = s0 + s1 + s2)
    (h0 : Opens P w f0.type f) (h1 : Opens P w f1.type g) (h2 : Opens P w f2.type k) (h3 : Opens P w f3.type m) : Opens P w T (fun p : α × β × γ × δ => f p.1 ++ g p.2.1 ++ k p.2.2.1 ++ m p.2.2.2) := fun H enc base sp hd fuel cs x hx => by
  obtain ⟨xs, n, _, _, hlen, hxl, hf⟩ := DataW.trod_struct ht hx
  have e0 := hf 0 f0 rfl
  have e1 := hf 1 f1 rfl
  have e2 := hf 2 f2 rfl
  have e3 := hf 3 f3 rfl
  rw [o0, c0, List.getElem?_eq_getElem (by rw [hxl]; simp)] at e0
  rw [o1, c1, List.getElem?_eq_getElem (by rw [hxl]; simp)] at e1
  rw [o2, c2, List.getElem?_eq_getElem (by rw [hxl]; simp)] at e2
  rw [o3, c3, List.getElem?_eq_getElem (by rw [hxl]; simp)] at e3
  obtain ⟨a, r0, q0⟩ := h0 H enc base sp hd n _ _ e0
  obtain ⟨b, r1, q1⟩ := h1 H enc base sp hd n _ _ e1
  obtain ⟨c, r2, q2⟩ := h2 H enc base sp hd n _ _ e2
  obtain ⟨d, r3, q3⟩ := h3 H enc base sp hd n _ _ e3
  have hs : cs = (cs.drop 0).take s0 ++ (cs.drop s0).take s1 ++ (cs.drop (s0 + s1)).take s2 ++ (cs.drop (s0 + s1 + s2)).take s3 := by
    rw [List.drop_zero, List.take_of_length_le (l := cs.drop (s0 + s1 + s2)) (by simp [hlen, ct]), List.append_assoc, List.append_assoc, ← List.drop_drop (i := s2), List.take_append_drop, ← List.drop_drop (i := s1), List.take_append_drop, List.take_append_drop]
  refine ⟨(a, b, c, d), ?_, fun u hu => ?_⟩
  · rw [hs]; exact RepL.append (RepL.append (RepL.append r0 r1) r2) r3
  · rw [hs] at hu
    rcases List.mem_append.1 hu with h | h
    · rcases List.mem_append.1 h with h | h
      · rcases List.mem_append.1 h with h | h
        · exact q0 u h
        · exact q1 u h
      · exact q2 u h
    · exact q3 u h
theorem arg_one {H : Type} {enc : TypeId × Value → H} {base : Nat} {sp : Nat → Bool} {hd : Bool} {T : TypeId} {α : Type} {g : α → FV} {v : Value} {d : DataW H} {ps : List MemPlace} (h : Opens P w T (fun a => [g a])) (hv : v.cells.toList = [v]) (ht : DataW.Trod enc P w base sp hd T v d ps) : ∃ a, RepF w (fun _ => False) v (g a) := by
  obtain ⟨fuel, hf⟩ := ht
  rw [hv] at hf
  obtain ⟨a, R, _⟩ := h H enc base sp hd fuel _ _ hf
  obtain ⟨u, us, e, r, _⟩ := R.head
  cases e
  exact ⟨a, r⟩
theorem arg_agg {H : Type} {enc : TypeId × Value → H} {base : Nat} {sp : Nat → Bool} {hd : Bool} {T : TypeId} {α : Type} {f : α → List FV} {v : Value} {d : DataW H} {ps : List MemPlace} (h : Opens P w T f) {cs : Array Value} (hv : v = .agg cs) (ht : DataW.Trod enc P w base sp hd T v d ps) : ∃ a, RepF w (fun _ => False) v (.agg (f a)) := by
  subst hv
  obtain ⟨fuel, hf⟩ := ht
  obtain ⟨a, R, one⟩ := h H enc base sp hd fuel _ _ hf
  exact ⟨a, by
    have := RepF.agg (w := w) (M := fun _ => False) (f a) cs.toList R.1 one R.2
    simpa using this⟩
end
end Go.Ab
namespace Go.Proofs.YtienhiloecfgnaaDoor
open Go Go.Ab Go.ChangeShapes Go.WideShapes Go.ChangeAt Go.RowKit
theorem ownKnobT : ownKnob Tryd.prog.godebug = none := by kernel_rfl
theorem laidOutT : laidOutB Tryd.prog = true := by kernel_rfl
theorem gSides : Tryd.prog.globalNamed "cherenkov/ice.sides" = some 0 := by kernel_rfl
theorem tSides : (Tryd.prog.globals[0]?).map (·.type) = some 181 := by kernel_rfl
def laidL : List (String × DataW Unit) := [("cherenkov/ice.sides", Rows.laid_cherenkov_ice_sides)]
theorem door_met (os : Os) (args : Array Value) : laidMetH Tryd.prog laidL ((World.doorLaid Tryd.prog 400 os).forCall (fun _ _ => 0) ⟨#[], args, []⟩).memory :=
  laidMetH_of_parts3 (fuel := 8) (laidMet_of_run' 8 (by kernel_rfl) (by kernel_rfl)) (by kernel_rfl) (by kernel_rfl)
set_option maxRecDepth 100000 in
theorem cell_read {W : World} {m : Nat} {sp : Nat → Bool} {l : List Value} {a b : Int} {p : List MemPlace} (h : DataW.trod (fun _ => ()) Tryd.prog W 0 sp false m 27 l = some (.agg [.lit (.int .i64 a), .lit (.int .i64 b)], p)) : l = [.int .i64 a, .int .i64 b] := by
  obtain ⟨xs, n, _, hx, hlen, hxl, hf⟩ := DataW.trod_struct Tryd.underlying27 h
  have c27 : Tryd.prog.cellsOf 27 = 2 := by kernel_rfl
  have c3 : Tryd.prog.cellsOf 3 = 1 := by kernel_rfl
  rw [c27] at hlen
  simp only [Prod.mk.injEq, DataW.agg.injEq] at hx
  obtain ⟨v0, v1, rfl⟩ : ∃ v0 v1, l = [v0, v1] := by
    match l, hlen with
    | [a, b], _ => exact ⟨a, b, rfl⟩
  obtain ⟨x0, x1, rfl⟩ : ∃ x0 x1, xs = [x0, x1] := by
    match xs, hxl with
    | [a, b], _ => exact ⟨a, b, rfl⟩
  have e0 : DataW.trod (fun _ => ()) Tryd.prog W 0 sp false n 3 (([v0, v1].drop 0).take (Tryd.prog.cellsOf 3)) = [x0, x1][0]? := hf 0 _ rfl
  have e1 : DataW.trod (fun _ => ()) Tryd.prog W 0 sp false n 3 (([v0, v1].drop 1).take (Tryd.prog.cellsOf 3)) = [x0, x1][1]? := hf 1 _ rfl
  rw [c3] at e0 e1
  simp only [List.map_cons, List.map_nil, List.cons.injEq, and_true] at hx
  obtain ⟨k, q1, q2, _⟩ := DataW.trod_int Tryd.underlying3 (show DataW.trod _ Tryd.prog W 0 _ false n 3 [v0] = some x0 from e0)
  obtain ⟨j, r1, r2, _⟩ := DataW.trod_int Tryd.underlying3 (show DataW.trod _ Tryd.prog W 0 _ false n 3 [v1] = some x1 from e1)
  rw [q2, r2] at hx
  simp at hx q1 r1
  rw [q1, r1, hx.1.1, hx.1.2]
theorem sides_of_laid {W : World} (h : laidMetH Tryd.prog laidL W) : ∀ g cs, GG g = some cs → RepF W (fun _ => False) (.pointer (some ⟨g, 0, none⟩)) (.pt cs 0) := by
  rw [MakeChecks.laidMetH_plain _ _ _ (by kernel_rfl)] at h
  obtain ⟨ps, ⟨g0, t0, cs0, f0, p0, q0, hg0, ht0, hv0, hd0, _, _⟩, _, _⟩ := h
  obtain rfl := Option.some.inj (gSides.symm.trans hg0)
  obtain rfl := Option.some.inj (tSides.symm.trans ht0)
  obtain ⟨xs, m1, rfl, hx1, hlen, hn4, hel⟩ := DataW.trod_array Tryd.underlying181 hd0
  have c27 : Tryd.prog.cellsOf 27 = 2 := by kernel_rfl
  have c181 : Tryd.prog.cellsOf 181 = 8 := by kernel_rfl
  rw [c181] at hlen
  rw [c27] at hel
  simp only [Rows.laid_cherenkov_ice_sides, Prod.mk.injEq, DataW.agg.injEq] at hx1
  have hcells : cs0.toList = [.int .i64 (-1), .int .i64 0, .int .i64 0, .int .i64 (-1), .int .i64 0, .int .i64 1, .int .i64 1, .int .i64 0] := by
    match xs, hn4, hx1, hel with
    | [x0, x1, x2, x3], _, hx1, hel =>
      have h0 := hel 0 (by decide)
      have h1 := hel 1 (by decide)
      have h2 := hel 2 (by decide)
      have h3 := hel 3 (by decide)
      simp only [List.map_cons, List.map_nil, List.cons.injEq, and_true] at hx1
      obtain ⟨⟨e0, e1, e2, e3⟩, _⟩ := hx1
      obtain ⟨d0, r0⟩ := x0; obtain ⟨d1, r1⟩ := x1; obtain ⟨d2, r2⟩ := x2; obtain ⟨d3, r3⟩ := x3
      simp only at e0 e1 e2 e3
      subst e0; subst e1; subst e2; subst e3
      have k0 := cell_read h0
      have k1 := cell_read h1
      have k2 := cell_read h2
      have k3 := cell_read h3
      match cs0.toList, hlen, k0, k1, k2, k3 with
      | [a, b, c, d, e, f, g, i], _, k0, k1, k2, k3 =>
        simp at k0 k1 k2 k3
        simp [k0, k1, k2, k3]
  intro g cs hg
  have h0 : g = 0 ∧ cs = sidesF := by
    unfold GG at hg
    cases hb : Nat.beq g 0 with
    | true => rw [hb] at hg; exact ⟨Nat.eq_of_beq_eq_true hb, (Option.some.inj hg).symm⟩
    | false => rw [hb] at hg; cases hg
  obtain ⟨rfl, rfl⟩ := h0
  have hc : ∀ k, W.cell? ⟨0, k, none⟩ = cs0.toList[k]? := fun k => by rw [World.var?_cell hg0 hv0 k]; simp
  have R := repL_det (w := W) (M := fun _ => False) (cs := sidesF) rfl
  refine RepF.pt 0 0 0 sidesF _ R.1 (by simp [Value.oneCell']) ⟨?_, fun h => h, fun k _ => ?_⟩ R.2
  · have := hc 0
    rw [hcells] at this
    unfold World.cell? at this
    by_cases hb : 0 < W.heap.size
    · exact hb
    · have hn : W.heap[0]? = none := Array.getElem?_eq_none (Nat.le_of_not_lt hb)
      simp [hn] at this
  · rw [Nat.zero_add, hc k, hcells]
theorem trodAll_stays {H : Type} {enc : TypeId × Value → H} {W W' : World} {sp : Nat → Bool} (hb : Below W.heap.size W W') : ∀ {ts : List TypeId} {vs : List Value} {ds : List (DataW H)} {ps : List MemPlace}, (∀ t ∈ ts, Tryd.prog.readableRec t = true ∧ t < Tryd.prog.types.size) → DataW.TrodAll enc Tryd.prog W 0 (fun _ => true) true ts vs ds ps → (∀ p ∈ ps, p.block < W.heap.size) → (∀ p ∈ ps, sp p.block = true) → DataW.TrodAll enc Tryd.prog W' 0 sp true ts vs ds ps
  | [], [], [], _, _, h, _, _ => h
  | t :: ts, v :: vs, d :: ds, ps, ht, ⟨p, q, h1, h2, e⟩, hlt, hsp => by
    have hp : ∀ x ∈ p, x ∈ ps := fun x hx => by rw [e]; exact List.mem_append_left _ hx
    have hq : ∀ x ∈ q, x ∈ ps := fun x hx => by rw [e]; exact List.mem_append_right _ hx
    exact ⟨p, q, WideElems.Trod_stays laidOutT (ht t (by simp)).1 (ht t (by simp)).2 h1 (fun x hx => hb.same (hlt x (hp x hx))) (fun x hx => hsp x (hp x hx)),
      trodAll_stays hb (fun u hu => ht u (by simp [hu])) h2 (fun x hx => hlt x (hq x hx)) (fun x hx => hsp x (hq x hx)), e⟩
theorem post_law {H : Type} {enc : TypeId × Value → H} {f : Func} {s : ChangeSpec} {W W' : World} {args : Array Value} {ds gs : List (DataW H)} {before : List MemPlace}
    (hW : DataW.Whole enc Tryd.prog f.params.toList s.vars false W args.toList ds gs before) (hv : s.vars = []) (hr : f.resultTypes = #[4])
    (ht : ∀ t ∈ f.params.toList, Tryd.prog.readableRec t = true ∧ t < Tryd.prog.types.size)
    (hres : (s.fn H (ds ++ gs)).results = [.lit (.bool true)]) (hargs : (s.fn H (ds ++ gs)).args = ds) (hvs : (s.fn H (ds ++ gs)).vars = [])
    (hb : Below W.heap.size W W') : s.post enc Tryd.prog f false true false false W args (.bool true) W' := by
  have hlt := hW.lt
  have hW0 := hW
  obtain ⟨p, q, h1, h2, e, hz, hn⟩ := hW
  have h2' := h2
  rw [hv] at h2'
  have hq : gs = [] ∧ q = [] := by
    cases gs with
    | nil => exact ⟨rfl, h2'⟩
    | cons g r => exact absurd h2' (by intro h; cases h)
  obtain ⟨rfl, rfl⟩ := hq
  rw [List.append_nil] at e
  subst e
  refine ⟨ds, [], before, [], before, [], hW0, ?_, ?_, ?_, Below.frame hb _, fun h => by cases h⟩
  · rw [hr, hres]; exact trodAll_mk1 (shut_bool Tryd.underlying4 true)
  · rw [hargs]
    exact trodAll_stays hb ht h1 hlt (fun x hx => by simpa using hlt x hx)
  · rw [hv, hvs]; rfl
end Go.Proofs.YtienhiloecfgnaaDoor
namespace Go.Proofs.YtienhiloecfgnaaDoor
open Go Go.Ab Go.ChangeShapes Go.WideShapes Go.ChangeAt Go.RowKit
theorem sq_map {α : Type} (f : α → FV) : ∀ l : List α, l.flatMap (fun x => [f x]) = l.map f
  | [] => rfl
  | a :: l => by rw [List.flatMap_cons, sq_map f l]; rfl
section
variable {W : World}
theorem opens_i : Opens Tryd.prog W 3 (fun z : Int => [iv z]) := opens_int Tryd.underlying3
theorem opens_ints : Opens Tryd.prog W 23 (fun l : List Int => [.sl l.length (intsF l)]) := (opens_sl (s := 1) Tryd.underlying23 (by kernel_rfl) (by decide) opens_i).map id fun l => by rw [sq_map]; rfl
theorem opens_mat : Opens Tryd.prog W 34 (fun T : List (List Int) => [.sl T.length (matF T)]) := (opens_sl (s := 1) Tryd.underlying34 (by kernel_rfl) (by decide) opens_ints).map id fun l => by
  rw [sq_map (fun r : List Int => FV.sl r.length (intsF r))]; rfl
theorem opens_lay : Opens Tryd.prog W 33 layF := (opens_st3 (s0 := 1) (s1 := 1) (s2 := 1) Tryd.underlying33 (by kernel_rfl) (by kernel_rfl) (by kernel_rfl) (by kernel_rfl) rfl rfl rfl opens_i opens_i opens_i).map (fun p => ⟨p.1, p.2.1, p.2.2⟩) fun _ => rfl
theorem opens_lays : Opens Tryd.prog W 22 (fun l : List Layer => [.sl l.length (laysF l)]) := opens_sl (s := 3) Tryd.underlying22 (by kernel_rfl) (by decide) opens_lay
theorem opens_grid : Opens Tryd.prog W 25 gridL := (opens_st3 (s0 := 1) (s1 := 1) (s2 := 1) Tryd.underlying25 (by kernel_rfl) (by kernel_rfl) (by kernel_rfl) (by kernel_rfl) rfl rfl rfl opens_lays opens_i opens_ints).map (fun p => ⟨p.1, p.2.1, p.2.2⟩) fun _ => rfl
theorem opens_cel : Opens Tryd.prog W 27 celF := (opens_st2 (s0 := 1) (s1 := 1) Tryd.underlying27 (by kernel_rfl) (by kernel_rfl) (by kernel_rfl) rfl rfl opens_i opens_i).map (fun p => ⟨p.1, p.2⟩) fun _ => rfl
theorem opens_cels : Opens Tryd.prog W 89 (fun l : List Cel => [.sl l.length (celsF l)]) := opens_sl (s := 2) Tryd.underlying89 (by kernel_rfl) (by decide) opens_cel
theorem opens_rng : Opens Tryd.prog W 101 rngF := (opens_st2 (s0 := 1) (s1 := 1) Tryd.underlying101 (by kernel_rfl) (by kernel_rfl) (by kernel_rfl) rfl rfl opens_i opens_i).map (fun p => ⟨p.1, p.2⟩) fun _ => rfl
theorem opens_rngs : Opens Tryd.prog W 42 (fun l : List Rng => [.sl l.length (rngsF l)]) := opens_sl (s := 2) Tryd.underlying42 (by kernel_rfl) (by decide) opens_rng
theorem opens_class : Opens Tryd.prog W 44 (fun p : Grid × List Rng => classL p.1 p.2) := (opens_st2 (s0 := 3) (s1 := 1) Tryd.underlying44 (by kernel_rfl) (by kernel_rfl) (by kernel_rfl) rfl rfl opens_grid opens_rngs).map (fun p => (p.1, p.2)) fun _ => rfl
theorem opens_str9 : Opens Tryd.prog W 9 (fun s : ByteArray => [.v (.string s)]) := opens_str Tryd.underlying9
theorem opens_fla : Opens Tryd.prog W 108 flaF := (opens_st4 (s0 := 1) (s1 := 2) (s2 := 2) (s3 := 2) Tryd.underlying108 (by kernel_rfl) (by kernel_rfl) (by kernel_rfl) (by kernel_rfl) (by kernel_rfl) rfl rfl rfl rfl opens_str9 opens_cel opens_cel opens_rng).map (fun p => ⟨p.1, p.2.1, p.2.2.1, p.2.2.2⟩) fun _ => rfl
theorem opens_flas : Opens Tryd.prog W 45 (fun l : List Flash => [.sl l.length (flasF l)]) := opens_sl (s := 7) Tryd.underlying45 (by kernel_rfl) (by decide) opens_fla
theorem opens_hole : Opens Tryd.prog W 74 holeL := (opens_st3 (s0 := 1) (s1 := 1) (s2 := 1) Tryd.underlying74 (by kernel_rfl) (by kernel_rfl) (by kernel_rfl) (by kernel_rfl) rfl rfl rfl opens_ints opens_ints opens_i).map (fun p => ⟨p.1, p.2.1, p.2.2⟩) fun _ => rfl
end
set_option maxRecDepth 100000 in
theorem arg_st {H : Type} {enc : TypeId × Value → H} {W : World} {base : Nat} {T : TypeId} {fs : Array Field} {α : Type} {f : α → List FV} {v : Value} {d : DataW H} {ps : List MemPlace} (h : Opens Tryd.prog W T f) (ht : Tryd.prog.underlying T = some (.struct fs)) (hv : Value.okWide Tryd.prog W .any base T v) (hd : DataW.Trod enc Tryd.prog W 0 (fun _ => true) true T v d ps) : ∃ a, RepF W (fun _ => False) v (.agg (f a)) := by
  obtain ⟨cs, e, _⟩ := okWide_struct ht hv
  exact arg_agg h e hd
set_option maxRecDepth 100000 in
theorem arg_sl {H : Type} {enc : TypeId × Value → H} {W : World} {base : Nat} {T E : TypeId} {α : Type} {f : α → FV} {v : Value} {d : DataW H} {ps : List MemPlace} (h : Opens Tryd.prog W T (fun a => [f a])) (ht : Tryd.prog.underlying T = some (.slice E)) (hv : Value.okWide Tryd.prog W .any base T v) (hd : DataW.Trod enc Tryd.prog W 0 (fun _ => true) true T v d ps) : ∃ a, RepF W (fun _ => False) v (f a) := by
  obtain ⟨a, n, c, rfl⟩ := okWide_slice ht hv
  exact arg_one h rfl hd
set_option maxRecDepth 100000 in
theorem arg_i {H : Type} {enc : TypeId × Value → H} {W : World} {base : Nat} {v : Value} {d : DataW H} {ps : List MemPlace} (hv : Value.okWide Tryd.prog W .any base 3 v) (hd : DataW.Trod enc Tryd.prog W 0 (fun _ => true) true 3 v d ps) : ∃ z : Int, RepF W (fun _ => False) v (iv z) ∧ (Lit.int .i64 z).wf = true := by
  obtain ⟨n, rfl, _, _, w⟩ := open_int Tryd.underlying3 hv hd
  exact ⟨n, RepF.v _, w⟩
theorem law_calls {f : Nat} {xs : List FV} (S : Summ Tryd.prog GG f xs (.v (.bool true))) {W : World} {args : Array Value} (hL : laidMetH Tryd.prog laidL W) (R : RepL W (fun _ => False) args.toList xs) : Calls Tryd.prog f args W fun e W' => e = .returned (.bool true) ∧ Below W.heap.size W W' := by
  have := S.call W (fun _ => False) args.toList (fun _ h => h.elim) (sides_of_laid hL) R
  simp only [Array.toArray_toList] at this
  refine this.mono fun e w' ⟨v, h1, h2, h3⟩ => ⟨?_, h3⟩
  rw [h1, repV h2]
end Go.Proofs.YtienhiloecfgnaaDoor
