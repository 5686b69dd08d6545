/- Laws on which the proofs of this seat stand. No condition. -/
import Derived.Test.YtenkgipcblfocaaGreatAo2
import Derived.Lib.SliceRun
import Derived.OpenShut
import Derived.Laws.IdiomStrings
import Derived.Laws.Pointers
import Derived.Shelf.SortG.Plain
import Derived.Shelf.SortG.SortNone
namespace Go.Proofs.YtenkgipcblfocaaGreat
open Go Go.RowKit Go.Proofs Go.Shelf Go.Ab
def idxP (n : Nat) (p : Nat → Bool) : Int := match (List.range n).find? p with
  | some i => i
  | none => -1
def anyP (n : Nat) (p : Nat → Bool) : Bool := (List.range n).any p
theorem idxP_no {n : Nat} {p : Nat → Bool} (h : ∀ i, i < n → p i = false) : idxP n p = -1 := by
  unfold idxP
  rw [List.find?_eq_none.2 (fun i hi => by rw [h i (List.mem_range.1 hi)]; decide)]
theorem idxP_at {n k : Nat} {p : Nat → Bool} (hk : k < n) (h : ∀ i, i < k → p i = false) (hp : p k = true) : idxP n p = k := by
  obtain ⟨m, rfl⟩ : ∃ m, n = k + 1 + m := ⟨n - k - 1, by omega⟩
  unfold idxP
  rw [List.range_add, List.range_succ, List.append_assoc, List.find?_append, List.find?_eq_none.2 (fun i hi => by rw [h i (List.mem_range.1 hi)]; decide), Option.none_or, List.singleton_append, List.find?_cons, hp]
theorem anyP_iff {n : Nat} {p : Nat → Bool} : anyP n p = true ↔ ∃ i, i < n ∧ p i = true := by
  unfold anyP
  rw [List.any_eq_true]
  exact ⟨fun ⟨i, h1, h2⟩ => ⟨i, List.mem_range.1 h1, h2⟩, fun ⟨i, h1, h2⟩ => ⟨i, List.mem_range.2 h1, h2⟩⟩
theorem idxP_cases (n : Nat) (p : Nat → Bool) : (idxP n p = -1 ∧ ∀ i, i < n → p i = false) ∨ ∃ k, k < n ∧ (∀ i, i < k → p i = false) ∧ p k = true ∧ idxP n p = k := by
  by_cases h : ∃ i, i < n ∧ p i = true
  · obtain ⟨k, ⟨hk, hp⟩, hmin⟩ := exists_least h
    have hz : ∀ i, i < k → p i = false := fun i hi => by
      cases hpi : p i with
      | false => rfl
      | true => have := hmin i ⟨by omega, hpi⟩; omega
    exact .inr ⟨k, hk, hz, hp, idxP_at hk hz hp⟩
  · have hz : ∀ i, i < n → p i = false := fun i hi => by
      cases hpi : p i with
      | false => rfl
      | true => exact absurd ⟨i, hi, hpi⟩ h
    exact .inl ⟨idxP_no hz, hz⟩
theorem idxP_pos (n : Nat) (p : Nat → Bool) : 0 ≤ idxP n p ↔ anyP n p = true := by
  rw [anyP_iff]
  rcases idxP_cases n p with ⟨e, h⟩ | ⟨k, hk, _, hp, e⟩
  · rw [e]
    exact ⟨fun h => by omega, fun ⟨i, h1, h2⟩ => by rw [h i h1] at h2; cases h2⟩
  · rw [e]
    exact ⟨fun _ => ⟨k, hk, hp⟩, fun _ => by omega⟩
set_option maxRecDepth 100000 in
theorem idxI_s (l : List Int) (g : Nat) (caps : List FV) (p : Nat → Bool) (hl : l.length ≤ 1000000) (hg : ∀ i (hi : i < l.length), Summ Tryz.prog GG g ([iv l[i]] ++ caps) (bv (p i))) : Summ Tryz.prog GG 128 [.sl l.length (intsF l), .fn g caps] (iv (idxP l.length p)) := by
  refine summW Tryz.func128 rfl rfl 19 rfl (by simp) (fun M0 => ?_)
  repeat (first
    | (apply s_a TY; exact rfl)
    | apply w_seq
    | apply w_region
    | apply s_nil
    | apply t_norm
    | apply w_block)
  apply w_loop (fun k : Nat => ⟨(Ab.upd (Ab.upd (Ab.upd (Ab.upd (fun _ => .bot) 0 (.f (.sl l.length (intsF l)))) 1 (.f (.fn g caps))) 7 (.f (iv l.length))) 8 (.f (iv (k : Nat)))), (fun _ => none), 0⟩) (fun k => k ≤ l.length ∧ ∀ i, i < k → p i = false) (fun k => l.length - k) 0 (⟨Nat.zero_le _, fun j h => absurd h (Nat.not_lt_zero j)⟩) (gh_le ⟨le_upd rfl trivial (le_upd rfl trivial (le_upd rfl trivial (le_upd rfl trivial (le_nil _)))), le_h0 _ _⟩)
  intro k ⟨hk, hz⟩
  by_cases hc : k < l.length
  · have Hc := hg k hc
    cases hp : p k with
    | true =>
      rw [hp] at Hc
      rw [idxP_at hc hz hp]
      repeat (first
    | (apply s_a TY; exact rfl)
    | (apply s_t; exact rfl; (first | assumption | omega))
    | apply w_seq
    | apply w_region
    | apply s_nil
    | apply t_norm
    | apply t_ret
    | apply k_ret
    | apply w_block
    | apply w_ret
    | apply w_skip
    | (apply w_condT; exact rfl; exact rfl)
    | (apply s_k (Hc); exact rfl)
    | (apply s_c TY; exact rfl; (first | omega | exact ⟨by omega, by (first | with_reducible assumption | ((with_reducible apply intsF_ne); omega) | assumption)⟩))
    | (apply s_l TY; exact rfl; (first | exact rfl | with_reducible assumption | ((with_reducible apply intsF_at); omega) | assumption)))
      exact lv_ret (ret1 rfl (res_tmp rfl))
    | false =>
      rw [hp] at Hc
      repeat (first
    | (apply s_a TY; exact rfl)
    | (apply s_t; exact rfl; (first | assumption | omega))
    | apply w_seq
    | apply w_region
    | apply s_nil
    | apply t_norm
    | apply k_norm
    | apply w_block
    | apply w_skip
    | (apply w_condT; exact rfl; exact rfl)
    | (apply w_condF; exact rfl; exact rfl)
    | (apply s_k (Hc); exact rfl)
    | (apply s_c TY; exact rfl; (first | omega | exact ⟨by omega, by (first | with_reducible assumption | ((with_reducible apply intsF_ne); omega) | assumption)⟩))
    | (apply s_l TY; exact rfl; (first | exact rfl | with_reducible assumption | ((with_reducible apply intsF_at); omega) | assumption)))
      exact ⟨k + 1, ⟨by omega, fun i hi => by
        by_cases e : i = k
        · subst e; exact hp
        · exact hz i (by omega)⟩, by omega, gh_le ⟨le_upd rfl trivial (le_upd rfl trivial (le_upd rfl trivial (le_upd rfl trivial (le_nil _)))), le_h0 _ _⟩⟩
  · rw [idxP_no fun i hi => hz i (by omega)]
    repeat (first
    | (apply s_a TY; exact rfl)
    | (apply s_f; exact rfl; (first | assumption | omega))
    | apply w_seq
    | apply w_region
    | apply s_nil
    | apply t_norm
    | apply t_exit
    | apply k_hit
    | apply w_exit
    | apply w_ret
    | (apply w_condF; exact rfl; exact rfl))
    exact lv_ret (ret1 rfl (res_tmp rfl))
def ringE (n : Int) : Int := if 1 ≤ n ∧ n ≤ 12 then 0 else 2
def skyChk (rs : List Int) : Nat × Int := if rs.length = 0 then (0, 10) else if 8 < rs.length then (0, 8) else eachE rs.length fun i => ringE (rs.getD i default)
theorem ringE_0 {n : Int} (h : 1 ≤ n ∧ n ≤ 12) : ringE n = 0 := if_pos h
theorem ringE_2 {n : Int} (h : ¬ (1 ≤ n ∧ n ≤ 12)) : ringE n = 2 := if_neg h
theorem ringE_iff {n : Int} : ringE n = 0 ↔ 1 ≤ n ∧ n ≤ 12 := by
  unfold ringE; split <;> simp_all
theorem skyOk_of {rs : List Int} (h : (skyChk rs).2 = 0) : SkyOk rs := by
  unfold skyChk at h
  split at h
  · cases h
  rename_i h1
  split at h
  · cases h
  rename_i h2
  rcases eachE_cases rs.length (fun i => ringE (rs.getD i default)) with ⟨e, hz⟩ | ⟨q, _, _, hne, e⟩
  · exact ⟨by omega, by omega, fun i hi => ringE_iff.1 (hz i hi)⟩
  · rw [e] at h; exact absurd h hne
theorem skyChk_ok {rs : List Int} (o : SkyOk rs) : skyChk rs = (0, 0) := by
  unfold skyChk
  have := o.pos
  have := o.len
  rw [if_neg (by omega), if_neg (by omega)]
  exact eachE_ok fun i hi => ringE_iff.2 (o.ring i hi)
def ringP (rs : List Int) (i : Nat) : Bool := !withinB (rs.getD i default) 1 12
theorem skyChk_idx {rs : List Int} (h1 : ¬ rs.length = 0) (h2 : ¬ 8 < rs.length) : (idxP rs.length (ringP rs) = -1 ∧ skyChk rs = (0, 0)) ∨ ∃ k : Nat, idxP rs.length (ringP rs) = k ∧ skyChk rs = (k, 2) := by
  unfold skyChk
  rw [if_neg h1, if_neg h2]
  have hp : ∀ i, ringP rs i = false ↔ ringE (rs.getD i default) = 0 := fun i => by
    rw [ringE_iff]; simp [ringP, withinB]
  rcases idxP_cases rs.length (ringP rs) with ⟨e, hz⟩ | ⟨k, hk, hz, hpk, e⟩
  · exact .inl ⟨e, eachE_ok fun i hi => (hp i).1 (hz i hi)⟩
  · have hne : ringE (rs.getD k default) ≠ 0 := fun h => by rw [(hp k).2 h] at hpk; cases hpk
    refine .inr ⟨k, e, ?_⟩
    rw [eachE_at hk (fun i hi => (hp i).1 (hz i hi)) hne, ringE_2 (fun h => hne (ringE_0 h))]
theorem ringBad_s (n : Int) : Summ Tryz.prog GG 129 [iv n] (bv (!withinB n 1 12)) := by
  by_cases h : 1 ≤ n ∧ n ≤ 12
  · rw [show withinB n 1 12 = true by simp [withinB, h]]
    refine summW Tryz.func129 rfl rfl 6 rfl (by simp) (fun M0 => ?_)
    repeat (first
    | (apply s_a TY; exact rfl)
    | apply w_seq
    | apply w_region
    | apply s_nil
    | apply t_norm
    | apply w_ret
    | (apply s_k1 (within_T _ _ _); exact rfl; (first | assumption | omega | decide)))
    exact lv_ret (ret1 rfl (res_tmp rfl))
  · rw [show withinB n 1 12 = false by simp [withinB]; omega]
    refine summW Tryz.func129 rfl rfl 6 rfl (by simp) (fun M0 => ?_)
    repeat (first
    | (apply s_a TY; exact rfl)
    | apply w_seq
    | apply w_region
    | apply s_nil
    | apply t_norm
    | apply w_ret
    | (apply s_k1 (within_F _ _ _); exact rfl; (first | assumption | omega | decide)))
    exact lv_ret (ret1 rfl (res_tmp rfl))
set_option maxRecDepth 100000 in
theorem CheckSky_s (rs : List Int) (hl : rs.length ≤ 1000000) : Summ Tryz.prog GG 71 [skF rs] (.tup [iv (skyChk rs).1, iv (skyChk rs).2]) := by
  by_cases h1 : rs.length = 0
  · rw [show skyChk rs = (0, 10) by unfold skyChk; rw [if_pos h1]]
    refine summW Tryz.func71 rfl rfl 27 rfl (by simp) (fun M0 => ?_)
    repeat (first
    | (apply s_a TY; exact rfl)
    | (apply s_t; exact rfl; (first | assumption | omega))
    | (apply s_f; exact rfl; (first | assumption | omega))
    | apply w_seq
    | apply w_region
    | (apply w_draw (id := 1) 9 rfl (by kernel_rfl))
    | apply s_nil
    | apply t_norm
    | apply t_ret
    | apply w_ret
    | (apply w_condT; exact rfl; exact rfl)
    | (apply s_k1 (first2_0 _ _); exact rfl; (first | assumption | omega | decide))
    | (apply s_k (unless_T _); exact rfl)
    | (apply s_k (unless_F _); exact rfl))
    exact lv_ret (ret2 rfl (res_tmp rfl) (res_tmp rfl))
  by_cases h2 : 8 < rs.length
  · rw [show skyChk rs = (0, 8) by unfold skyChk; rw [if_neg h1, if_pos h2]]
    refine summW Tryz.func71 rfl rfl 27 rfl (by simp) (fun M0 => ?_)
    repeat (first
    | (apply s_a TY; exact rfl)
    | (apply s_t; exact rfl; (first | assumption | omega))
    | (apply s_f; exact rfl; (first | assumption | omega))
    | apply w_seq
    | apply w_region
    | (apply w_draw (id := 1) 9 rfl (by kernel_rfl))
    | apply s_nil
    | apply t_norm
    | apply t_ret
    | apply w_ret
    | (apply w_condT; exact rfl; exact rfl)
    | (apply s_k1 (first2_1 _ _); exact rfl; (first | assumption | omega | decide))
    | (apply s_k (unless_T _); exact rfl)
    | (apply s_k (unless_F _); exact rfl))
    exact lv_ret (ret2 rfl (res_tmp rfl) (res_tmp rfl))
  have HI := idxI_s rs 129 [] (ringP rs) (by omega) (fun i hi => by unfold ringP; rw [getD_at hi]; exact ringBad_s _)
  rcases skyChk_idx h1 h2 with ⟨e1, e2⟩ | ⟨k, e1, e2⟩
  · rw [e2]
    rw [e1] at HI
    refine summW Tryz.func71 rfl rfl 27 rfl (by simp) (fun M0 => ?_)
    repeat (first
    | (apply s_a TY; exact rfl)
    | (apply s_t; exact rfl; (first | assumption | omega))
    | (apply s_f; exact rfl; (first | assumption | omega))
    | apply w_seq
    | apply w_region
    | (apply w_draw (id := 1) 9 rfl (by kernel_rfl))
    | apply s_nil
    | apply t_norm
    | apply w_ret
    | apply w_skip
    | (apply w_condF; exact rfl; exact rfl)
    | (apply s_k (HI); exact rfl)
    | (apply s_k1 (first2_1 _ _); exact rfl; (first | assumption | omega | decide))
    | (apply s_k (unless_T _); exact rfl))
    exact lv_ret (ret2 rfl (res_tmp rfl) (res_tmp rfl))
  · rw [e2]
    rw [e1] at HI
    refine summW Tryz.func71 rfl rfl 27 rfl (by simp) (fun M0 => ?_)
    repeat (first
    | (apply s_a TY; exact rfl)
    | (apply s_t; exact rfl; (first | assumption | omega))
    | apply w_seq
    | apply w_region
    | (apply w_draw (id := 1) 9 rfl (by kernel_rfl))
    | apply s_nil
    | apply t_norm
    | apply t_ret
    | apply w_ret
    | apply w_skip
    | (apply w_condT; exact rfl; exact rfl)
    | (apply w_condF; exact rfl; exact rfl)
    | (apply s_k (HI); exact rfl)
    | (apply s_k1 (first2_1 _ _); exact rfl; (first | assumption | omega | decide))
    | (apply s_k (unless_T _); exact rfl))
    exact lv_ret (ret2 rfl (res_tmp rfl) (res_tmp rfl))
theorem rep_nilsl {w : World} {M : Nat → Prop} {v : Value} (h : RepF w M v (.v (.slice none 0 0))) : RepF w M v (.sl 0 []) := by
  have := repV h; subst this
  exact RepF.sl none 0 0 [] [] (Nat.le_refl _) rfl (fun u hu => by cases hu) (fun h => absurd rfl h) (fun k u x h => by simp at h)
theorem celRow {L M : List Cel} (h : L = M) : some (Blk.row 205 4 L.length (celsF L)) = some (Blk.row 205 4 M.length (celsF M)) := by rw [h]
theorem celRow_app {L M : List Cel} {x : Cel} (h : M = L ++ [x]) : some (Blk.row 205 4 (L.length + 1) (celsF L ++ celF x)) = some (Blk.row 205 4 M.length (celsF M)) := by
  rw [h, celsF_snoc, List.length_append]; rfl
set_option maxRecDepth 100000 in
set_option maxHeartbeats 1600000 in
theorem open_ok (rs : List Int) (o : SkyOk rs) : Summ Tryz.prog GG 124 [skF rs] (.tup [xF (skyC rs), iv 0]) := by
  have hlen := o.len
  have HS := CheckSky_s rs (by omega)
  rw [skyChk_ok o] at HS
  refine summW Tryz.func124 rfl rfl 44 rfl (by simp) (fun M0 => ?_)
  repeat (first
    | (apply s_a TY; exact rfl)
    | (apply s_t; exact rfl; (first | assumption | omega))
    | apply w_seq
    | apply w_region
    | apply s_nil
    | apply t_norm
    | apply w_block
    | apply w_skip
    | (apply w_condF; exact rfl; exact rfl)
    | (apply s_k (HS); exact rfl))
  apply w_gh (gh_own 6 205 4 rfl rfl)
  apply w_loop (fun k : Nat => ⟨(Ab.upd (Ab.upd (Ab.upd (Ab.upd (fun _ => .bot) 6 (.ow 0)) 20 (.f (.sl rs.length (intsF rs)))) 21 (.f (iv rs.length))) 22 (.f (iv (k : Nat)))), (Ab.upd (fun _ => none) 0 (some (.row 205 4 (skyK rs k).length (celsF (skyK rs k))))), 1⟩) (fun k => k ≤ rs.length) (fun k => rs.length - k) 0 (Nat.zero_le _) (gh_le ⟨le_upd rfl trivial (le_upd rfl trivial (le_upd rfl trivial (le_upd rfl rfl (le_nil _)))), le_hupd rfl trivial (le_h0 _ _)⟩)
  intro k hk
  by_cases hc : k < rs.length
  · have hr := o.ring k hc
    rw [getD_at hc] at hr
    have hl1 := skyK_len o hk
    have hb1 := befK_bd o hk
    have hsucc : skyK rs (k + 1) = skyK rs k ++ ringC k ((skyK rs k).length : Nat) rs[k] rs[k].toNat := by rw [skyK, getD_at hc]
    repeat (first
    | (apply s_a TY; exact rfl)
    | (apply s_t; exact rfl; (first | assumption | omega))
    | apply w_seq
    | apply w_region
    | apply s_nil
    | apply t_norm
    | apply w_block
    | apply w_skip
    | (apply w_condT; exact rfl; exact rfl)
    | (apply s_c TY; exact rfl; (first | omega | exact ⟨by omega, by (first | with_reducible assumption | ((with_reducible apply intsF_ne); omega) | assumption)⟩))
    | (apply s_l TY; exact rfl; (first | exact rfl | with_reducible assumption | ((with_reducible apply intsF_at); omega) | assumption)))
    apply w_loop (fun j : Nat => ⟨(Ab.upd (Ab.upd (Ab.upd (Ab.upd (Ab.upd (Ab.upd (Ab.upd (Ab.upd (Ab.upd (fun _ => .bot) 6 (.ow 0)) 7 (.f (iv (k : Nat)))) 8 (.f (iv rs[k]))) 9 (.f (iv ((skyK rs k).length : Nat)))) 20 (.f (.sl rs.length (intsF rs)))) 21 (.f (iv rs.length))) 22 (.f (iv (k : Nat)))) 29 (.f (iv rs[k]))) 30 (.f (iv (j : Nat)))), (Ab.upd (fun _ => none) 0 (some (.row 205 4 (skyK rs k ++ ringC k ((skyK rs k).length : Nat) rs[k] j).length (celsF (skyK rs k ++ ringC k ((skyK rs k).length : Nat) rs[k] j))))), 1⟩) (fun j => (j : Int) ≤ rs[k]) (fun j => rs[k].toNat - j) 0 ((by omega)) (gh_le ⟨le_upd rfl trivial (le_upd rfl trivial (le_upd rfl trivial (le_upd rfl trivial (le_upd rfl trivial (le_upd rfl trivial (le_upd rfl trivial (le_upd rfl trivial (le_upd rfl rfl (le_nil _))))))))), le_hupd (celRow (by simp [ringC])) trivial (le_h0 _ _)⟩)
    intro j hj
    have hjl : (skyK rs k ++ ringC k ((skyK rs k).length : Nat) rs[k] j).length = (skyK rs k).length + j := by rw [List.length_append, ringC_len]
    by_cases hjc : (j : Int) < rs[k]
    · repeat (first
    | (apply s_a TY; exact rfl)
    | (apply s_t; exact rfl; (first | assumption | omega))
    | apply w_seq
    | apply w_region
    | apply s_nil
    | apply t_norm
    | apply k_norm
    | apply w_block
    | apply w_skip
    | (apply w_condT; exact rfl; exact rfl)
    | (apply s_c TY; exact rfl; (first | omega | exact ⟨by omega, by (first | with_reducible assumption | ((with_reducible apply intsF_ne); omega) | assumption)⟩))
    | (apply s_append TY; exact rfl; exact rfl; exact rfl; exact rfl; exact rfl; exact rfl; exact rfl; exact rfl; exact rfl; (unfold maxLen; omega); omega))
      exact ⟨j + 1, by omega, by omega, gh_le ⟨le_upd rfl trivial (le_upd rfl trivial (le_upd rfl trivial (le_upd rfl trivial (le_upd rfl trivial (le_upd rfl trivial (le_upd rfl trivial (le_upd rfl trivial (le_upd rfl rfl (le_nil _))))))))), le_hupd (celRow_app (L := skyK rs k ++ ringC k ((skyK rs k).length : Nat) rs[k] j) (x := ⟨k, ((skyK rs k).length : Nat), rs[k], j⟩) (by rw [ringC_succ, ← List.append_assoc])) trivial (le_h0 _ _)⟩⟩
    · have hje : j = rs[k].toNat := by omega
      subst hje
      repeat (first
    | (apply s_a TY; exact rfl)
    | (apply s_f; exact rfl; (first | assumption | omega))
    | apply w_seq
    | apply w_region
    | apply s_nil
    | apply t_norm
    | apply t_exit
    | apply k_hit
    | apply k_norm
    | apply w_exit
    | (apply w_condF; exact rfl; exact rfl)
    | (apply s_c TY; exact rfl; (first | omega | exact ⟨by omega, by (first | with_reducible assumption | ((with_reducible apply intsF_ne); omega) | assumption)⟩)))
      exact ⟨k + 1, by omega, by omega, gh_le ⟨le_upd rfl trivial (le_upd rfl trivial (le_upd rfl trivial (le_upd rfl rfl (le_nil _)))), le_hupd (celRow hsucc.symm) trivial (le_h0 _ _)⟩⟩
  · have hke : k = rs.length := by omega
    subst hke
    repeat (first
    | (apply s_a TY; exact rfl)
    | (apply s_f; exact rfl; (first | assumption | omega))
    | apply w_seq
    | apply w_region
    | apply s_nil
    | apply t_norm
    | apply t_exit
    | apply k_hit
    | apply w_exit
    | apply w_ret
    | (apply w_condF; exact rfl; exact rfl))
    exact lv_ret (ret_gh (gh_row 0 rfl) (ret2 rfl (res_tmp rfl) (res_tmp rfl)))
def celE (c : Int) (n : Int) : Int := if 0 ≤ n ∧ n ≤ c - 1 then 0 else 6
def celsX (c : Int) (l : List Int) (i : Nat) : Int := if ¬ (0 ≤ l.getD i default ∧ l.getD i default ≤ c - 1) then 6 else if i ≠ 0 ∧ l.getD i default ≤ l.getD (i - 1) default then 9 else 0
def celsE (c : Int) (l : List Int) : Int := (eachE l.length (celsX c l)).2
theorem celE_0 {c n : Int} (h : 0 ≤ n ∧ n ≤ c - 1) : celE c n = 0 := if_pos h
theorem celE_6 {c n : Int} (h : ¬ (0 ≤ n ∧ n ≤ c - 1)) : celE c n = 6 := if_neg h
theorem celsE_0 {c : Int} {l : List Int} (h : ∀ i, i < l.length → celsX c l i = 0) : celsE c l = 0 := by unfold celsE; rw [eachE_ok h]
theorem celsE_at {c : Int} {l : List Int} {k : Nat} (hk : k < l.length) (h : ∀ i, i < k → celsX c l i = 0) (hne : celsX c l k ≠ 0) : celsE c l = celsX c l k := by unfold celsE; rw [eachE_at hk h hne]
theorem height_s (cs : List Cel) (b : Int) (hl : cs.length ≤ 1000) (hb : 0 ≤ b ∧ b ≤ 1000) : Summ Tryz.prog GG 131 [xF cs, iv b] (iv (1000000 * ((cs.length : Int) - 2 * b))) := by
  refine summW Tryz.func131 rfl rfl 11 rfl (by simp) (fun M0 => ?_)
  repeat (first
    | (apply s_a TY; exact rfl)
    | apply w_seq
    | apply w_region
    | apply s_nil
    | apply t_norm
    | apply w_ret
    | (apply s_c TY; exact rfl; omega))
  exact lv_ret (ret1 rfl (res_tmp rfl))
set_option maxRecDepth 100000 in
theorem cellErr_s (cs : List Cel) (n : Int) (hl : cs.length ≤ 1000) : Summ Tryz.prog GG 132 [xF cs, iv n] (iv (celE cs.length n)) := by
  by_cases h : 0 ≤ n ∧ n ≤ (cs.length : Int) - 1
  · rw [celE_0 h]
    refine summW Tryz.func132 rfl rfl 11 rfl (by simp) (fun M0 => ?_)
    repeat (first
    | (apply s_a TY; exact rfl)
    | apply w_seq
    | apply w_region
    | apply s_nil
    | apply t_norm
    | apply w_ret
    | (apply s_k (unless_T _); exact rfl)
    | (apply s_k1 (within_T _ _ _); exact rfl; (first | assumption | omega | decide))
    | (apply s_c TY; exact rfl; omega))
    exact lv_ret (ret1 rfl (res_tmp rfl))
  · rw [celE_6 h]
    refine summW Tryz.func132 rfl rfl 11 rfl (by simp) (fun M0 => ?_)
    repeat (first
    | (apply s_a TY; exact rfl)
    | apply w_seq
    | apply w_region
    | apply s_nil
    | apply t_norm
    | apply w_ret
    | (apply s_k (unless_F _); exact rfl)
    | (apply s_k1 (within_F _ _ _); exact rfl; (first | assumption | omega | decide))
    | (apply s_c TY; exact rfl; omega))
    exact lv_ret (ret1 rfl (res_tmp rfl))
theorem cellErrT (cs : List Cel) (n : Int) (hl : cs.length ≤ 1000) (h : 0 ≤ n ∧ n ≤ (cs.length : Int) - 1) : Summ Tryz.prog GG 132 [xF cs, iv n] (iv 0) := by
  have := cellErr_s cs n hl
  rwa [celE_0 h] at this
theorem cellErrF (cs : List Cel) (n : Int) (hl : cs.length ≤ 1000) (h : ¬ (0 ≤ n ∧ n ≤ (cs.length : Int) - 1)) : Summ Tryz.prog GG 132 [xF cs, iv n] (iv 6) := by
  have := cellErr_s cs n hl
  rwa [celE_6 h] at this
set_option maxRecDepth 100000 in
set_option maxHeartbeats 1600000 in
theorem cellsErr_s (cs : List Cel) (l : List Int) (hll : l.length ≤ 1000000) (hl : cs.length ≤ 1000) : Summ Tryz.prog GG 122 [(xF cs), .sl l.length (intsF l)] (iv (celsE (cs.length : Int) l)) := by
  refine summW Tryz.func122 rfl rfl 37 rfl (by simp) (fun M0 => ?_)
  repeat (first
    | (apply s_a TY; exact rfl)
    | apply w_seq
    | apply w_region
    | apply s_nil
    | apply t_norm
    | apply w_block)
  apply w_loop (fun k : Nat => ⟨(Ab.upd (Ab.upd (Ab.upd (Ab.upd (Ab.upd (fun _ => .bot) 0 (.f (xF cs))) 1 (.f (.sl l.length (intsF l)))) 8 (.f (.sl l.length (intsF l)))) 9 (.f (iv l.length))) 10 (.f (iv (k : Nat)))), (fun _ => none), 0⟩) (fun k => k ≤ l.length ∧ ∀ i, i < k → celsX (cs.length : Int) l i = 0) (fun k => l.length - k) 0 (⟨Nat.zero_le _, fun i h => absurd h (Nat.not_lt_zero i)⟩) (gh_le ⟨le_upd rfl trivial (le_upd rfl trivial (le_upd rfl trivial (le_upd rfl trivial (le_upd rfl trivial (le_nil _))))), le_h0 _ _⟩)
  intro k ⟨hk, hz⟩
  by_cases hc : k < l.length
  · have hg := getD_at hc
    by_cases h1 : 0 ≤ l[k] ∧ l[k] ≤ (cs.length : Int) - 1
    · by_cases h0 : k = 0
      · have hx : celsX (cs.length : Int) l k = 0 := by unfold celsX; rw [hg, if_neg (by simpa using h1), if_neg (by omega)]
        subst h0
        repeat (first
    | (apply s_a TY; exact rfl)
    | (apply s_t; exact rfl; (first | assumption | omega))
    | apply w_seq
    | apply w_region
    | apply s_nil
    | apply t_norm
    | apply k_norm
    | apply w_block
    | apply w_skip
    | (apply w_condT; exact rfl; exact rfl)
    | (apply w_condF; exact rfl; exact rfl)
    | (apply s_k2 (cellErrT _ _); exact rfl; (first | assumption | omega | decide); (first | assumption | omega | decide))
    | (apply s_k1 (first2_1 _ _); exact rfl; (first | assumption | omega | decide))
    | (apply s_k (unless_T _); exact rfl)
    | (apply s_s; exact rfl)
    | (apply s_c TY; exact rfl; (first | omega | exact ⟨by omega, by (first | with_reducible assumption | ((with_reducible apply intsF_ne); omega) | assumption)⟩))
    | (apply s_l TY; exact rfl; (first | exact rfl | with_reducible assumption | ((with_reducible apply intsF_at); omega) | assumption)))
        exact ⟨0 + 1, ⟨by omega, fun i hi => by
          have : i = 0 := by omega
          subst this; exact hx⟩, by omega, gh_le ⟨le_upd rfl trivial (le_upd rfl trivial (le_upd rfl trivial (le_upd rfl trivial (le_upd rfl trivial (le_nil _))))), le_h0 _ _⟩⟩
      · have hp : k - 1 < l.length := by omega
        have hgp := getD_at hp
        have hW : (intsF l)[(max 0 (((k : Nat) : Int) - 1)).toNat * 1]? = some (iv l[k - 1]) := by
          rw [show (max 0 (((k : Nat) : Int) - 1)).toNat = k - 1 by omega]; exact intsF_at hp
        by_cases h2 : l[k - 1] < l[k]
        · have hx : celsX (cs.length : Int) l k = 0 := by unfold celsX; rw [hg, if_neg (by simpa using h1), if_neg (by rw [hgp]; omega)]
          repeat (first
    | (apply s_a TY; exact rfl)
    | (apply s_t; exact rfl; (first | assumption | omega))
    | (apply s_f; exact rfl; (first | assumption | omega))
    | apply w_seq
    | apply w_region
    | apply s_nil
    | apply t_norm
    | apply k_norm
    | apply w_block
    | apply w_skip
    | (apply w_condT; exact rfl; exact rfl)
    | (apply w_condF; exact rfl; exact rfl)
    | (apply s_k2 (cellErrT _ _); exact rfl; (first | assumption | omega | decide); (first | assumption | omega | decide))
    | (apply s_k1 (first2_1 _ _); exact rfl; (first | assumption | omega | decide))
    | (apply s_k (unless_T _); exact rfl)
    | (apply s_c TY; exact rfl; (first | omega | exact ⟨by omega, by (first | with_reducible assumption | ((with_reducible apply intsF_ne); omega) | assumption)⟩))
    | (apply s_z TY; exact rfl; (first | omega | exact ⟨by omega, by (first | with_reducible assumption | ((with_reducible apply intsF_ne); omega) | assumption)⟩))
    | (apply s_l TY; exact rfl; (first | exact rfl | with_reducible assumption | ((with_reducible apply intsF_at); omega) | assumption)))
          exact ⟨k + 1, ⟨by omega, fun i hi => by
            by_cases e : i = k
            · subst e; exact hx
            · exact hz i (by omega)⟩, by omega, gh_le ⟨le_upd rfl trivial (le_upd rfl trivial (le_upd rfl trivial (le_upd rfl trivial (le_upd rfl trivial (le_nil _))))), le_h0 _ _⟩⟩
        · have hx : celsX (cs.length : Int) l k = 9 := by unfold celsX; rw [hg, if_neg (by simpa using h1), if_pos ⟨h0, by rw [hgp]; omega⟩]
          rw [celsE_at hc hz (by rw [hx]; decide), hx]
          repeat (first
    | (apply s_a TY; exact rfl)
    | (apply s_t; exact rfl; (first | assumption | omega))
    | (apply s_f; exact rfl; (first | assumption | omega))
    | apply w_seq
    | apply w_region
    | apply s_nil
    | apply t_norm
    | apply t_ret
    | apply k_ret
    | apply w_block
    | apply w_ret
    | apply w_skip
    | (apply w_condT; exact rfl; exact rfl)
    | (apply s_k2 (cellErrT _ _); exact rfl; (first | assumption | omega | decide); (first | assumption | omega | decide))
    | (apply s_k1 (first2_1 _ _); exact rfl; (first | assumption | omega | decide))
    | (apply s_k (unless_F _); exact rfl)
    | (apply s_c TY; exact rfl; (first | omega | exact ⟨by omega, by (first | with_reducible assumption | ((with_reducible apply intsF_ne); omega) | assumption)⟩))
    | (apply s_z TY; exact rfl; (first | omega | exact ⟨by omega, by (first | with_reducible assumption | ((with_reducible apply intsF_ne); omega) | assumption)⟩))
    | (apply s_l TY; exact rfl; (first | exact rfl | with_reducible assumption | ((with_reducible apply intsF_at); omega) | assumption)))
          exact lv_ret (ret1 rfl (res_tmp rfl))
    · have hx : celsX (cs.length : Int) l k = 6 := by unfold celsX; rw [hg, if_pos h1]
      rw [celsE_at hc hz (by rw [hx]; decide), hx]
      by_cases h0 : k = 0
      · subst h0
        repeat (first
    | (apply s_a TY; exact rfl)
    | (apply s_t; exact rfl; (first | assumption | omega))
    | (apply s_f; exact rfl; (first | assumption | omega))
    | apply w_seq
    | apply w_region
    | apply s_nil
    | apply t_norm
    | apply t_ret
    | apply k_ret
    | apply w_block
    | apply w_ret
    | apply w_skip
    | (apply w_condT; exact rfl; exact rfl)
    | (apply s_k2 (cellErrF _ _); exact rfl; (first | assumption | omega | decide); (first | assumption | omega | decide))
    | (apply s_k1 (first2_0 _ _); exact rfl; (first | assumption | omega | decide))
    | (apply s_k (unless_T _); exact rfl)
    | (apply s_s; exact rfl)
    | (apply s_c TY; exact rfl; (first | omega | exact ⟨by omega, by (first | with_reducible assumption | ((with_reducible apply intsF_ne); omega) | assumption)⟩))
    | (apply s_l TY; exact rfl; (first | exact rfl | with_reducible assumption | ((with_reducible apply intsF_at); omega) | assumption)))
        exact lv_ret (ret1 rfl (res_tmp rfl))
      · have hp : k - 1 < l.length := by omega
        have hW : (intsF l)[(max 0 (((k : Nat) : Int) - 1)).toNat * 1]? = some (iv l[k - 1]) := by
          rw [show (max 0 (((k : Nat) : Int) - 1)).toNat = k - 1 by omega]; exact intsF_at hp
        by_cases h2 : l[k - 1] < l[k]
        · repeat (first
    | (apply s_a TY; exact rfl)
    | (apply s_t; exact rfl; (first | assumption | omega))
    | (apply s_f; exact rfl; (first | assumption | omega))
    | apply w_seq
    | apply w_region
    | apply s_nil
    | apply t_norm
    | apply t_ret
    | apply k_ret
    | apply w_block
    | apply w_ret
    | apply w_skip
    | (apply w_condT; exact rfl; exact rfl)
    | (apply s_k2 (cellErrF _ _); exact rfl; (first | assumption | omega | decide); (first | assumption | omega | decide))
    | (apply s_k1 (first2_0 _ _); exact rfl; (first | assumption | omega | decide))
    | (apply s_k (unless_T _); exact rfl)
    | (apply s_c TY; exact rfl; (first | omega | exact ⟨by omega, by (first | with_reducible assumption | ((with_reducible apply intsF_ne); omega) | assumption)⟩))
    | (apply s_z TY; exact rfl; (first | omega | exact ⟨by omega, by (first | with_reducible assumption | ((with_reducible apply intsF_ne); omega) | assumption)⟩))
    | (apply s_l TY; exact rfl; (first | exact rfl | with_reducible assumption | ((with_reducible apply intsF_at); omega) | assumption)))
          exact lv_ret (ret1 rfl (res_tmp rfl))
        · repeat (first
    | (apply s_a TY; exact rfl)
    | (apply s_t; exact rfl; (first | assumption | omega))
    | (apply s_f; exact rfl; (first | assumption | omega))
    | apply w_seq
    | apply w_region
    | apply s_nil
    | apply t_norm
    | apply t_ret
    | apply k_ret
    | apply w_block
    | apply w_ret
    | apply w_skip
    | (apply w_condT; exact rfl; exact rfl)
    | (apply s_k2 (cellErrF _ _); exact rfl; (first | assumption | omega | decide); (first | assumption | omega | decide))
    | (apply s_k1 (first2_0 _ _); exact rfl; (first | assumption | omega | decide))
    | (apply s_k (unless_F _); exact rfl)
    | (apply s_c TY; exact rfl; (first | omega | exact ⟨by omega, by (first | with_reducible assumption | ((with_reducible apply intsF_ne); omega) | assumption)⟩))
    | (apply s_z TY; exact rfl; (first | omega | exact ⟨by omega, by (first | with_reducible assumption | ((with_reducible apply intsF_ne); omega) | assumption)⟩))
    | (apply s_l TY; exact rfl; (first | exact rfl | with_reducible assumption | ((with_reducible apply intsF_at); omega) | assumption)))
          exact lv_ret (ret1 rfl (res_tmp rfl))
  · rw [celsE_0 fun i hi => hz i (by omega)]
    repeat (first
    | (apply s_a TY; exact rfl)
    | (apply s_f; exact rfl; (first | assumption | omega))
    | apply w_seq
    | apply w_region
    | apply s_nil
    | apply t_norm
    | apply t_exit
    | apply k_hit
    | apply w_exit
    | apply w_ret
    | (apply w_condF; exact rfl; exact rfl))
    exact lv_ret (ret1 rfl (res_tmp rfl))
end Go.Proofs.YtenkgipcblfocaaGreat
namespace Go.Proofs.YtenkgipcblfocaaGreat
open Go Go.RowKit Go.Proofs Go.Shelf Go.Ab
theorem cel_bd {rs : List Int} (o : SkyOk rs) {k : Nat} (hk : k < (skyC rs).length) : (0 ≤ (skyC rs)[k].before ∧ (skyC rs)[k].before ≤ 96) ∧ (1 ≤ (skyC rs)[k].count ∧ (skyC rs)[k].count ≤ 12) ∧ (0 ≤ (skyC rs)[k].ring ∧ (skyC rs)[k].ring < 8) ∧ 0 ≤ (skyC rs)[k].index ∧ (skyC rs)[k].index < (skyC rs)[k].count := by
  obtain ⟨r, i, h1, h2, h3, h4⟩ := skyK_at o (Nat.le_refl _) hk
  have h4' : (skyC rs)[k] = ⟨r, befK rs r, rs.getD r default, i⟩ := h4
  have hb := befK_bd o (k := r) (by omega)
  have hr := o.ring r h1
  have hl := o.len
  rw [h4']
  refine ⟨⟨?_, ?_⟩, hr, ⟨?_, ?_⟩, ?_, h2⟩ <;> simp only <;> omega
theorem mul_bd {a b A B : Int} (ha : -A ≤ a ∧ a ≤ A) (hb : 0 ≤ b ∧ b ≤ B) : -(A * B) ≤ a * b ∧ a * b ≤ A * B := by
  have h1 : a * b ≤ A * b := Int.mul_le_mul_of_nonneg_right ha.2 hb.1
  have h2 : A * b ≤ A * B := Int.mul_le_mul_of_nonneg_left hb.2 (by omega)
  have h3 : -A * b ≤ a * b := Int.mul_le_mul_of_nonneg_right ha.1 hb.1
  rw [Int.neg_mul] at h3
  omega
theorem mul_nn {a b A B : Int} (ha : 0 ≤ a ∧ a ≤ A) (hb : 0 ≤ b ∧ b ≤ B) : 0 ≤ a * b ∧ a * b ≤ A * B :=
  ⟨Int.mul_nonneg ha.1 hb.1, (mul_bd ⟨by omega, ha.2⟩ hb).2⟩
theorem lastC_bd {rs : List Int} (o : SkyOk rs) {h : Int} : ∀ k, k ≤ (skyC rs).length → (0 ≤ (lastC rs h (skyC rs) k).before ∧ (lastC rs h (skyC rs) k).before ≤ 96) ∧ 0 ≤ (lastC rs h (skyC rs) k).count ∧ (lastC rs h (skyC rs) k).count ≤ 12
  | 0, _ => by simp [lastC]
  | k + 1, hk => by
    unfold lastC
    split
    · rw [getD_at (show k < (skyC rs).length by omega)]
      have := cel_bd o (show k < (skyC rs).length by omega)
      omega
    · exact lastC_bd o k (by omega)
theorem celBox {x y : Cel} (h : x = y) : some (Blk.box [.f (iv x.ring), .f (iv x.before), .f (iv x.count), .f (iv x.index)]) = some (Blk.box [.f (iv y.ring), .f (iv y.before), .f (iv y.count), .f (iv y.index)]) := by rw [h]
set_option maxRecDepth 100000 in
set_option maxHeartbeats 1600000 in
theorem CellOf_ok (rs : List Int) (p : Pt) (o : SkyOk rs) (h : (-1000000 ≤ p.height ∧ p.height ≤ 1000000) ∧ 0 ≤ p.turn ∧ p.turn ≤ 999999) : Summ Tryz.prog GG 72 [skF rs, ptF p] (.tup [iv (cellZ rs p.height p.turn), iv 0]) := by
  have hp0 := ptE_0 h
  have HP := pointErr_s p
  rw [hp0] at HP
  have hb := skyC_bd o
  have hln := skyC_len o
  have hm := mul_bd h.1 (b := ((skyC rs).length : Int)) (B := 96) (by omega)
  refine summW Tryz.func72 rfl rfl 52 rfl (by simp) (fun M0 => ?_)
  repeat (first
    | (apply s_a TY; exact rfl)
    | (apply s_t; exact rfl; (first | assumption | omega))
    | apply w_seq
    | apply w_region
    | apply s_nil
    | apply t_norm
    | apply w_block
    | apply w_skip
    | (apply w_condF; exact rfl; exact rfl)
    | (apply s_k (HP); exact rfl)
    | (apply s_k1 (first2_1 _ _); exact rfl; (first | assumption | omega | decide))
    | (apply s_k1 (open_ok _); exact rfl; (first | assumption | omega | decide))
    | (apply s_alloc TY; exact rfl; exact rfl; exact rfl)
    | (apply s_store TY; exact rfl; exact rfl; exact rfl; exact rfl; exact rfl; exact rfl))
  apply w_loop (fun k : Nat => ⟨(Ab.upd (Ab.upd (Ab.upd (Ab.upd (Ab.upd (Ab.upd (fun _ => .bot) 3 (.f (.pt [iv p.height, iv p.turn] 0))) 6 (.f (xF (skyC rs)))) 8 (.bx 0 0)) 25 (.f (xF (skyC rs)))) 26 (.f (iv (skyC rs).length))) 27 (.f (iv (k : Nat)))), (Ab.upd (fun _ => none) 0 (some (.box [.f (iv (lastC rs p.height (skyC rs) (k : Nat)).ring), .f (iv (lastC rs p.height (skyC rs) (k : Nat)).before), .f (iv (lastC rs p.height (skyC rs) (k : Nat)).count), .f (iv (lastC rs p.height (skyC rs) (k : Nat)).index)]))), 1⟩) (fun k => k ≤ (skyC rs).length) (fun k => (skyC rs).length - k) 0 (Nat.zero_le _) (gh_le ⟨le_upd rfl trivial (le_upd rfl trivial (le_upd rfl trivial (le_upd rfl rfl (le_upd rfl trivial (le_upd rfl trivial (le_nil _)))))), le_hupd rfl (fun y hy => by simp at hy; rcases hy with rfl | rfl | rfl | rfl <;> trivial) (le_h0 _ _)⟩)
  intro k hk
  by_cases hc : k < (skyC rs).length
  · have hcb := cel_bd o hc
    have hg := getD_at hc
    by_cases hu : p.height * ((skyC rs).length : Int) ≤ 1000000 * (((skyC rs).length : Int) - 2 * (skyC rs)[k].before)
    · have hs : (lastC rs p.height (skyC rs) (k + 1)) = (skyC rs)[k] := by
        rw [lastC, hg, if_pos (by unfold upB; rw [← hln]; simpa using hu)]
      repeat (first
    | (apply s_a TY; exact rfl)
    | (apply s_t; exact rfl; (first | assumption | omega))
    | apply w_seq
    | apply w_region
    | (apply w_draw (id := 9) 9 rfl (by kernel_rfl))
    | apply s_nil
    | apply t_norm
    | apply k_norm
    | apply w_block
    | apply w_skip
    | (apply w_condT; exact rfl; exact rfl)
    | (apply s_k2 (height_s _ _); exact rfl; (first | assumption | omega | decide); (first | assumption | omega | decide))
    | (apply s_c TY; exact rfl; (first | omega | exact ⟨by omega, by (first | with_reducible assumption | ((with_reducible apply celsF_ne); omega) | assumption)⟩))
    | (apply s_m TY; exact rfl; (first | with_reducible assumption | ((with_reducible apply celsF_sub); omega) | exact rfl); exact rfl)
    | (apply s_alloc TY; exact rfl; exact rfl; exact rfl)
    | (apply s_store TY; exact rfl; exact rfl; exact rfl; exact rfl; exact rfl; exact rfl))
      exact ⟨k + 1, by omega, by omega, gh_le ⟨le_upd rfl trivial (le_upd rfl trivial (le_upd rfl trivial (le_upd rfl rfl (le_upd rfl trivial (le_upd rfl trivial (le_nil _)))))), le_hupd (celBox hs.symm) (fun y hy => by simp at hy; rcases hy with rfl | rfl | rfl | rfl <;> trivial) (le_h0 _ _)⟩⟩
    · have hs : (lastC rs p.height (skyC rs) (k + 1)) = (lastC rs p.height (skyC rs) k) := by
        rw [lastC, hg, if_neg (by unfold upB; rw [← hln]; simpa using hu)]
      repeat (first
    | (apply s_a TY; exact rfl)
    | (apply s_t; exact rfl; (first | assumption | omega))
    | (apply s_f; exact rfl; (first | assumption | omega))
    | apply w_seq
    | apply w_region
    | (apply w_draw (id := 9) 9 rfl (by kernel_rfl))
    | apply s_nil
    | apply t_norm
    | apply k_norm
    | apply w_block
    | apply w_skip
    | (apply w_condT; exact rfl; exact rfl)
    | (apply w_condF; exact rfl; exact rfl)
    | (apply s_k2 (height_s _ _); exact rfl; (first | assumption | omega | decide); (first | assumption | omega | decide))
    | (apply s_c TY; exact rfl; (first | omega | exact ⟨by omega, by (first | with_reducible assumption | ((with_reducible apply celsF_ne); omega) | assumption)⟩))
    | (apply s_m TY; exact rfl; (first | with_reducible assumption | ((with_reducible apply celsF_sub); omega) | exact rfl); exact rfl)
    | (apply s_alloc TY; exact rfl; exact rfl; exact rfl)
    | (apply s_store TY; exact rfl; exact rfl; exact rfl; exact rfl; exact rfl; exact rfl))
      exact ⟨k + 1, by omega, by omega, gh_le ⟨le_upd rfl trivial (le_upd rfl trivial (le_upd rfl trivial (le_upd rfl rfl (le_upd rfl trivial (le_upd rfl trivial (le_nil _)))))), le_hupd (celBox hs.symm) (fun y hy => by simp at hy; rcases hy with rfl | rfl | rfl | rfl <;> trivial) (le_h0 _ _)⟩⟩
  · have hke : k = (skyC rs).length := by omega
    subst hke
    have hr := lastC_ring o h.1.2
    have hbd := lastC_bd o (h := p.height) (skyC rs).length (Nat.le_refl _)
    have hm2 := mul_nn (a := p.turn) (A := 999999) h.2 hbd.2
    have hz : cellZ rs p.height p.turn = (lastC rs p.height (skyC rs) (skyC rs).length).before + p.turn * (lastC rs p.height (skyC rs) (skyC rs).length).count / 1000000 := by
      unfold cellZ; rw [hr.1, hr.2]
    rw [hz]
    generalize (lastC rs p.height (skyC rs) (skyC rs).length) = X at *
    repeat (first
    | (apply s_a TY; exact rfl)
    | (apply s_f; exact rfl; (first | assumption | omega))
    | apply w_seq
    | apply w_region
    | apply s_nil
    | apply t_norm
    | apply t_exit
    | apply k_hit
    | apply w_exit
    | apply w_ret
    | (apply w_condF; exact rfl; exact rfl)
    | (apply s_c TY; exact rfl; (first | omega | exact ⟨by omega, by (first | with_reducible assumption | ((with_reducible apply celsF_ne); omega) | assumption)⟩)))
    exact lv_ret (ret2 rfl (res_tmp rfl) (res_tmp rfl))
end Go.Proofs.YtenkgipcblfocaaGreat
namespace Go.Proofs.YtenkgipcblfocaaGreat
open Go Go.RowKit Go.Proofs Go.Shelf Go.Ab
theorem take_eq_succ {α : Type} {a b : List α} {k : Nat} (ha : k < a.length) (hb : k < b.length) (ht : a.take k = b.take k) (he : a[k] = b[k]) : a.take (k + 1) = b.take (k + 1) := by
  rw [List.take_succ_eq_append_getElem ha, List.take_succ_eq_append_getElem hb, ht, he]
theorem take_all_eq {α : Type} {a b : List α} {k : Nat} (hl : a.length = b.length) (hk : a.length ≤ k) (ht : a.take k = b.take k) : a = b := by
  rwa [List.take_of_length_le hk, List.take_of_length_le (by omega)] at ht
set_option maxRecDepth 100000 in
set_option maxHeartbeats 1600000 in
theorem Ints_s (a b : List Int) (ha : a.length ≤ 1000000) (_hb : b.length ≤ 1000000) : Summ Tryz.prog GG 46 [.sl a.length (intsF a), .sl b.length (intsF b)] (bv (decide (a = b))) := by
  by_cases hl : a.length = b.length
  · refine summW Tryz.func46 rfl rfl 26 rfl (by simp) (fun M0 => ?_)
    repeat (first
    | (apply s_a TY; exact rfl)
    | (apply s_t; exact rfl; (first | assumption | omega))
    | apply w_seq
    | apply w_region
    | apply s_nil
    | apply t_norm
    | apply w_block
    | apply w_skip
    | (apply w_condF; exact rfl; exact rfl))
    apply w_loop (fun k : Nat => ⟨(Ab.upd (Ab.upd (Ab.upd (fun _ => .bot) 0 (.f (.sl a.length (intsF a)))) 1 (.f (.sl b.length (intsF b)))) 5 (.f (iv (k : Nat)))), (fun _ => none), 0⟩) (fun k => k ≤ a.length ∧ a.take k = b.take k) (fun k => a.length - k) 0 (⟨Nat.zero_le _, by simp⟩) (gh_le ⟨le_upd rfl trivial (le_upd rfl trivial (le_upd rfl trivial (le_nil _))), le_h0 _ _⟩)
    intro k ⟨hk, ht⟩
    by_cases hc : k < a.length
    · have hcb : k < b.length := by omega
      by_cases he : a[k] = b[k]
      · have hd : decide (a[k] = b[k]) = !false := by simp [he]
        repeat (first
    | (apply s_a TY; exact rfl)
    | (apply s_t; exact rfl; (first | assumption | omega))
    | apply w_seq
    | apply w_region
    | (apply w_draw (id := 6) 8 rfl (by kernel_rfl))
    | apply s_nil
    | apply t_norm
    | apply k_norm
    | apply w_block
    | apply w_skip
    | (apply w_condT; exact rfl; exact rfl)
    | (apply w_condF; exact rfl; exact rfl)
    | (apply s_c TY; exact rfl; (first | omega | exact ⟨by omega, by (first | with_reducible assumption | ((with_reducible apply intsF_ne); omega) | assumption)⟩))
    | (apply s_l TY; exact rfl; (first | exact rfl | with_reducible assumption | ((with_reducible apply intsF_at); omega) | assumption)))
        exact ⟨k + 1, ⟨by omega, take_eq_succ hc hcb ht he⟩, by omega, gh_le ⟨le_upd rfl trivial (le_upd rfl trivial (le_upd rfl trivial (le_nil _))), le_h0 _ _⟩⟩
      · have hd : decide (a[k] = b[k]) = !true := by simp [he]
        have hne : ¬ a = b := fun e => he (by simp [e])
        rw [decide_eq_false hne]
        repeat (first
    | (apply s_a TY; exact rfl)
    | (apply s_t; exact rfl; (first | assumption | omega))
    | (apply s_f; exact rfl; (first | assumption | omega))
    | apply w_seq
    | apply w_region
    | (apply w_draw (id := 6) 8 rfl (by kernel_rfl))
    | apply s_nil
    | apply t_norm
    | apply t_ret
    | apply k_ret
    | apply w_block
    | apply w_ret
    | apply w_skip
    | (apply w_condT; exact rfl; exact rfl)
    | (apply s_c TY; exact rfl; (first | omega | exact ⟨by omega, by (first | with_reducible assumption | ((with_reducible apply intsF_ne); omega) | assumption)⟩))
    | (apply s_l TY; exact rfl; (first | exact rfl | with_reducible assumption | ((with_reducible apply intsF_at); omega) | assumption)))
        exact lv_ret (ret1 rfl (res_tmp rfl))
    · rw [decide_eq_true (take_all_eq hl (by omega) ht)]
      repeat (first
    | (apply s_a TY; exact rfl)
    | (apply s_f; exact rfl; (first | assumption | omega))
    | apply w_seq
    | apply w_region
    | apply s_nil
    | apply t_norm
    | apply t_exit
    | apply k_hit
    | apply w_exit
    | apply w_ret
    | (apply w_condF; exact rfl; exact rfl))
      exact lv_ret (ret1 rfl (res_tmp rfl))
  · have hne : ¬ a = b := fun e => hl (by rw [e])
    rw [decide_eq_false hne]
    refine summW Tryz.func46 rfl rfl 26 rfl (by simp) (fun M0 => ?_)
    repeat (first
    | (apply s_a TY; exact rfl)
    | (apply s_f; exact rfl; (first | assumption | omega))
    | apply w_seq
    | apply w_region
    | apply s_nil
    | apply t_norm
    | apply t_ret
    | apply w_ret
    | (apply w_condT; exact rfl; exact rfl))
    exact lv_ret (ret1 rfl (res_tmp rfl))
def hasP (l : List Int) (n : Int) (i : Nat) : Bool := decide (l.getD i default = n)
theorem anyP_has (l : List Int) (n : Int) : anyP l.length (hasP l n) = l.contains n := by
  rw [Bool.eq_iff_iff, anyP_iff]
  unfold hasP
  simp only [decide_eq_true_eq, List.contains_eq_mem]
  constructor
  · rintro ⟨i, hi, rfl⟩; rw [getD_at hi]; exact List.getElem_mem hi
  · intro h
    obtain ⟨i, hi, rfl⟩ := List.getElem_of_mem h
    exact ⟨i, hi, getD_at hi⟩
set_option maxRecDepth 100000 in
theorem Index_s (l : List Int) (n : Int) (hl : l.length ≤ 1000000) : Summ Tryz.prog GG 196 [.sl l.length (intsF l), iv n] (iv (idxP l.length (hasP l n))) := by
  rcases idxP_cases l.length (hasP l n) with ⟨he, hz⟩ | ⟨q, hq, hz, hp, he⟩
  · rw [he]
    refine summW Tryz.func196 rfl rfl 19 rfl (by simp) (fun M0 => ?_)
    repeat (first
    | (apply s_a TY; exact rfl)
    | apply w_seq
    | apply w_region
    | apply s_nil
    | apply t_norm
    | apply w_block)
    apply w_loop (fun k : Nat => ⟨(Ab.upd (Ab.upd (Ab.upd (Ab.upd (fun _ => .bot) 0 (.f (.sl l.length (intsF l)))) 1 (.f (iv n))) 7 (.f (iv l.length))) 8 (.f (iv ((k : Nat) : Int)))), (fun _ => none), 0⟩) (fun k => k ≤ l.length) (fun k => l.length - k) 0 (Nat.zero_le _) (gh_le ⟨le_upd rfl trivial (le_upd rfl trivial (le_upd rfl trivial (le_upd rfl trivial (le_nil _)))), le_h0 _ _⟩)
    intro k hk
    by_cases hc : k < l.length
    · have hne : ¬ l[k] = n := by have := hz k hc; unfold hasP at this; rw [getD_at hc] at this; simpa using this
      repeat (first
    | (apply s_a TY; exact rfl)
    | (apply s_t; exact rfl; (first | assumption | omega))
    | (apply s_f; exact rfl; (first | assumption | omega))
    | apply w_seq
    | apply w_region
    | apply s_nil
    | apply t_norm
    | apply k_norm
    | apply w_block
    | apply w_skip
    | (apply w_condT; exact rfl; exact rfl)
    | (apply w_condF; exact rfl; exact rfl)
    | (apply s_c TY; exact rfl; (first | omega | exact ⟨by omega, by (first | with_reducible assumption | ((with_reducible apply intsF_ne); omega) | assumption)⟩))
    | (apply s_l TY; exact rfl; (first | exact rfl | with_reducible assumption | ((with_reducible apply intsF_at); omega) | assumption)))
      exact ⟨k + 1, by omega, by omega, gh_le ⟨le_upd rfl trivial (le_upd rfl trivial (le_upd rfl trivial (le_upd rfl trivial (le_nil _)))), le_h0 _ _⟩⟩
    · repeat (first
    | (apply s_a TY; exact rfl)
    | (apply s_f; exact rfl; (first | assumption | omega))
    | apply w_seq
    | apply w_region
    | apply s_nil
    | apply t_norm
    | apply t_exit
    | apply k_hit
    | apply w_exit
    | apply w_ret
    | (apply w_condF; exact rfl; exact rfl))
      exact lv_ret (ret1 rfl (res_tmp rfl))
  · rw [he]
    refine summW Tryz.func196 rfl rfl 19 rfl (by simp) (fun M0 => ?_)
    repeat (first
    | (apply s_a TY; exact rfl)
    | apply w_seq
    | apply w_region
    | apply s_nil
    | apply t_norm
    | apply w_block)
    apply w_loop (fun k : Nat => ⟨(Ab.upd (Ab.upd (Ab.upd (Ab.upd (fun _ => .bot) 0 (.f (.sl l.length (intsF l)))) 1 (.f (iv n))) 7 (.f (iv l.length))) 8 (.f (iv ((k : Nat) : Int)))), (fun _ => none), 0⟩) (fun k => k ≤ q) (fun k => q - k) 0 (Nat.zero_le _) (gh_le ⟨le_upd rfl trivial (le_upd rfl trivial (le_upd rfl trivial (le_upd rfl trivial (le_nil _)))), le_h0 _ _⟩)
    intro k hk
    have hc : k < l.length := by omega
    by_cases hkq : k = q
    · have he2 : l[k] = n := by have := hp; unfold hasP at this; rw [← hkq, getD_at hc] at this; simpa using this
      subst hkq
      repeat (first
    | (apply s_a TY; exact rfl)
    | (apply s_t; exact rfl; (first | assumption | omega))
    | apply w_seq
    | apply w_region
    | apply s_nil
    | apply t_norm
    | apply t_ret
    | apply k_ret
    | apply w_block
    | apply w_ret
    | apply w_skip
    | (apply w_condT; exact rfl; exact rfl)
    | (apply s_c TY; exact rfl; (first | omega | exact ⟨by omega, by (first | with_reducible assumption | ((with_reducible apply intsF_ne); omega) | assumption)⟩))
    | (apply s_l TY; exact rfl; (first | exact rfl | with_reducible assumption | ((with_reducible apply intsF_at); omega) | assumption)))
      exact lv_ret (ret1 rfl (res_tmp rfl))
    · have hne : ¬ l[k] = n := by have := hz k (by omega); unfold hasP at this; rw [getD_at hc] at this; simpa using this
      repeat (first
    | (apply s_a TY; exact rfl)
    | (apply s_t; exact rfl; (first | assumption | omega))
    | (apply s_f; exact rfl; (first | assumption | omega))
    | apply w_seq
    | apply w_region
    | apply s_nil
    | apply t_norm
    | apply k_norm
    | apply w_block
    | apply w_skip
    | (apply w_condT; exact rfl; exact rfl)
    | (apply w_condF; exact rfl; exact rfl)
    | (apply s_c TY; exact rfl; (first | omega | exact ⟨by omega, by (first | with_reducible assumption | ((with_reducible apply intsF_ne); omega) | assumption)⟩))
    | (apply s_l TY; exact rfl; (first | exact rfl | with_reducible assumption | ((with_reducible apply intsF_at); omega) | assumption)))
      exact ⟨k + 1, by omega, by omega, gh_le ⟨le_upd rfl trivial (le_upd rfl trivial (le_upd rfl trivial (le_upd rfl trivial (le_nil _)))), le_h0 _ _⟩⟩
set_option maxRecDepth 100000 in
theorem Contains_s (l : List Int) (n : Int) (hl : l.length ≤ 1000000) : Summ Tryz.prog GG 165 [.sl l.length (intsF l), iv n] (bv (l.contains n)) := by
  have HI := Index_s l n hl
  rw [← anyP_has]
  cases ha : anyP l.length (hasP l n) with
  | true =>
    have h0 := (idxP_pos l.length (hasP l n)).2 ha
    refine summW Tryz.func165 rfl rfl 9 rfl (by simp) (fun M0 => ?_)
    repeat (first
    | (apply s_a TY; exact rfl)
    | (apply s_t; exact rfl; (first | assumption | omega))
    | apply w_seq
    | apply w_region
    | apply s_nil
    | apply t_norm
    | apply w_ret
    | (apply s_k (HI); exact rfl))
    exact lv_ret (ret1 rfl (res_tmp rfl))
  | false =>
    have h0 : ¬ 0 ≤ idxP l.length (hasP l n) := fun h => by rw [(idxP_pos l.length (hasP l n)).1 h] at ha; cases ha
    refine summW Tryz.func165 rfl rfl 9 rfl (by simp) (fun M0 => ?_)
    repeat (first
    | (apply s_a TY; exact rfl)
    | (apply s_f; exact rfl; (first | assumption | omega))
    | apply w_seq
    | apply w_region
    | apply s_nil
    | apply t_norm
    | apply w_ret
    | (apply s_k (HI); exact rfl))
    exact lv_ret (ret1 rfl (res_tmp rfl))
set_option maxRecDepth 100000 in
theorem Has_s (l : List Int) (n : Int) (hl : l.length ≤ 1000000) : Summ Tryz.prog GG 52 [.sl l.length (intsF l), iv n] (bv (l.contains n)) := by
  rw [← anyP_has]
  rcases idxP_cases l.length (hasP l n) with ⟨he, hz⟩ | ⟨q, hq, hz, hp, he⟩
  · rw [show anyP l.length (hasP l n) = false from Bool.eq_false_iff.2 fun h => by have := (idxP_pos _ _).2 h; rw [he] at this; omega]
    refine summW Tryz.func52 rfl rfl 18 rfl (by simp) (fun M0 => ?_)
    repeat (first
    | (apply s_a TY; exact rfl)
    | apply w_seq
    | apply w_region
    | apply s_nil
    | apply t_norm
    | apply w_block)
    apply w_loop (fun k : Nat => ⟨(Ab.upd (Ab.upd (Ab.upd (fun _ => .bot) 0 (.f (.sl l.length (intsF l)))) 1 (.f (iv n))) 5 (.f (iv ((k : Nat) : Int)))), (fun _ => none), 0⟩) (fun k => k ≤ l.length) (fun k => l.length - k) 0 (Nat.zero_le _) (gh_le ⟨le_upd rfl trivial (le_upd rfl trivial (le_upd rfl trivial (le_nil _))), le_h0 _ _⟩)
    intro k hk
    by_cases hc : k < l.length
    · have hne : ¬ l[k] = n := by have := hz k hc; unfold hasP at this; rw [getD_at hc] at this; simpa using this
      repeat (first
    | (apply s_a TY; exact rfl)
    | (apply s_t; exact rfl; (first | assumption | omega))
    | (apply s_f; exact rfl; (first | assumption | omega))
    | apply w_seq
    | apply w_region
    | apply s_nil
    | apply t_norm
    | apply k_norm
    | apply w_block
    | apply w_skip
    | (apply w_condT; exact rfl; exact rfl)
    | (apply w_condF; exact rfl; exact rfl)
    | (apply s_c TY; exact rfl; (first | omega | exact ⟨by omega, by (first | with_reducible assumption | ((with_reducible apply intsF_ne); omega) | assumption)⟩))
    | (apply s_l TY; exact rfl; (first | exact rfl | with_reducible assumption | ((with_reducible apply intsF_at); omega) | assumption)))
      exact ⟨k + 1, by omega, by omega, gh_le ⟨le_upd rfl trivial (le_upd rfl trivial (le_upd rfl trivial (le_nil _))), le_h0 _ _⟩⟩
    · repeat (first
    | (apply s_a TY; exact rfl)
    | (apply s_f; exact rfl; (first | assumption | omega))
    | apply w_seq
    | apply w_region
    | apply s_nil
    | apply t_norm
    | apply t_exit
    | apply k_hit
    | apply w_exit
    | apply w_ret
    | (apply w_condF; exact rfl; exact rfl))
      exact lv_ret (ret1 rfl (res_tmp rfl))
  · rw [show anyP l.length (hasP l n) = true from (idxP_pos _ _).1 (by rw [he]; omega)]
    refine summW Tryz.func52 rfl rfl 18 rfl (by simp) (fun M0 => ?_)
    repeat (first
    | (apply s_a TY; exact rfl)
    | apply w_seq
    | apply w_region
    | apply s_nil
    | apply t_norm
    | apply w_block)
    apply w_loop (fun k : Nat => ⟨(Ab.upd (Ab.upd (Ab.upd (fun _ => .bot) 0 (.f (.sl l.length (intsF l)))) 1 (.f (iv n))) 5 (.f (iv ((k : Nat) : Int)))), (fun _ => none), 0⟩) (fun k => k ≤ q) (fun k => q - k) 0 (Nat.zero_le _) (gh_le ⟨le_upd rfl trivial (le_upd rfl trivial (le_upd rfl trivial (le_nil _))), le_h0 _ _⟩)
    intro k hk
    have hc : k < l.length := by omega
    by_cases hkq : k = q
    · have he2 : l[k] = n := by have := hp; unfold hasP at this; rw [← hkq, getD_at hc] at this; simpa using this
      subst hkq
      repeat (first
    | (apply s_a TY; exact rfl)
    | (apply s_t; exact rfl; (first | assumption | omega))
    | apply w_seq
    | apply w_region
    | apply s_nil
    | apply t_norm
    | apply t_ret
    | apply k_ret
    | apply w_block
    | apply w_ret
    | apply w_skip
    | (apply w_condT; exact rfl; exact rfl)
    | (apply s_c TY; exact rfl; (first | omega | exact ⟨by omega, by (first | with_reducible assumption | ((with_reducible apply intsF_ne); omega) | assumption)⟩))
    | (apply s_l TY; exact rfl; (first | exact rfl | with_reducible assumption | ((with_reducible apply intsF_at); omega) | assumption)))
      exact lv_ret (ret1 rfl (res_tmp rfl))
    · have hne : ¬ l[k] = n := by have := hz k (by omega); unfold hasP at this; rw [getD_at hc] at this; simpa using this
      repeat (first
    | (apply s_a TY; exact rfl)
    | (apply s_t; exact rfl; (first | assumption | omega))
    | (apply s_f; exact rfl; (first | assumption | omega))
    | apply w_seq
    | apply w_region
    | apply s_nil
    | apply t_norm
    | apply k_norm
    | apply w_block
    | apply w_skip
    | (apply w_condT; exact rfl; exact rfl)
    | (apply w_condF; exact rfl; exact rfl)
    | (apply s_c TY; exact rfl; (first | omega | exact ⟨by omega, by (first | with_reducible assumption | ((with_reducible apply intsF_ne); omega) | assumption)⟩))
    | (apply s_l TY; exact rfl; (first | exact rfl | with_reducible assumption | ((with_reducible apply intsF_at); omega) | assumption)))
      exact ⟨k + 1, by omega, by omega, gh_le ⟨le_upd rfl trivial (le_upd rfl trivial (le_upd rfl trivial (le_nil _))), le_h0 _ _⟩⟩
def encJ (z : Int) : List Value := [.int .i64 z]
theorem encJ_len : ∀ x, (encJ x).length = 1 := fun _ => rfl
theorem encJ_one (l : List Int) : ∀ u ∈ l.flatMap encJ, u.oneCell' = true := by
  intro u hu
  obtain ⟨z, _, h⟩ := List.mem_flatMap.1 hu
  simp [encJ] at h
  subst h; rfl
theorem infoI : (Tryz.prog.info? 3).map (fun i => (i.zero, i.size, i.bytes)) = some (some (.int .i64 0), 1, 8) := by kernel_rfl
theorem detC_append : ∀ {a b : List FV} {p q : List Value}, detC a = some p → detC b = some q → detC (a ++ b) = some (p ++ q)
  | [], b, p, q, h, h' => by simp [detC] at h; subst h; simpa using h'
  | .v x :: a, b, p, q, h, h' => by
    cases hr : detC a with
    | none => simp [detC, hr] at h
    | some l => simp [detC, hr] at h; subst h; simp [detC, detC_append hr h']
  | .sl _ _ :: _, _, _, _, h, _ => by simp [detC] at h
  | .agg _ :: _, _, _, _, h, _ => by simp [detC] at h
  | .tup _ :: _, _, _, _, h, _ => by simp [detC] at h
  | .pt _ _ :: _, _, _, _, h, _ => by simp [detC] at h
  | .fn _ _ :: _, _, _, _, h, _ => by simp [detC] at h
  | .slc _ _ :: _, _, _, _, h, _ => by simp [detC] at h
  | .mp _ :: _, _, _, _, h, _ => by simp [detC] at h
theorem detC_flat {α : Type} {f : α → List FV} {e : α → List Value} (h : ∀ x, detC (f x) = some (e x)) : ∀ l : List α, detC (l.flatMap f) = some (l.flatMap e)
  | [] => rfl
  | x :: l => by rw [List.flatMap_cons, List.flatMap_cons]; exact detC_append (h x) (detC_flat h l)
theorem detC_ints (l : List Int) : detC (intsF l) = some (l.flatMap encJ) := by
  have := detC_flat (f := fun z => [iv z]) (e := encJ) (fun _ => rfl) l
  rwa [show l.flatMap (fun z => [iv z]) = intsF l by unfold intsF; induction l with | nil => rfl | cons x l ih => rw [List.flatMap_cons, List.map_cons, ih (detC_flat (f := fun z => [iv z]) (e := encJ) (fun _ => rfl) l)]; rfl] at this
theorem rep_row {w : World} {M : Nat → Prop} {v : Value} {n : Nat} {cs : List FV} {us : List Value} (h : RepF w M v (.sl n cs)) (hd : detC cs = some us) : ∃ a c, v = .slice a n c ∧ n ≤ c ∧ Row w a us := by
  cases h with
  | sl a _ c _ vs h1 h2 h3 h4 h5 =>
    have := detC_spec ⟨h2, h5⟩ hd
    subst this
    refine ⟨a, c, rfl, h1, ⟨fun hn => ?_⟩⟩
    obtain ⟨b, off, e, L⟩ := h4 hn
    exact ⟨b, off, e, L.lt, L.at_⟩
theorem repL_det {w : World} {M : Nat → Prop} {us : List Value} : ∀ {cs : List FV}, detC cs = some us → RepL w M us cs
  | [], h => by simp [detC] at h; subst h; exact RepL.nil _ _
  | .v x :: r, h => by
    cases hr : detC r with
    | none => simp [detC, hr] at h
    | some l => simp [detC, hr] at h; subst h; exact RepL.cons (RepF.v x) (repL_det hr)
  | .sl _ _ :: _, h => by simp [detC] at h
  | .agg _ :: _, h => by simp [detC] at h
  | .tup _ :: _, h => by simp [detC] at h
  | .pt _ _ :: _, h => by simp [detC] at h
  | .fn _ _ :: _, h => by simp [detC] at h
  | .slc _ _ :: _, h => by simp [detC] at h
  | .mp _ :: _, h => by simp [detC] at h
theorem own_sl {w w' : World} {M : Nat → Prop} {e sz n : Nat} {v : Value} {us : List Value} {cs : List FV} (own : w'.ownsRow w.heap.size e sz v n us) (one : ∀ u ∈ us, u.oneCell' = true) (hM : ∀ b, M b → b < w.heap.size) (R : RepL w' M us cs) : RepF w' M v (.sl n cs) := by
  rcases own.2 with ⟨h1, h2⟩ | ⟨g, cap, cur, h1, h2, h3, h4, h5, h6, h7⟩
  · subst h1; subst h2
    have hx : us = [] := List.eq_nil_of_length_eq_zero (by rw [own.1]; simp)
    subst hx
    exact RepF.sl none 0 0 cs [] (Nat.le_refl _) R.1 one (fun h => absurd rfl h) (fun k u x h => by simp at h)
  · subst h1
    refine RepF.sl _ n cap cs us h4 R.1 one (fun _ => ⟨g, 0, rfl, (Array.getElem?_eq_some_iff.1 h3).1, fun hm => by have := hM g hm; omega, fun k hk => ?_⟩) R.2
    have := own.cells (g := g) rfl k _ (List.getElem?_eq_getElem hk)
    rw [addr_add, Nat.zero_add] at this
    rw [Nat.zero_add, this, List.getElem?_eq_getElem hk]
set_option maxRecDepth 100000 in
set_option maxHeartbeats 1000000 in
theorem cloneInt (a : Option Addr) (l : List Int) (c : Nat) (w : World) (hr : RowS encJ w a l) (hl : l.length ≤ 1000000) :
    Calls Tryz.prog 149 #[.slice a l.length c] w fun e w' => ∃ a' c', e = .returned (.slice a' l.length c') ∧ w'.ownsRow w.heap.size 3 1 (.slice a' l.length c') l.length (l.flatMap encJ) ∧ Ext w w' := by
  obtain ⟨i0, hi, hz0, hz1, hz2⟩ := info_parts infoI
  have HI := Lib.hid hi
  have HZ0 := Lib.hid hz0
  have HZ1 := Lib.hid hz1
  have HZ2 := Lib.hid hz2
  clear hi hz0 hz1 hz2
  have HR := Lib.hid hr
  clear hr
  have hnil := fun (w : World) (a : Option Addr) (n c : Nat) => Lib.run_eql_slice_nil (P := Tryz.prog) w 34 3 a n c 0 0 Tryz.underlying34
  cases ha : a with
  | none =>
    subst ha
    have hl : l = [] := Classical.byContradiction fun hne => by
      cases l with
      | nil => exact hne rfl
      | cons x l =>
        obtain ⟨_, _, e, _⟩ := HR.out.at_ (by simp [List.flatMap_cons, encJ])
        cases e
    subst hl
    go_enter Tryz.func149, Tryz.ntmps149
    go_wp2_with fail
    go_ret
    exact ⟨none, 0, rfl, World.ownsRow_nil _ _ _ _, Ext.refl _⟩
  | some ad =>
    subst ha
    go_enter Tryz.func149, Tryz.ntmps149
    have hown0 := Lib.hid (World.ownsRow_lit (base := w.heap.size) (size := 1) (e := 3) w #[] 0 (Nat.le_refl _) (by decide) (by simp))
    go_wp2_with (refine wpList_append_row rfl (.tmp 5) (.tmp 6) 34 rfl w.heap.size 3 i0 (.int .i64 0) 1 8 Tryz.underlying34 HI.out HZ0.out HZ1.out HZ2.out rfl (by decide) _ 0 _ rfl hown0.out (some ad) l.length c (l.flatMap encJ) rfl (flatMap_length encJ_len l) (HR.out.ext (Ext.alloc _ _)) (encJ_one l) ?m1 ?m2 ?m3 ?_)
    case m1 => unfold maxLen; omega
    case m2 => omega
    intro v' w1 hown hgrow
    have hx := Lib.hid ((Ext.alloc w _).grown hgrow (fun k e => by simp [Value.ownBlock] at e; omega))
    obtain ⟨a', c', rfl⟩ := hown.isSlice
    have HO := Lib.hid hown
    clear hown hgrow hown0
    go_wp2_with fail
    go_ret
    exact ⟨a', c', rfl, HO.out, hx.out⟩
theorem clone_s (l : List Int) (hl : l.length ≤ 1000000) : Summ Tryz.prog GG 149 [.sl l.length (intsF l)] (.sl l.length (intsF l)) := by
  refine ⟨enters_of Tryz.func149 (by kernel_rfl) rfl, fun w M us hM hG R => ?_⟩
  obtain ⟨u1, us1, rfl, r1, R1⟩ := R.head
  have := R1.end; subst this
  obtain ⟨a, c, rfl, _, rr⟩ := rep_row r1 (detC_ints l)
  exact (cloneInt a l c w rr hl).mono fun e w' ⟨a', c', h1, h2, h3⟩ => ⟨_, h1, own_sl h2 (encJ_one l) hM (repL_det (detC_ints l)), h3⟩
set_option maxRecDepth 100000 in
theorem clip_s (l : List Int) : Summ Tryz.prog GG 166 [.sl l.length (intsF l)] (.slc l.length (intsF l)) := by
  have hlen : (intsF l).length = l.length * 1 := intsF_len l
  refine summW Tryz.func166 rfl rfl 9 rfl (by simp) (fun M0 => ?_)
  repeat (first
    | (apply s_clip TY; exact rfl; exact rfl; exact rfl; exact rfl; exact rfl; exact rfl; exact hlen)
    | (apply s_a TY; exact rfl)
    | apply w_seq
    | apply w_region
    | apply s_nil
    | apply t_norm
    | apply w_ret)
  exact lv_ret (ret1 rfl (res_tmp rfl))
def jobP (x : Job) : Prop := (0 ≤ x.ready ∧ x.ready ≤ 1000000000000) ∧ (0 ≤ x.due ∧ x.due ≤ 1000000000000) ∧ (1 ≤ x.length ∧ x.length ≤ 100000) ∧ (0 ≤ x.rank ∧ x.rank ≤ 100000)
instance (x : Job) : Decidable (jobP x) := by unfold jobP; infer_instance
def jobE (l : List Job) (i : Nat) : Int := if jobP (l.getD i default) then 0 else 2
def jobsChk (l : List Job) : Nat × Int := if 7 < l.length then (0, 8) else eachE l.length (jobE l)
theorem jobE_iff {l : List Job} {i : Nat} : jobE l i = 0 ↔ jobP (l.getD i default) := by unfold jobE; split <;> simp_all
theorem jobsOk_of {l : List Job} (h : (jobsChk l).2 = 0) : JobsOk l := by
  unfold jobsChk at h
  split at h
  · cases h
  rename_i h1
  rcases eachE_cases l.length (jobE l) with ⟨e, hz⟩ | ⟨q, _, _, hne, e⟩
  · exact ⟨by omega, fun i hi => jobE_iff.1 (hz i hi)⟩
  · rw [e] at h; exact absurd h hne
theorem jobsChk_ok {l : List Job} (o : JobsOk l) : jobsChk l = (0, 0) := by
  unfold jobsChk
  have := o.len
  rw [if_neg (by omega)]
  exact eachE_ok fun i hi => jobE_iff.2 (o.job i hi)
theorem tickErr_T (n : Int) (h : 0 ≤ n ∧ n ≤ 1000000000000) : Summ Tryz.prog GG 98 [iv n] (iv 0) := by
  have := tickErr_s n
  rwa [tickE_0 h] at this
theorem tickErr_F (n : Int) (h : ¬ (0 ≤ n ∧ n ≤ 1000000000000)) : Summ Tryz.prog GG 98 [iv n] (iv 2) := by
  have := tickErr_s n
  rwa [tickE_2 h] at this
theorem rTickErr_T (n : Int) (h : 0 ≤ n ∧ n ≤ 1000000000000) : Summ Tryz.prog GG 19 [iv n] (iv 0) := by
  have := rTickErr_s n
  rwa [tickE_0 h] at this
theorem rTickErr_F (n : Int) (h : ¬ (0 ≤ n ∧ n ≤ 1000000000000)) : Summ Tryz.prog GG 19 [iv n] (iv 2) := by
  have := rTickErr_s n
  rwa [tickE_2 h] at this
set_option maxRecDepth 100000 in
set_option maxHeartbeats 1600000 in
theorem CheckJobs_s (l : List Job) (hl : l.length ≤ 1000000) : Summ Tryz.prog GG 56 [.sl l.length (jobsF l)] (.tup [iv (jobsChk l).1, iv (jobsChk l).2]) := by
  by_cases h7 : 7 < l.length
  · rw [show jobsChk l = (0, 8) by unfold jobsChk; rw [if_pos h7]]
    refine summW Tryz.func56 rfl rfl 41 rfl (by simp) (fun M0 => ?_)
    repeat (first
    | (apply s_a TY; exact rfl)
    | (apply s_t; exact rfl; (first | assumption | omega))
    | apply w_seq
    | apply w_region
    | apply s_nil
    | apply t_norm
    | apply t_ret
    | apply w_ret
    | (apply w_condT; exact rfl; exact rfl))
    exact lv_ret (ret2 rfl (res_tmp rfl) (res_tmp rfl))
  rw [show jobsChk l = eachE l.length (jobE l) by unfold jobsChk; rw [if_neg h7]]
  refine summW Tryz.func56 rfl rfl 41 rfl (by simp) (fun M0 => ?_)
  repeat (first
    | (apply s_a TY; exact rfl)
    | (apply s_f; exact rfl; (first | assumption | omega))
    | apply w_seq
    | apply w_region
    | apply s_nil
    | apply t_norm
    | apply w_block
    | apply w_skip
    | (apply w_condF; exact rfl; exact rfl))
  apply w_loop (fun k : Nat => ⟨(Ab.upd (Ab.upd (Ab.upd (fun _ => .bot) 11 (.f (.sl l.length (jobsF l)))) 12 (.f (iv l.length))) 13 (.f (iv (k : Nat)))), (fun _ => none), 0⟩) (fun k => k ≤ l.length ∧ ∀ i, i < k → jobE l i = 0) (fun k => l.length - k) 0 (⟨Nat.zero_le _, fun i h => absurd h (Nat.not_lt_zero i)⟩) (gh_le ⟨le_upd rfl trivial (le_upd rfl trivial (le_upd rfl trivial (le_nil _))), le_h0 _ _⟩)
  intro k ⟨hk, hz⟩
  by_cases hc : k < l.length
  · have hg := getD_at hc
    by_cases h3 : 1 ≤ l[k].length ∧ l[k].length ≤ 100000
    · by_cases h4 : 0 ≤ l[k].rank ∧ l[k].rank ≤ 100000
      · by_cases h1 : 0 ≤ l[k].ready ∧ l[k].ready ≤ 1000000000000
        · by_cases h2 : 0 ≤ l[k].due ∧ l[k].due ≤ 1000000000000
          · have hj : jobE l k = 0 := jobE_iff.2 (by rw [hg]; exact ⟨h1, h2, h3, h4⟩)
            repeat (first
    | (apply s_a TY; exact rfl)
    | (apply s_t; exact rfl; (first | assumption | omega))
    | apply w_seq
    | apply w_region
    | (apply w_draw (id := 7) 7 rfl (by kernel_rfl))
    | apply s_nil
    | apply t_norm
    | apply k_norm
    | apply w_block
    | apply w_skip
    | (apply w_condT; exact rfl; exact rfl)
    | (apply w_condF; exact rfl; exact rfl)
    | (apply s_k1 (tickErr_T _); exact rfl; (first | assumption | omega | decide))
    | (apply s_k1 (first3_2 _ _ _); exact rfl; (first | assumption | omega | decide))
    | (apply s_k (unless_T _); exact rfl)
    | (apply s_k1 (within_T _ _ _); exact rfl; (first | assumption | omega | decide))
    | (apply s_c TY; exact rfl; (first | omega | exact ⟨by omega, by (first | with_reducible assumption | ((with_reducible apply jobsF_ne); omega) | assumption)⟩))
    | (apply s_m TY; exact rfl; (first | with_reducible assumption | ((with_reducible apply jobsF_sub); omega) | exact rfl); exact rfl)
    | (apply s_alloc TY; exact rfl; exact rfl; exact rfl)
    | (apply s_store TY; exact rfl; exact rfl; exact rfl; exact rfl; exact rfl; exact rfl))
            exact ⟨k + 1, ⟨by omega, fun i hi => by
              by_cases e : i = k
              · subst e; exact hj
              · exact hz i (by omega)⟩, by omega, gh_le ⟨le_upd rfl trivial (le_upd rfl trivial (le_upd rfl trivial (le_nil _))), le_h0 _ _⟩⟩
          · have hj : jobE l k = 2 := if_neg (by rw [hg]; exact fun hp => h2 hp.2.1)
            rw [eachE_at hc hz (by rw [hj]; decide), hj]
            repeat (first
    | (apply s_a TY; exact rfl)
    | (apply s_t; exact rfl; (first | assumption | omega))
    | (apply s_f; exact rfl; (first | assumption | omega))
    | apply w_seq
    | apply w_region
    | (apply w_draw (id := 7) 7 rfl (by kernel_rfl))
    | apply s_nil
    | apply t_norm
    | apply t_ret
    | apply k_ret
    | apply w_block
    | apply w_ret
    | apply w_skip
    | (apply w_condT; exact rfl; exact rfl)
    | (apply s_k1 (tickErr_T _); exact rfl; (first | assumption | omega | decide))
    | (apply s_k1 (tickErr_F _); exact rfl; (first | assumption | omega | decide))
    | (apply s_k1 (first3_1 _ _ _); exact rfl; (first | assumption | omega | decide))
    | (apply s_k (unless_T _); exact rfl)
    | (apply s_k1 (within_T _ _ _); exact rfl; (first | assumption | omega | decide))
    | (apply s_c TY; exact rfl; (first | omega | exact ⟨by omega, by (first | with_reducible assumption | ((with_reducible apply jobsF_ne); omega) | assumption)⟩))
    | (apply s_m TY; exact rfl; (first | with_reducible assumption | ((with_reducible apply jobsF_sub); omega) | exact rfl); exact rfl)
    | (apply s_alloc TY; exact rfl; exact rfl; exact rfl)
    | (apply s_store TY; exact rfl; exact rfl; exact rfl; exact rfl; exact rfl; exact rfl))
            exact lv_ret (ret2 rfl (res_tmp rfl) (res_tmp rfl))
        · by_cases h2 : 0 ≤ l[k].due ∧ l[k].due ≤ 1000000000000
          · have hj : jobE l k = 2 := if_neg (by rw [hg]; exact fun hp => h1 hp.1)
            rw [eachE_at hc hz (by rw [hj]; decide), hj]
            repeat (first
    | (apply s_a TY; exact rfl)
    | (apply s_t; exact rfl; (first | assumption | omega))
    | (apply s_f; exact rfl; (first | assumption | omega))
    | apply w_seq
    | apply w_region
    | (apply w_draw (id := 7) 7 rfl (by kernel_rfl))
    | apply s_nil
    | apply t_norm
    | apply t_ret
    | apply k_ret
    | apply w_block
    | apply w_ret
    | apply w_skip
    | (apply w_condT; exact rfl; exact rfl)
    | (apply s_k1 (tickErr_T _); exact rfl; (first | assumption | omega | decide))
    | (apply s_k1 (tickErr_F _); exact rfl; (first | assumption | omega | decide))
    | (apply s_k1 (first3_0 _ _ _); exact rfl; (first | assumption | omega | decide))
    | (apply s_k (unless_T _); exact rfl)
    | (apply s_k1 (within_T _ _ _); exact rfl; (first | assumption | omega | decide))
    | (apply s_c TY; exact rfl; (first | omega | exact ⟨by omega, by (first | with_reducible assumption | ((with_reducible apply jobsF_ne); omega) | assumption)⟩))
    | (apply s_m TY; exact rfl; (first | with_reducible assumption | ((with_reducible apply jobsF_sub); omega) | exact rfl); exact rfl)
    | (apply s_alloc TY; exact rfl; exact rfl; exact rfl)
    | (apply s_store TY; exact rfl; exact rfl; exact rfl; exact rfl; exact rfl; exact rfl))
            exact lv_ret (ret2 rfl (res_tmp rfl) (res_tmp rfl))
          · have hj : jobE l k = 2 := if_neg (by rw [hg]; exact fun hp => h1 hp.1)
            rw [eachE_at hc hz (by rw [hj]; decide), hj]
            repeat (first
    | (apply s_a TY; exact rfl)
    | (apply s_t; exact rfl; (first | assumption | omega))
    | (apply s_f; exact rfl; (first | assumption | omega))
    | apply w_seq
    | apply w_region
    | (apply w_draw (id := 7) 7 rfl (by kernel_rfl))
    | apply s_nil
    | apply t_norm
    | apply t_ret
    | apply k_ret
    | apply w_block
    | apply w_ret
    | apply w_skip
    | (apply w_condT; exact rfl; exact rfl)
    | (apply s_k1 (tickErr_F _); exact rfl; (first | assumption | omega | decide))
    | (apply s_k1 (first3_0 _ _ _); exact rfl; (first | assumption | omega | decide))
    | (apply s_k (unless_T _); exact rfl)
    | (apply s_k1 (within_T _ _ _); exact rfl; (first | assumption | omega | decide))
    | (apply s_c TY; exact rfl; (first | omega | exact ⟨by omega, by (first | with_reducible assumption | ((with_reducible apply jobsF_ne); omega) | assumption)⟩))
    | (apply s_m TY; exact rfl; (first | with_reducible assumption | ((with_reducible apply jobsF_sub); omega) | exact rfl); exact rfl)
    | (apply s_alloc TY; exact rfl; exact rfl; exact rfl)
    | (apply s_store TY; exact rfl; exact rfl; exact rfl; exact rfl; exact rfl; exact rfl))
            exact lv_ret (ret2 rfl (res_tmp rfl) (res_tmp rfl))
      · by_cases h1 : 0 ≤ l[k].ready ∧ l[k].ready ≤ 1000000000000
        · by_cases h2 : 0 ≤ l[k].due ∧ l[k].due ≤ 1000000000000
          · have hj : jobE l k = 2 := if_neg (by rw [hg]; exact fun hp => h4 hp.2.2.2)
            rw [eachE_at hc hz (by rw [hj]; decide), hj]
            repeat (first
    | (apply s_a TY; exact rfl)
    | (apply s_t; exact rfl; (first | assumption | omega))
    | (apply s_f; exact rfl; (first | assumption | omega))
    | apply w_seq
    | apply w_region
    | (apply w_draw (id := 7) 7 rfl (by kernel_rfl))
    | apply s_nil
    | apply t_norm
    | apply t_ret
    | apply k_ret
    | apply w_block
    | apply w_ret
    | apply w_skip
    | (apply w_condT; exact rfl; exact rfl)
    | (apply s_k1 (tickErr_T _); exact rfl; (first | assumption | omega | decide))
    | (apply s_k1 (first3_2 _ _ _); exact rfl; (first | assumption | omega | decide))
    | (apply s_k (unless_F _); exact rfl)
    | (apply s_k1 (within_T _ _ _); exact rfl; (first | assumption | omega | decide))
    | (apply s_k1 (within_F _ _ _); exact rfl; (first | assumption | omega | decide))
    | (apply s_c TY; exact rfl; (first | omega | exact ⟨by omega, by (first | with_reducible assumption | ((with_reducible apply jobsF_ne); omega) | assumption)⟩))
    | (apply s_m TY; exact rfl; (first | with_reducible assumption | ((with_reducible apply jobsF_sub); omega) | exact rfl); exact rfl)
    | (apply s_alloc TY; exact rfl; exact rfl; exact rfl)
    | (apply s_store TY; exact rfl; exact rfl; exact rfl; exact rfl; exact rfl; exact rfl))
            exact lv_ret (ret2 rfl (res_tmp rfl) (res_tmp rfl))
          · have hj : jobE l k = 2 := if_neg (by rw [hg]; exact fun hp => h4 hp.2.2.2)
            rw [eachE_at hc hz (by rw [hj]; decide), hj]
            repeat (first
    | (apply s_a TY; exact rfl)
    | (apply s_t; exact rfl; (first | assumption | omega))
    | (apply s_f; exact rfl; (first | assumption | omega))
    | apply w_seq
    | apply w_region
    | (apply w_draw (id := 7) 7 rfl (by kernel_rfl))
    | apply s_nil
    | apply t_norm
    | apply t_ret
    | apply k_ret
    | apply w_block
    | apply w_ret
    | apply w_skip
    | (apply w_condT; exact rfl; exact rfl)
    | (apply s_k1 (tickErr_T _); exact rfl; (first | assumption | omega | decide))
    | (apply s_k1 (tickErr_F _); exact rfl; (first | assumption | omega | decide))
    | (apply s_k1 (first3_1 _ _ _); exact rfl; (first | assumption | omega | decide))
    | (apply s_k (unless_F _); exact rfl)
    | (apply s_k1 (within_T _ _ _); exact rfl; (first | assumption | omega | decide))
    | (apply s_k1 (within_F _ _ _); exact rfl; (first | assumption | omega | decide))
    | (apply s_c TY; exact rfl; (first | omega | exact ⟨by omega, by (first | with_reducible assumption | ((with_reducible apply jobsF_ne); omega) | assumption)⟩))
    | (apply s_m TY; exact rfl; (first | with_reducible assumption | ((with_reducible apply jobsF_sub); omega) | exact rfl); exact rfl)
    | (apply s_alloc TY; exact rfl; exact rfl; exact rfl)
    | (apply s_store TY; exact rfl; exact rfl; exact rfl; exact rfl; exact rfl; exact rfl))
            exact lv_ret (ret2 rfl (res_tmp rfl) (res_tmp rfl))
        · by_cases h2 : 0 ≤ l[k].due ∧ l[k].due ≤ 1000000000000
          · have hj : jobE l k = 2 := if_neg (by rw [hg]; exact fun hp => h4 hp.2.2.2)
            rw [eachE_at hc hz (by rw [hj]; decide), hj]
            repeat (first
    | (apply s_a TY; exact rfl)
    | (apply s_t; exact rfl; (first | assumption | omega))
    | (apply s_f; exact rfl; (first | assumption | omega))
    | apply w_seq
    | apply w_region
    | (apply w_draw (id := 7) 7 rfl (by kernel_rfl))
    | apply s_nil
    | apply t_norm
    | apply t_ret
    | apply k_ret
    | apply w_block
    | apply w_ret
    | apply w_skip
    | (apply w_condT; exact rfl; exact rfl)
    | (apply s_k1 (tickErr_T _); exact rfl; (first | assumption | omega | decide))
    | (apply s_k1 (tickErr_F _); exact rfl; (first | assumption | omega | decide))
    | (apply s_k1 (first3_0 _ _ _); exact rfl; (first | assumption | omega | decide))
    | (apply s_k (unless_F _); exact rfl)
    | (apply s_k1 (within_T _ _ _); exact rfl; (first | assumption | omega | decide))
    | (apply s_k1 (within_F _ _ _); exact rfl; (first | assumption | omega | decide))
    | (apply s_c TY; exact rfl; (first | omega | exact ⟨by omega, by (first | with_reducible assumption | ((with_reducible apply jobsF_ne); omega) | assumption)⟩))
    | (apply s_m TY; exact rfl; (first | with_reducible assumption | ((with_reducible apply jobsF_sub); omega) | exact rfl); exact rfl)
    | (apply s_alloc TY; exact rfl; exact rfl; exact rfl)
    | (apply s_store TY; exact rfl; exact rfl; exact rfl; exact rfl; exact rfl; exact rfl))
            exact lv_ret (ret2 rfl (res_tmp rfl) (res_tmp rfl))
          · have hj : jobE l k = 2 := if_neg (by rw [hg]; exact fun hp => h4 hp.2.2.2)
            rw [eachE_at hc hz (by rw [hj]; decide), hj]
            repeat (first
    | (apply s_a TY; exact rfl)
    | (apply s_t; exact rfl; (first | assumption | omega))
    | (apply s_f; exact rfl; (first | assumption | omega))
    | apply w_seq
    | apply w_region
    | (apply w_draw (id := 7) 7 rfl (by kernel_rfl))
    | apply s_nil
    | apply t_norm
    | apply t_ret
    | apply k_ret
    | apply w_block
    | apply w_ret
    | apply w_skip
    | (apply w_condT; exact rfl; exact rfl)
    | (apply s_k1 (tickErr_F _); exact rfl; (first | assumption | omega | decide))
    | (apply s_k1 (first3_0 _ _ _); exact rfl; (first | assumption | omega | decide))
    | (apply s_k (unless_F _); exact rfl)
    | (apply s_k1 (within_T _ _ _); exact rfl; (first | assumption | omega | decide))
    | (apply s_k1 (within_F _ _ _); exact rfl; (first | assumption | omega | decide))
    | (apply s_c TY; exact rfl; (first | omega | exact ⟨by omega, by (first | with_reducible assumption | ((with_reducible apply jobsF_ne); omega) | assumption)⟩))
    | (apply s_m TY; exact rfl; (first | with_reducible assumption | ((with_reducible apply jobsF_sub); omega) | exact rfl); exact rfl)
    | (apply s_alloc TY; exact rfl; exact rfl; exact rfl)
    | (apply s_store TY; exact rfl; exact rfl; exact rfl; exact rfl; exact rfl; exact rfl))
            exact lv_ret (ret2 rfl (res_tmp rfl) (res_tmp rfl))
    · by_cases h1 : 0 ≤ l[k].ready ∧ l[k].ready ≤ 1000000000000
      · by_cases h2 : 0 ≤ l[k].due ∧ l[k].due ≤ 1000000000000
        · have hj : jobE l k = 2 := if_neg (by rw [hg]; exact fun hp => h3 hp.2.2.1)
          rw [eachE_at hc hz (by rw [hj]; decide), hj]
          repeat (first
    | (apply s_a TY; exact rfl)
    | (apply s_t; exact rfl; (first | assumption | omega))
    | (apply s_f; exact rfl; (first | assumption | omega))
    | apply w_seq
    | apply w_region
    | (apply w_draw (id := 7) 7 rfl (by kernel_rfl))
    | apply s_nil
    | apply t_norm
    | apply t_ret
    | apply k_ret
    | apply w_block
    | apply w_ret
    | apply w_skip
    | (apply w_condT; exact rfl; exact rfl)
    | (apply s_k1 (tickErr_T _); exact rfl; (first | assumption | omega | decide))
    | (apply s_k1 (first3_2 _ _ _); exact rfl; (first | assumption | omega | decide))
    | (apply s_k (unless_F _); exact rfl)
    | (apply s_k1 (within_F _ _ _); exact rfl; (first | assumption | omega | decide))
    | (apply s_s; exact rfl)
    | (apply s_c TY; exact rfl; (first | omega | exact ⟨by omega, by (first | with_reducible assumption | ((with_reducible apply jobsF_ne); omega) | assumption)⟩))
    | (apply s_m TY; exact rfl; (first | with_reducible assumption | ((with_reducible apply jobsF_sub); omega) | exact rfl); exact rfl)
    | (apply s_alloc TY; exact rfl; exact rfl; exact rfl)
    | (apply s_store TY; exact rfl; exact rfl; exact rfl; exact rfl; exact rfl; exact rfl))
          exact lv_ret (ret2 rfl (res_tmp rfl) (res_tmp rfl))
        · have hj : jobE l k = 2 := if_neg (by rw [hg]; exact fun hp => h3 hp.2.2.1)
          rw [eachE_at hc hz (by rw [hj]; decide), hj]
          repeat (first
    | (apply s_a TY; exact rfl)
    | (apply s_t; exact rfl; (first | assumption | omega))
    | (apply s_f; exact rfl; (first | assumption | omega))
    | apply w_seq
    | apply w_region
    | (apply w_draw (id := 7) 7 rfl (by kernel_rfl))
    | apply s_nil
    | apply t_norm
    | apply t_ret
    | apply k_ret
    | apply w_block
    | apply w_ret
    | apply w_skip
    | (apply w_condT; exact rfl; exact rfl)
    | (apply s_k1 (tickErr_T _); exact rfl; (first | assumption | omega | decide))
    | (apply s_k1 (tickErr_F _); exact rfl; (first | assumption | omega | decide))
    | (apply s_k1 (first3_1 _ _ _); exact rfl; (first | assumption | omega | decide))
    | (apply s_k (unless_F _); exact rfl)
    | (apply s_k1 (within_F _ _ _); exact rfl; (first | assumption | omega | decide))
    | (apply s_s; exact rfl)
    | (apply s_c TY; exact rfl; (first | omega | exact ⟨by omega, by (first | with_reducible assumption | ((with_reducible apply jobsF_ne); omega) | assumption)⟩))
    | (apply s_m TY; exact rfl; (first | with_reducible assumption | ((with_reducible apply jobsF_sub); omega) | exact rfl); exact rfl)
    | (apply s_alloc TY; exact rfl; exact rfl; exact rfl)
    | (apply s_store TY; exact rfl; exact rfl; exact rfl; exact rfl; exact rfl; exact rfl))
          exact lv_ret (ret2 rfl (res_tmp rfl) (res_tmp rfl))
      · by_cases h2 : 0 ≤ l[k].due ∧ l[k].due ≤ 1000000000000
        · have hj : jobE l k = 2 := if_neg (by rw [hg]; exact fun hp => h3 hp.2.2.1)
          rw [eachE_at hc hz (by rw [hj]; decide), hj]
          repeat (first
    | (apply s_a TY; exact rfl)
    | (apply s_t; exact rfl; (first | assumption | omega))
    | (apply s_f; exact rfl; (first | assumption | omega))
    | apply w_seq
    | apply w_region
    | (apply w_draw (id := 7) 7 rfl (by kernel_rfl))
    | apply s_nil
    | apply t_norm
    | apply t_ret
    | apply k_ret
    | apply w_block
    | apply w_ret
    | apply w_skip
    | (apply w_condT; exact rfl; exact rfl)
    | (apply s_k1 (tickErr_T _); exact rfl; (first | assumption | omega | decide))
    | (apply s_k1 (tickErr_F _); exact rfl; (first | assumption | omega | decide))
    | (apply s_k1 (first3_0 _ _ _); exact rfl; (first | assumption | omega | decide))
    | (apply s_k (unless_F _); exact rfl)
    | (apply s_k1 (within_F _ _ _); exact rfl; (first | assumption | omega | decide))
    | (apply s_s; exact rfl)
    | (apply s_c TY; exact rfl; (first | omega | exact ⟨by omega, by (first | with_reducible assumption | ((with_reducible apply jobsF_ne); omega) | assumption)⟩))
    | (apply s_m TY; exact rfl; (first | with_reducible assumption | ((with_reducible apply jobsF_sub); omega) | exact rfl); exact rfl)
    | (apply s_alloc TY; exact rfl; exact rfl; exact rfl)
    | (apply s_store TY; exact rfl; exact rfl; exact rfl; exact rfl; exact rfl; exact rfl))
          exact lv_ret (ret2 rfl (res_tmp rfl) (res_tmp rfl))
        · have hj : jobE l k = 2 := if_neg (by rw [hg]; exact fun hp => h3 hp.2.2.1)
          rw [eachE_at hc hz (by rw [hj]; decide), hj]
          repeat (first
    | (apply s_a TY; exact rfl)
    | (apply s_t; exact rfl; (first | assumption | omega))
    | (apply s_f; exact rfl; (first | assumption | omega))
    | apply w_seq
    | apply w_region
    | (apply w_draw (id := 7) 7 rfl (by kernel_rfl))
    | apply s_nil
    | apply t_norm
    | apply t_ret
    | apply k_ret
    | apply w_block
    | apply w_ret
    | apply w_skip
    | (apply w_condT; exact rfl; exact rfl)
    | (apply s_k1 (tickErr_F _); exact rfl; (first | assumption | omega | decide))
    | (apply s_k1 (first3_0 _ _ _); exact rfl; (first | assumption | omega | decide))
    | (apply s_k (unless_F _); exact rfl)
    | (apply s_k1 (within_F _ _ _); exact rfl; (first | assumption | omega | decide))
    | (apply s_s; exact rfl)
    | (apply s_c TY; exact rfl; (first | omega | exact ⟨by omega, by (first | with_reducible assumption | ((with_reducible apply jobsF_ne); omega) | assumption)⟩))
    | (apply s_m TY; exact rfl; (first | with_reducible assumption | ((with_reducible apply jobsF_sub); omega) | exact rfl); exact rfl)
    | (apply s_alloc TY; exact rfl; exact rfl; exact rfl)
    | (apply s_store TY; exact rfl; exact rfl; exact rfl; exact rfl; exact rfl; exact rfl))
          exact lv_ret (ret2 rfl (res_tmp rfl) (res_tmp rfl))
  · rw [eachE_ok fun i hi => hz i (by omega)]
    repeat (first
    | (apply s_a TY; exact rfl)
    | (apply s_f; exact rfl; (first | assumption | omega))
    | apply w_seq
    | apply w_region
    | apply s_nil
    | apply t_norm
    | apply t_exit
    | apply k_hit
    | apply w_exit
    | apply w_ret
    | (apply w_condF; exact rfl; exact rfl))
    exact lv_ret (ret2 rfl (res_tmp rfl) (res_tmp rfl))
set_option maxRecDepth 100000 in
set_option maxHeartbeats 1600000 in
theorem rCheckJobs_s (l : List Job) (hl : l.length ≤ 1000000) : Summ Tryz.prog GG 60 [.sl l.length (jobsF l)] (.tup [iv (jobsChk l).1, iv (jobsChk l).2]) := by
  by_cases h7 : 7 < l.length
  · rw [show jobsChk l = (0, 8) by unfold jobsChk; rw [if_pos h7]]
    refine summW Tryz.func60 rfl rfl 42 rfl (by simp) (fun M0 => ?_)
    repeat (first
    | (apply s_a TY; exact rfl)
    | (apply s_t; exact rfl; (first | assumption | omega))
    | apply w_seq
    | apply w_region
    | apply s_nil
    | apply t_norm
    | apply t_ret
    | apply w_ret
    | (apply w_condT; exact rfl; exact rfl))
    exact lv_ret (ret2 rfl (res_tmp rfl) (res_tmp rfl))
  rw [show jobsChk l = eachE l.length (jobE l) by unfold jobsChk; rw [if_neg h7]]
  refine summW Tryz.func60 rfl rfl 42 rfl (by simp) (fun M0 => ?_)
  repeat (first
    | (apply s_a TY; exact rfl)
    | (apply s_f; exact rfl; (first | assumption | omega))
    | apply w_seq
    | apply w_region
    | apply s_nil
    | apply t_norm
    | apply w_block
    | apply w_skip
    | (apply w_condF; exact rfl; exact rfl))
  apply w_loop (fun k : Nat => ⟨(Ab.upd (Ab.upd (fun _ => .bot) 0 (.f (.sl l.length (jobsF l)))) 4 (.f (iv (k : Nat)))), (fun _ => none), 0⟩) (fun k => k ≤ l.length ∧ ∀ i, i < k → jobE l i = 0) (fun k => l.length - k) 0 (⟨Nat.zero_le _, fun i h => absurd h (Nat.not_lt_zero i)⟩) (gh_le ⟨le_upd rfl trivial (le_upd rfl trivial (le_nil _)), le_h0 _ _⟩)
  intro k ⟨hk, hz⟩
  by_cases hc : k < l.length
  · have hg := getD_at hc
    by_cases h1 : 0 ≤ l[k].ready ∧ l[k].ready ≤ 1000000000000
    · by_cases h2 : 0 ≤ l[k].due ∧ l[k].due ≤ 1000000000000
      · by_cases h3 : 1 ≤ l[k].length ∧ l[k].length ≤ 100000
        · by_cases h4 : 0 ≤ l[k].rank ∧ l[k].rank ≤ 100000
          · have hj : jobE l k = 0 := jobE_iff.2 (by rw [hg]; exact ⟨h1, h2, h3, h4⟩)
            repeat (first
    | (apply s_a TY; exact rfl)
    | (apply s_t; exact rfl; (first | assumption | omega))
    | apply w_seq
    | apply w_region
    | apply s_nil
    | apply t_norm
    | apply k_norm
    | apply w_block
    | apply w_skip
    | (apply w_condT; exact rfl; exact rfl)
    | (apply w_condF; exact rfl; exact rfl)
    | (apply s_k1 (rTickErr_T _); exact rfl; (first | assumption | omega | decide))
    | (apply s_k1 (bwithin_T _ _ _); exact rfl; (first | assumption | omega | decide))
    | (apply s_c TY; exact rfl; (first | omega | exact ⟨by omega, by (first | with_reducible assumption | ((with_reducible apply jobsF_ne); omega) | assumption)⟩))
    | (apply s_m TY; exact rfl; (first | with_reducible assumption | ((with_reducible apply jobsF_sub); omega) | exact rfl); exact rfl)
    | (apply s_alloc TY; exact rfl; exact rfl; exact rfl)
    | (apply s_store TY; exact rfl; exact rfl; exact rfl; exact rfl; exact rfl; exact rfl))
            exact ⟨k + 1, ⟨by omega, fun i hi => by
              by_cases e : i = k
              · subst e; exact hj
              · exact hz i (by omega)⟩, by omega, gh_le ⟨le_upd rfl trivial (le_upd rfl trivial (le_nil _)), le_h0 _ _⟩⟩
          · have hj : jobE l k = 2 := if_neg (by rw [hg]; exact fun hp => h4 hp.2.2.2)
            rw [eachE_at hc hz (by rw [hj]; decide), hj]
            repeat (first
    | (apply s_a TY; exact rfl)
    | (apply s_t; exact rfl; (first | assumption | omega))
    | apply w_seq
    | apply w_region
    | apply s_nil
    | apply t_norm
    | apply t_ret
    | apply k_ret
    | apply w_block
    | apply w_ret
    | apply w_skip
    | (apply w_condT; exact rfl; exact rfl)
    | (apply s_k1 (rTickErr_T _); exact rfl; (first | assumption | omega | decide))
    | (apply s_k1 (bwithin_T _ _ _); exact rfl; (first | assumption | omega | decide))
    | (apply s_k1 (bwithin_F _ _ _); exact rfl; (first | assumption | omega | decide))
    | (apply s_c TY; exact rfl; (first | omega | exact ⟨by omega, by (first | with_reducible assumption | ((with_reducible apply jobsF_ne); omega) | assumption)⟩))
    | (apply s_m TY; exact rfl; (first | with_reducible assumption | ((with_reducible apply jobsF_sub); omega) | exact rfl); exact rfl)
    | (apply s_alloc TY; exact rfl; exact rfl; exact rfl)
    | (apply s_store TY; exact rfl; exact rfl; exact rfl; exact rfl; exact rfl; exact rfl))
            exact lv_ret (ret2 rfl (res_tmp rfl) (res_tmp rfl))
        · have hj : jobE l k = 2 := if_neg (by rw [hg]; exact fun hp => h3 hp.2.2.1)
          rw [eachE_at hc hz (by rw [hj]; decide), hj]
          repeat (first
    | (apply s_a TY; exact rfl)
    | (apply s_t; exact rfl; (first | assumption | omega))
    | apply w_seq
    | apply w_region
    | apply s_nil
    | apply t_norm
    | apply t_ret
    | apply k_ret
    | apply w_block
    | apply w_ret
    | apply w_skip
    | (apply w_condT; exact rfl; exact rfl)
    | (apply s_k1 (rTickErr_T _); exact rfl; (first | assumption | omega | decide))
    | (apply s_k1 (bwithin_F _ _ _); exact rfl; (first | assumption | omega | decide))
    | (apply s_s; exact rfl)
    | (apply s_c TY; exact rfl; (first | omega | exact ⟨by omega, by (first | with_reducible assumption | ((with_reducible apply jobsF_ne); omega) | assumption)⟩))
    | (apply s_m TY; exact rfl; (first | with_reducible assumption | ((with_reducible apply jobsF_sub); omega) | exact rfl); exact rfl)
    | (apply s_alloc TY; exact rfl; exact rfl; exact rfl)
    | (apply s_store TY; exact rfl; exact rfl; exact rfl; exact rfl; exact rfl; exact rfl))
          exact lv_ret (ret2 rfl (res_tmp rfl) (res_tmp rfl))
      · have hj : jobE l k = 2 := if_neg (by rw [hg]; exact fun hp => h2 hp.2.1)
        rw [eachE_at hc hz (by rw [hj]; decide), hj]
        repeat (first
    | (apply s_a TY; exact rfl)
    | (apply s_t; exact rfl; (first | assumption | omega))
    | (apply s_f; exact rfl; (first | assumption | omega))
    | apply w_seq
    | apply w_region
    | apply s_nil
    | apply t_norm
    | apply t_ret
    | apply k_ret
    | apply w_block
    | apply w_ret
    | apply w_skip
    | (apply w_condT; exact rfl; exact rfl)
    | (apply s_k1 (rTickErr_T _); exact rfl; (first | assumption | omega | decide))
    | (apply s_k1 (rTickErr_F _); exact rfl; (first | assumption | omega | decide))
    | (apply s_s; exact rfl)
    | (apply s_c TY; exact rfl; (first | omega | exact ⟨by omega, by (first | with_reducible assumption | ((with_reducible apply jobsF_ne); omega) | assumption)⟩))
    | (apply s_m TY; exact rfl; (first | with_reducible assumption | ((with_reducible apply jobsF_sub); omega) | exact rfl); exact rfl)
    | (apply s_alloc TY; exact rfl; exact rfl; exact rfl)
    | (apply s_store TY; exact rfl; exact rfl; exact rfl; exact rfl; exact rfl; exact rfl))
        exact lv_ret (ret2 rfl (res_tmp rfl) (res_tmp rfl))
    · have hj : jobE l k = 2 := if_neg (by rw [hg]; exact fun hp => h1 hp.1)
      rw [eachE_at hc hz (by rw [hj]; decide), hj]
      repeat (first
    | (apply s_a TY; exact rfl)
    | (apply s_t; exact rfl; (first | assumption | omega))
    | (apply s_f; exact rfl; (first | assumption | omega))
    | apply w_seq
    | apply w_region
    | apply s_nil
    | apply t_norm
    | apply t_ret
    | apply k_ret
    | apply w_block
    | apply w_ret
    | apply w_skip
    | (apply w_condT; exact rfl; exact rfl)
    | (apply s_k1 (rTickErr_F _); exact rfl; (first | assumption | omega | decide))
    | (apply s_s; exact rfl)
    | (apply s_c TY; exact rfl; (first | omega | exact ⟨by omega, by (first | with_reducible assumption | ((with_reducible apply jobsF_ne); omega) | assumption)⟩))
    | (apply s_m TY; exact rfl; (first | with_reducible assumption | ((with_reducible apply jobsF_sub); omega) | exact rfl); exact rfl)
    | (apply s_alloc TY; exact rfl; exact rfl; exact rfl)
    | (apply s_store TY; exact rfl; exact rfl; exact rfl; exact rfl; exact rfl; exact rfl))
      exact lv_ret (ret2 rfl (res_tmp rfl) (res_tmp rfl))
  · rw [eachE_ok fun i hi => hz i (by omega)]
    repeat (first
    | (apply s_a TY; exact rfl)
    | (apply s_f; exact rfl; (first | assumption | omega))
    | apply w_seq
    | apply w_region
    | apply s_nil
    | apply t_norm
    | apply t_exit
    | apply k_hit
    | apply w_exit
    | apply w_ret
    | (apply w_condF; exact rfl; exact rfl))
    exact lv_ret (ret2 rfl (res_tmp rfl) (res_tmp rfl))
theorem JobsErr_s (l : List Job) (hl : l.length ≤ 1000000) : Summ Tryz.prog GG 55 [.sl l.length (jobsF l)] (iv (jobsChk l).2) := by
  refine summW Tryz.func55 rfl rfl 11 rfl (by simp) (fun M0 => ?_)
  repeat (first
    | (apply s_a TY; exact rfl)
    | apply w_seq
    | apply w_region
    | apply s_nil
    | apply t_norm
    | apply w_ret
    | (apply s_k1 (rCheckJobs_s _); exact rfl; (first | assumption | omega | decide)))
  exact lv_ret (ret1 rfl (res_tmp rfl))
theorem CopyJobs_s (l : List Job) (hl : l.length ≤ 1000000) : Summ Tryz.prog GG 57 [.sl l.length (jobsF l)] (.sl l.length (jobsF l)) := by
  have hlen := jobsF_len l
  refine summW Tryz.func57 rfl rfl 6 rfl (by simp) (fun M0 => ?_)
  repeat (first
    | (apply s_bslice_clip TY; exact rfl; exact rfl; exact rfl; exact rfl; exact rfl; exact rfl)
    | (apply s_append_copy TY; exact rfl; exact rfl; exact rfl; exact rfl; exact rfl; exact rfl; exact rfl; assumption; (unfold maxLen; omega); omega)
    | (apply s_a TY; exact rfl)
    | apply w_seq
    | apply w_region
    | apply s_nil
    | apply t_norm
    | apply w_ret)
  exact lv_ret (ret1 rfl (res_tmp rfl))
def ordF : Option (List Int) → FV
  | some o => .sl o.length (intsF o)
  | none => .v (.slice none 0 0)
theorem onT_zero {l : List Job} {o : List Int} {now : Int} (h : o.length = l.length) (f : Nat) : onT l f o now = some o := by
  cases f <;> (rw [onT]; rw [if_pos h])
theorem jobA_at {l : List Job} {k : Nat} (h : k < l.length) : jobA l ((k : Nat) : Int) = l[k] := by unfold jobA; rw [Int.toNat_natCast, getD_at h]
theorem onT_step {l : List Job} {o : List Int} {now : Int} {f : Nat} (h : ¬ o.length = l.length) : onT l (f + 1) o now = firstS (fun i => if (i : Int) ∈ o ∨ (jobA l i).due < endT l now i then none else onT l f (o ++ [(i : Int)]) (endT l now i)) l.length := by
  rw [onT, if_neg h]
set_option maxRecDepth 100000 in
set_option maxHeartbeats 3200000 in
theorem onTime_s (l : List Job) (ok : JobsOk l) : ∀ (f : Nat) (o : List Int) (now : Int), o.length + f = l.length → 0 ≤ now ∧ now ≤ 1000000000000 + 100000 * (o.length : Int) → Summ Tryz.prog GG 123 [.sl l.length (jobsF l), .sl o.length (intsF o), iv now] (.tup [ordF (onT l f o now), bv (onT l f o now).isSome])
  | 0, o, now, hf, hn => by
    have hlen := ok.len
    have hol : o.length = l.length := by omega
    have HCl := clone_s o (by omega)
    rw [onT_zero hol]
    refine summW Tryz.func123 rfl rfl 57 rfl (by simp) (fun M0 => ?_)
    repeat (first
    | (apply s_a TY; exact rfl)
    | (apply s_t; exact rfl; (first | assumption | omega))
    | apply w_seq
    | apply w_region
    | apply s_nil
    | apply t_norm
    | apply t_ret
    | apply w_ret
    | (apply w_condT; exact rfl; exact rfl)
    | (apply s_k (HCl); exact rfl))
    exact lv_ret (ret2 rfl (res_tmp rfl) (res_tmp rfl))
  | f + 1, o, now, hf, hn => by
    have hlen := ok.len
    have hol : ¬ o.length = l.length := by omega
    have hsl : (intsF o).length = o.length * 1 := intsF_len o
    have HCl := clip_s o
    rw [onT_step hol]
    rcases hfs : firstS (fun i => if (i : Int) ∈ o ∨ (jobA l i).due < endT l now i then none else onT l f (o ++ [(i : Int)]) (endT l now i)) l.length with _ | x
    · have hnone := firstS_none.1 hfs
      refine summW Tryz.func123 rfl rfl 57 rfl (by simp) (fun M0 => ?_)
      repeat (first
    | (apply s_a TY; exact rfl)
    | (apply s_f; exact rfl; (first | assumption | omega))
    | apply w_seq
    | apply w_region
    | apply s_nil
    | apply t_norm
    | apply w_block
    | apply w_skip
    | (apply w_condF; exact rfl; exact rfl))
      apply w_loop (fun k : Nat => ⟨(Ab.upd (Ab.upd (Ab.upd (Ab.upd (Ab.upd (Ab.upd (fun _ => .bot) 0 (.f (.sl l.length (jobsF l)))) 1 (.f (.sl o.length (intsF o)))) 2 (.f (iv now))) 20 (.f (.sl l.length (jobsF l)))) 21 (.f (iv l.length))) 22 (.f (iv (k : Nat)))), (fun _ => none), 0⟩) (fun k => k ≤ l.length) (fun k => l.length - k) 0 (Nat.zero_le _) (gh_le ⟨le_upd rfl trivial (le_upd rfl trivial (le_upd rfl trivial (le_upd rfl trivial (le_upd rfl trivial (le_upd rfl trivial (le_nil _)))))), le_h0 _ _⟩)
      intro k hk
      by_cases hc : k < l.length
      · have hjb := ok.job k hc
        have hkn := hnone k hc
        have hja := jobA_at hc
        rw [getD_at hc] at hjb
        have HCo := Contains_s o (k : Nat) (by omega)
        unfold endT at hkn
        rw [hja] at hkn
        by_cases hm : ((k : Nat) : Int) ∈ o
        · rw [show o.contains ((k : Nat) : Int) = true by simpa using hm] at HCo
          repeat (first
    | (apply s_a TY; exact rfl)
    | (apply s_t; exact rfl; (first | assumption | omega))
    | apply w_seq
    | apply w_region
    | apply s_nil
    | apply t_norm
    | apply t_exit
    | apply k_hit
    | apply w_block
    | apply w_exit
    | apply w_skip
    | (apply w_condT; exact rfl; exact rfl)
    | (apply s_k (HCo); exact rfl)
    | (apply s_s; exact rfl)
    | (apply s_c TY; exact rfl; (first | omega | exact ⟨by omega, by (first | with_reducible assumption | ((with_reducible apply jobsF_ne); omega) | assumption)⟩))
    | (apply s_m TY; exact rfl; (first | with_reducible assumption | ((with_reducible apply jobsF_sub); omega) | exact rfl); exact rfl)
    | (apply s_alloc TY; exact rfl; exact rfl; exact rfl)
    | (apply s_store TY; exact rfl; exact rfl; exact rfl; exact rfl; exact rfl; exact rfl))
          exact ⟨k + 1, by omega, by omega, gh_le ⟨le_upd rfl trivial (le_upd rfl trivial (le_upd rfl trivial (le_upd rfl trivial (le_upd rfl trivial (le_upd rfl trivial (le_nil _)))))), le_h0 _ _⟩⟩
        · rw [show o.contains ((k : Nat) : Int) = false by simpa using hm] at HCo
          by_cases hd : l[k].due < max now l[k].ready + l[k].length
          · repeat (first
    | (apply s_a TY; exact rfl)
    | (apply s_t; exact rfl; (first | assumption | omega))
    | apply w_seq
    | apply w_region
    | apply s_nil
    | apply t_norm
    | apply t_exit
    | apply k_hit
    | apply w_block
    | apply w_exit
    | apply w_skip
    | (apply w_condT; exact rfl; exact rfl)
    | (apply s_k (HCo); exact rfl)
    | (apply s_c TY; exact rfl; (first | omega | exact ⟨by omega, by (first | with_reducible assumption | ((with_reducible apply jobsF_ne); omega) | assumption)⟩))
    | (apply s_m TY; exact rfl; (first | with_reducible assumption | ((with_reducible apply jobsF_sub); omega) | exact rfl); exact rfl)
    | (apply s_alloc TY; exact rfl; exact rfl; exact rfl)
    | (apply s_store TY; exact rfl; exact rfl; exact rfl; exact rfl; exact rfl; exact rfl))
            exact ⟨k + 1, by omega, by omega, gh_le ⟨le_upd rfl trivial (le_upd rfl trivial (le_upd rfl trivial (le_upd rfl trivial (le_upd rfl trivial (le_upd rfl trivial (le_nil _)))))), le_h0 _ _⟩⟩
          · rw [if_neg (by simp only [not_or]; exact ⟨hm, hd⟩)] at hkn
            have IH := onTime_s l ok f (o ++ [((k : Nat) : Int)]) (max now l[k].ready + l[k].length) (by rw [List.length_append, List.length_singleton]; omega) (by rw [List.length_append, List.length_singleton]; omega)
            rw [hkn, List.length_append, List.length_singleton, intsF_snoc] at IH
            repeat (first
    | (apply s_append_cl TY; exact rfl; exact rfl; exact rfl; exact rfl; exact rfl; exact rfl; exact rfl; exact hsl; exact rfl; (unfold maxLen; omega); omega)
    | (apply s_assign_f; exact rfl; exact rfl)
    | (apply s_a TY; exact rfl)
    | (apply s_t; exact rfl; (first | assumption | omega))
    | (apply s_f; exact rfl; (first | assumption | omega))
    | apply w_seq
    | apply w_region
    | apply s_nil
    | apply t_norm
    | apply k_norm
    | apply w_block
    | apply w_skip
    | (apply w_condT; exact rfl; exact rfl)
    | (apply w_condF; exact rfl; exact rfl)
    | (apply s_k (HCo); exact rfl)
    | (apply s_k (HCl); exact rfl)
    | (apply s_k (IH); exact rfl)
    | (apply s_c TY; exact rfl; (first | omega | exact ⟨by omega, by (first | with_reducible assumption | ((with_reducible apply jobsF_ne); omega) | assumption)⟩))
    | (apply s_m TY; exact rfl; (first | with_reducible assumption | ((with_reducible apply jobsF_sub); omega) | exact rfl); exact rfl)
    | (apply s_alloc TY; exact rfl; exact rfl; exact rfl)
    | (apply s_store TY; exact rfl; exact rfl; exact rfl; exact rfl; exact rfl; exact rfl))
            exact ⟨k + 1, by omega, by omega, gh_le ⟨le_upd rfl trivial (le_upd rfl trivial (le_upd rfl trivial (le_upd rfl trivial (le_upd rfl trivial (le_upd rfl trivial (le_nil _)))))), le_h0 _ _⟩⟩
      · repeat (first
    | (apply s_a TY; exact rfl)
    | (apply s_f; exact rfl; (first | assumption | omega))
    | apply w_seq
    | apply w_region
    | apply s_nil
    | apply t_norm
    | apply t_exit
    | apply k_hit
    | apply w_exit
    | apply w_ret
    | (apply w_condF; exact rfl; exact rfl))
        exact lv_ret (ret2 rfl (res_tmp rfl) (res_tmp rfl))
    · obtain ⟨q, hq, hqx, hqn⟩ := firstS_some hfs
      refine summW Tryz.func123 rfl rfl 57 rfl (by simp) (fun M0 => ?_)
      repeat (first
    | (apply s_a TY; exact rfl)
    | (apply s_f; exact rfl; (first | assumption | omega))
    | apply w_seq
    | apply w_region
    | apply s_nil
    | apply t_norm
    | apply w_block
    | apply w_skip
    | (apply w_condF; exact rfl; exact rfl))
      apply w_loop (fun k : Nat => ⟨(Ab.upd (Ab.upd (Ab.upd (Ab.upd (Ab.upd (Ab.upd (fun _ => .bot) 0 (.f (.sl l.length (jobsF l)))) 1 (.f (.sl o.length (intsF o)))) 2 (.f (iv now))) 20 (.f (.sl l.length (jobsF l)))) 21 (.f (iv l.length))) 22 (.f (iv (k : Nat)))), (fun _ => none), 0⟩) (fun k => k ≤ q) (fun k => q - k) 0 (Nat.zero_le _) (gh_le ⟨le_upd rfl trivial (le_upd rfl trivial (le_upd rfl trivial (le_upd rfl trivial (le_upd rfl trivial (le_upd rfl trivial (le_nil _)))))), le_h0 _ _⟩)
      intro k hk
      have hc : k < l.length := by omega
      have hjb := ok.job k hc
      have hja := jobA_at hc
      rw [getD_at hc] at hjb
      have HCo := Contains_s o (k : Nat) (by omega)
      by_cases hkq : k = q
      · subst hkq
        unfold endT at hqx
        rw [hja] at hqx
        by_cases hm : ((k : Nat) : Int) ∈ o
        · rw [if_pos (.inl hm)] at hqx; cases hqx
        by_cases hd : l[k].due < max now l[k].ready + l[k].length
        · rw [if_pos (.inr hd)] at hqx; cases hqx
        rw [if_neg (by simp only [not_or]; exact ⟨hm, hd⟩)] at hqx
        rw [show o.contains ((k : Nat) : Int) = false by simpa using hm] at HCo
        have IH := onTime_s l ok f (o ++ [((k : Nat) : Int)]) (max now l[k].ready + l[k].length) (by rw [List.length_append, List.length_singleton]; omega) (by rw [List.length_append, List.length_singleton]; omega)
        rw [hqx, List.length_append, List.length_singleton, intsF_snoc] at IH
        repeat (first
    | (apply s_append_cl TY; exact rfl; exact rfl; exact rfl; exact rfl; exact rfl; exact rfl; exact rfl; exact hsl; exact rfl; (unfold maxLen; omega); omega)
    | (apply s_assign_f; exact rfl; exact rfl)
    | (apply s_a TY; exact rfl)
    | (apply s_t; exact rfl; (first | assumption | omega))
    | (apply s_f; exact rfl; (first | assumption | omega))
    | apply w_seq
    | apply w_region
    | apply s_nil
    | apply t_norm
    | apply t_ret
    | apply k_ret
    | apply w_block
    | apply w_ret
    | apply w_skip
    | (apply w_condT; exact rfl; exact rfl)
    | (apply w_condF; exact rfl; exact rfl)
    | (apply s_k (HCo); exact rfl)
    | (apply s_k (HCl); exact rfl)
    | (apply s_k (IH); exact rfl)
    | (apply s_c TY; exact rfl; (first | omega | exact ⟨by omega, by (first | with_reducible assumption | ((with_reducible apply jobsF_ne); omega) | assumption)⟩))
    | (apply s_m TY; exact rfl; (first | with_reducible assumption | ((with_reducible apply jobsF_sub); omega) | exact rfl); exact rfl)
    | (apply s_alloc TY; exact rfl; exact rfl; exact rfl)
    | (apply s_store TY; exact rfl; exact rfl; exact rfl; exact rfl; exact rfl; exact rfl))
        exact lv_ret (ret2 rfl (res_tmp rfl) (res_tmp rfl))
      · have hkn := hqn k (by omega)
        unfold endT at hkn
        rw [hja] at hkn
        by_cases hm : ((k : Nat) : Int) ∈ o
        · rw [show o.contains ((k : Nat) : Int) = true by simpa using hm] at HCo
          repeat (first
    | (apply s_a TY; exact rfl)
    | (apply s_t; exact rfl; (first | assumption | omega))
    | apply w_seq
    | apply w_region
    | apply s_nil
    | apply t_norm
    | apply t_exit
    | apply k_hit
    | apply w_block
    | apply w_exit
    | apply w_skip
    | (apply w_condT; exact rfl; exact rfl)
    | (apply s_k (HCo); exact rfl)
    | (apply s_s; exact rfl)
    | (apply s_c TY; exact rfl; (first | omega | exact ⟨by omega, by (first | with_reducible assumption | ((with_reducible apply jobsF_ne); omega) | assumption)⟩))
    | (apply s_m TY; exact rfl; (first | with_reducible assumption | ((with_reducible apply jobsF_sub); omega) | exact rfl); exact rfl)
    | (apply s_alloc TY; exact rfl; exact rfl; exact rfl)
    | (apply s_store TY; exact rfl; exact rfl; exact rfl; exact rfl; exact rfl; exact rfl))
          exact ⟨k + 1, by omega, by omega, gh_le ⟨le_upd rfl trivial (le_upd rfl trivial (le_upd rfl trivial (le_upd rfl trivial (le_upd rfl trivial (le_upd rfl trivial (le_nil _)))))), le_h0 _ _⟩⟩
        · rw [show o.contains ((k : Nat) : Int) = false by simpa using hm] at HCo
          by_cases hd : l[k].due < max now l[k].ready + l[k].length
          · repeat (first
    | (apply s_a TY; exact rfl)
    | (apply s_t; exact rfl; (first | assumption | omega))
    | apply w_seq
    | apply w_region
    | apply s_nil
    | apply t_norm
    | apply t_exit
    | apply k_hit
    | apply w_block
    | apply w_exit
    | apply w_skip
    | (apply w_condT; exact rfl; exact rfl)
    | (apply s_k (HCo); exact rfl)
    | (apply s_c TY; exact rfl; (first | omega | exact ⟨by omega, by (first | with_reducible assumption | ((with_reducible apply jobsF_ne); omega) | assumption)⟩))
    | (apply s_m TY; exact rfl; (first | with_reducible assumption | ((with_reducible apply jobsF_sub); omega) | exact rfl); exact rfl)
    | (apply s_alloc TY; exact rfl; exact rfl; exact rfl)
    | (apply s_store TY; exact rfl; exact rfl; exact rfl; exact rfl; exact rfl; exact rfl))
            exact ⟨k + 1, by omega, by omega, gh_le ⟨le_upd rfl trivial (le_upd rfl trivial (le_upd rfl trivial (le_upd rfl trivial (le_upd rfl trivial (le_upd rfl trivial (le_nil _)))))), le_h0 _ _⟩⟩
          · rw [if_neg (by simp only [not_or]; exact ⟨hm, hd⟩)] at hkn
            have IH := onTime_s l ok f (o ++ [((k : Nat) : Int)]) (max now l[k].ready + l[k].length) (by rw [List.length_append, List.length_singleton]; omega) (by rw [List.length_append, List.length_singleton]; omega)
            rw [hkn, List.length_append, List.length_singleton, intsF_snoc] at IH
            repeat (first
    | (apply s_append_cl TY; exact rfl; exact rfl; exact rfl; exact rfl; exact rfl; exact rfl; exact rfl; exact hsl; exact rfl; (unfold maxLen; omega); omega)
    | (apply s_assign_f; exact rfl; exact rfl)
    | (apply s_a TY; exact rfl)
    | (apply s_t; exact rfl; (first | assumption | omega))
    | (apply s_f; exact rfl; (first | assumption | omega))
    | apply w_seq
    | apply w_region
    | apply s_nil
    | apply t_norm
    | apply k_norm
    | apply w_block
    | apply w_skip
    | (apply w_condT; exact rfl; exact rfl)
    | (apply w_condF; exact rfl; exact rfl)
    | (apply s_k (HCo); exact rfl)
    | (apply s_k (HCl); exact rfl)
    | (apply s_k (IH); exact rfl)
    | (apply s_c TY; exact rfl; (first | omega | exact ⟨by omega, by (first | with_reducible assumption | ((with_reducible apply jobsF_ne); omega) | assumption)⟩))
    | (apply s_m TY; exact rfl; (first | with_reducible assumption | ((with_reducible apply jobsF_sub); omega) | exact rfl); exact rfl)
    | (apply s_alloc TY; exact rfl; exact rfl; exact rfl)
    | (apply s_store TY; exact rfl; exact rfl; exact rfl; exact rfl; exact rfl; exact rfl))
            exact ⟨k + 1, by omega, by omega, gh_le ⟨le_upd rfl trivial (le_upd rfl trivial (le_upd rfl trivial (le_upd rfl trivial (le_upd rfl trivial (le_upd rfl trivial (le_nil _)))))), le_h0 _ _⟩⟩
theorem Summ.nil2 {P : Program} {G : Nat → Option (List FV)} {g : Nat} {a c r : FV} (K : Summ P G g [a, .sl 0 [], c] r) : Summ P G g [a, .v (.slice none 0 0), c] r :=
  ⟨K.enters, fun w M us hM hG R => by
    obtain ⟨u1, us1, rfl, r1, R1⟩ := R.head
    obtain ⟨u2, us2, rfl, r2, R2⟩ := R1.head
    exact K.call w M _ hM hG (RepL.cons r1 (RepL.cons (rep_nilsl r2) R2))⟩
set_option maxRecDepth 100000 in
theorem OrderFor_ok (l : List Job) (ok : JobsOk l) : Summ Tryz.prog GG 59 [.sl l.length (jobsF l)] (.tup [ordF (orderO l), iv (if (orderO l).isSome = true then 0 else 12)]) := by
  have hlen := ok.len
  have HJ := CheckJobs_s l (by omega)
  rw [jobsChk_ok ok] at HJ
  have HO := Summ.nil2 (onTime_s l ok l.length [] 0 (by simp) (by simp))
  rw [show onT l l.length [] 0 = orderO l from rfl] at HO
  cases ho : orderO l with
  | none =>
    rw [ho] at HO
    simp only [Option.isSome_none] at HO ⊢
    refine summW Tryz.func59 rfl rfl 24 rfl (by simp) (fun M0 => ?_)
    repeat (first
    | (apply s_assign_f; exact rfl; exact rfl)
    | (apply s_a TY; exact rfl)
    | (apply s_t; exact rfl; (first | assumption | omega))
    | apply w_seq
    | apply w_region
    | apply s_nil
    | apply t_norm
    | apply w_ret
    | apply w_skip
    | (apply w_condF; exact rfl; exact rfl)
    | (apply s_k (HJ); exact rfl)
    | (apply s_k (HO); exact rfl)
    | (apply s_k (unless_F _); exact rfl))
    exact lv_ret (ret2 rfl (res_tmp rfl) (res_tmp rfl))
  | some x =>
    rw [ho] at HO
    simp only [Option.isSome_some] at HO ⊢
    refine summW Tryz.func59 rfl rfl 24 rfl (by simp) (fun M0 => ?_)
    repeat (first
    | (apply s_assign_f; exact rfl; exact rfl)
    | (apply s_a TY; exact rfl)
    | (apply s_t; exact rfl; (first | assumption | omega))
    | apply w_seq
    | apply w_region
    | apply s_nil
    | apply t_norm
    | apply w_ret
    | apply w_skip
    | (apply w_condF; exact rfl; exact rfl)
    | (apply s_k (HJ); exact rfl)
    | (apply s_k (HO); exact rfl)
    | (apply s_k (unless_T _); exact rfl))
    exact lv_ret (ret2 rfl (res_tmp rfl) (res_tmp rfl))
end Go.Proofs.YtenkgipcblfocaaGreat
namespace Go.Ab
open Go Go.RowKit Go.Shelf Go.Proofs
section
variable {C : Ctx} {N : Nat} {st : St}
variable {ops : Array Oper} {pr : Bool} {K : St → Prop} {rest : List Oper} {d : Option Tmp} {T0 : TypeId} {pos : String} {af : Array Edge} {g : Option (Nat × Bool)}
end
end Go.Ab
namespace Go.Ab
open Go Go.RowKit Go.Shelf Go.Proofs
section
variable {C : Ctx} {N : Nat}
variable {Q : Exit → St → Prop} {st : St} {ops : Array Oper} {pr : Bool} {K : St → Prop} {rest : List Oper}
end
end Go.Ab
namespace Go.Ab
open Go Go.RowKit Go.Shelf Go.Proofs
section
variable {C : Ctx} {N : Nat}
theorem e_slice_head {o : Oper} {st : St} {T E s bs d : Nat} {x y : Operand} {cs : List FV} {n i e sz : Nat} {h : Int} {k : IntKind} (ty : Ty C.P) (ho : o.op = .slice T x none (some y) none) (hd : o.dst = some d) (hdN : dstB N o.dst = true) (hT : (ty.ty T).sl = some (E, s, bs)) (hx : st.ev C x = .ow i) (hi : st.h i = some (.row e sz n cs))
    (hy : st.ev C y = .f (.v (.int k h))) (h0 : 0 ≤ h) (hn : h ≤ n) (hp : 0 < n) (_hsz : 0 < sz) : EffOp C N o st ((st.grow i (.row e sz h.toNat (cs.take (h.toNat * sz)))).put (some d) (.ow i)) :=
  effop_run fun w0 a w J S => by
    have e1 := S.eval x
    rw [hx] at e1
    obtain ⟨hlv, hv⟩ := e1
    have e2 := evV S hy
    obtain ⟨hu, it, hi1, rfl, _⟩ := slE_spec ((ty.ok T).sl _ hT)
    obtain ⟨xs, q1, q0, q2, q3⟩ := S.blk i _ hi
    rcases q1.2 with ⟨_, rfl⟩ | ⟨g, cap, cur, hj, g1, g2, g3, g4, g5, g6⟩
    · exact absurd hp (by omega)
    have hle : h.toNat ≤ n := by omega
    have hle2 : h.toNat * sz ≤ n * sz := Nat.mul_le_mul_right _ hle
    have hle3 : n * sz ≤ cap * sz := Nat.mul_le_mul_right _ g3
    have hhc : h ≤ (cap : Int) := by omega
    have hrun : (execOp a.eval o).run C.P w = .ok (.value (.slice (if cap = 0 then some ⟨g, 0, none⟩ else some ((⟨g, 0, none⟩ : Addr).add 0)) h.toNat cap)) w := by
      simp [execOp, ho, hv, hj, e2, Instr.sliceAt, Instr.slice, run_underlying hu, Instr.sliceBounds, Instr.sliceBound, asIntOf, sizeOf, typeInfo, hi1, h0, hhc]
    have hva : (if cap = 0 then some (⟨g, 0, none⟩ : Addr) else some ((⟨g, 0, none⟩ : Addr).add 0)) = some ⟨g, 0, none⟩ := by
      split
      · rfl
      · rw [addr_add, Nat.zero_add]
    rw [hva] at hrun
    refine ⟨_, _, w, hrun, .inl rfl, upd J i (.slice (some ⟨g, 0, none⟩) h.toNat cap), ?_⟩
    have hbk : bk (J i) = some g := by rw [hj]; rfl
    have G : Sim C w0 N (st.grow i (.row e sz h.toNat (cs.take (h.toNat * sz)))) a w (upd J i (.slice (some ⟨g, 0, none⟩) h.toNat cap)) := S.regrow hlv (World.grownBy.refl _ _) (fun c hc => .inl (by rw [hbk]; simpa [bk] using hc)) ⟨xs.take (h.toNat * sz), ⟨?_, .inr ⟨g, cap, cur, rfl, g1, g2, by omega, g4, g5, ?_⟩⟩, fun b hb => q0 b (by rw [hbk]; simpa [bk] using hb), fun u hu => q2 u (List.mem_of_mem_take hu), ?_⟩ rfl
    · rw [hd] at hdN ⊢
      refine G.put hdN ⟨?_, ?_⟩
      · show ((st.grow i _).h i).isSome = true
        simp [St.grow]
      · rw [upd_same]
    · rw [List.length_take, q1.1]; omega
    · rw [← g6, List.take_take, Nat.min_eq_left hle2]
    · refine (q3.take _).mono (fun _ _ _ => rfl) (Nat.le_refl _) (fun b hb hm => ?_)
      rcases hm with h0 | ⟨j, hj', hjb⟩
      · exact .inl h0
      by_cases ej : j = i
      · subst ej
        rw [upd_same] at hjb
        exact .inr ⟨j, hlv, by rw [hbk]; simpa [bk] using hjb⟩
      · rw [upd_other _ _ ej] at hjb
        exact .inr ⟨j, by simpa [St.grow, killA_ne ej] using hj', hjb⟩
variable {Q : Exit → St → Prop} {st : St} {ops : Array Oper} {pr : Bool} {K : St → Prop} {rest : List Oper} {d : Option Tmp} {T0 : TypeId} {pos : String} {af : Array Edge} {g : Option (Nat × Bool)}
theorem s_slice_head (ty : Ty C.P) {T E s bs d : Nat} {x y : Operand} {cs : List FV} {n i e sz : Nat} {l : Int} {k : IntKind} (hdN : dstB N (some d) = true) (hT : (ty.ty T).sl = some (E, s, bs)) (hx : st.ev C x = .ow i) (hi : st.h i = some (.row e sz n cs)) (hy : st.ev C y = .f (.v (.int k l))) (h0 : 0 ≤ l) (hn : l ≤ n) (hp : 0 < n) (hsz : Nat.blt 0 sz = true)
    (h : R C N ops false K rest ((st.grow i (.row e sz l.toNat (cs.take (l.toNat * sz)))).put (some d) (.ow i))) : R C N ops false K (⟨some d, .slice T x none (some y) none, T0, pos, af, none⟩ :: rest) st := ⟨r_eff rfl (e_slice_head ty rfl rfl hdN hT hx hi hy h0 hn hp (Nat.le_of_ble_eq_true hsz)) h.out⟩
end
end Go.Ab
namespace Go.Ab
open Go Go.RowKit Go.Shelf Go.Proofs
section
variable {C : Ctx} {N : Nat}
def GroOp (C : Ctx) (N : Nat) (o : Oper) (st : St) (i : Nat) (B : Blk) (d : Nat) : Prop := o.guard = none ∧ o.dst = some d ∧
  ∀ w0 a w st', Agree C o st st' → (∀ k, st'.h k = st.h k) → SimE C w0 N st' a w → ∀ K Q, (∀ v w', SimE C w0 N ((st'.grow i B).put (some d) (.ow i)) (a.put o.dst v) w' → K (a.put o.dst v) w') → o.wpIn (Fence.wr C.ro) 7 C.P a w K Q
def dstsB (l : List Oper) (s1 s2 : Nat → AV) (i : Nat) : Prop := match l with
  | [] => True
  | o :: l => (match o.dst with | some t => killA i (s1 t) = s2 t | none => True) ∧ dstsB l s1 s2 i
theorem dstsB_mem {s1 s2 : Nat → AV} {i : Nat} : ∀ {l : List Oper}, dstsB l s1 s2 i → ∀ {o : Oper} {t : Nat}, o ∈ l → o.dst = some t → killA i (s1 t) = s2 t
  | [], _, _, _, h, _ => by cases h
  | x :: l, hd, o, t, h, ht => by
    rcases List.mem_cons.1 h with rfl | h
    · have := hd.1; rw [ht] at this; exact this
    · exact dstsB_mem hd.2 h ht
variable {l : List Oper} {n0 : Nat}
structure GD (C : Ctx) (N : Nat) (ops : Array Oper) (o : Oper) (mid : List Oper) (K : St → Prop) (st : St) : Prop where
  out : ∃ i B d, GroOp C N o st i B d ∧ Run C N ops true (fun st1 => Run C N ops true (fun st2 => (dstsB mid st1.s st2.s i ∧ st1.nx = st.nx ∧ st2.nx = st.nx) ∧ K st2) mid ((st.grow i B).put (some d) (.ow i))) mid st
structure KD (mid : List Oper) (i n : Nat) (K : St → Prop) (st1 st2 : St) : Prop where
  eqs : dstsB mid st1.s st2.s i
  nx1 : st1.nx = n
  nx2 : st2.nx = n
  out : K st2
theorem v_gro {o : Oper} {st : St} {T i n m e sz bs d : Nat} {x y : Operand} {cs ys : List FV} {zs : List Value} (ty : Ty C.P) (ho : o.op = .call { callee := .builtin .append, args := #[x, y], argTypes := #[T, T] }) (hg : o.guard = none) (hd : o.dst = some d) (hdN : dstB N o.dst = true) (hT : (ty.ty T).sl = some (e, sz, bs)) (hz : (ty.ty e).zero = some zs) (hzl : zs.length = sz) (hsz : Nat.blt 0 sz = true)
    (hx : st.ev C x = .ow i) (hi : st.h i = some (.row e sz n cs)) (hy : st.ev C y = .f (.sl m ys)) (hl : ys.length = m * sz) (h63 : n + m ≤ maxLen) (hbs : (n + m) * bs ≤ 140737488355328) : GroOp C N o st i (.row e sz (n + m) (cs ++ ys)) d :=
  ⟨hg, hd, fun w0 a w st' hA hh S K Q hK => e_append (st := st') ty ho hd hdN hT hz hzl (Nat.le_of_ble_eq_true hsz) ((hA.ev x (by simp [ho, Op.operands, Call.operands])).trans hx) ((hh i).trans hi) ((hA.ev y (by simp [ho, Op.operands, Call.operands])).trans hy) hl h63 hbs w0 a w S K Q hK⟩
end
end Go.Ab
namespace Go.Ab
open Go Go.RowKit Go.Shelf Go.Proofs
section
variable {C : Ctx} {N : Nat}
def selL (mask : Nat) : Nat → List Oper → List Oper
  | _, [] => []
  | j, o :: l => bif mask.testBit j then o :: selL mask (j + 1) l else selL mask (j + 1) l
theorem runSel {ops : Array Oper} {mask : Nat} {Q : St → Prop} : ∀ {l : List Oper} {j : Nat} {st : St}, Run C N ops true Q (selL mask j l) st → ∃ sts : Nat → St, sts 0 = st ∧ (∀ i o, l[i]? = some o → if mask.testBit (j + i) = true then One C N ops true o (sts i) (sts (i + 1)) else sts (i + 1) = sts i) ∧ Q (sts l.length)
  | [], j, st, h => ⟨fun _ => st, rfl, fun i o h => by simp at h, h⟩
  | o :: l, j, st, h => by
    unfold selL at h
    cases hb : mask.testBit j with
    | true =>
      rw [hb] at h
      obtain ⟨st', h1, h2⟩ := h
      obtain ⟨sts, e0, h3, h4⟩ := runSel h2
      refine ⟨fun i => match i with | 0 => st | i + 1 => sts i, rfl, fun i o' hi => ?_, h4⟩
      cases i with
      | zero =>
        simp at hi; subst hi
        rw [Nat.add_zero, if_pos hb]
        show One C N ops true _ st (sts 0)
        rw [e0]; exact h1
      | succ i =>
        have := h3 i o' (by simpa using hi)
        rw [show j + (i + 1) = j + 1 + i by omega]; exact this
    | false =>
      rw [hb] at h
      obtain ⟨sts, e0, h3, h4⟩ := runSel (j := j + 1) h
      refine ⟨fun i => match i with | 0 => st | i + 1 => sts i, rfl, fun i o' hi => ?_, h4⟩
      cases i with
      | zero =>
        simp at hi; subst hi
        rw [Nat.add_zero, if_neg (by rw [hb]; decide)]
        exact e0
      | succ i =>
        have := h3 i o' (by simpa using hi)
        rw [show j + (i + 1) = j + 1 + i by omega]; exact this
def mid3B (l : List Oper) (bf : Nat → Nat) (e n0 mp mm : Nat) : Bool := (List.range n0).all fun j => (Nat.beq j e && !mp.testBit j && !mm.testBit j || !(Nat.beq j e) && (mp.testBit j && !mm.testBit j && Nat.blt j e && (bf e).testBit j || !mp.testBit j && mm.testBit j && (match l[j]? with | some o => light o | none => true))) && (List.range j).all fun i => match l[i]?, l[j]? with
  | some oi, some oj => (match oi.dst, oj.dst with | some a, some b => !(Nat.beq a b) | _, _ => true)
  | _, _ => true
variable {l : List Oper} {n0 : Nat}
theorem mid3_at {bf : Nat → Nat} {e mp mm : Nat} (h : mid3B l bf e n0 mp mm = true) {j : Nat} (hj : j < n0) : (j = e ∧ mp.testBit j = false ∧ mm.testBit j = false) ∨ (j ≠ e ∧ ((mp.testBit j = true ∧ mm.testBit j = false ∧ j < e ∧ (bf e).testBit j = true) ∨ (mp.testBit j = false ∧ mm.testBit j = true ∧ ∀ o, l[j]? = some o → light o = true))) := by
  have h1 := List.all_eq_true.1 h j (List.mem_range.2 hj)
  rw [Bool.and_eq_true] at h1
  have h2 := h1.1
  by_cases e1 : j = e
  · subst e1
    simp at h2
    exact .inl ⟨rfl, h2⟩
  · have hb : Nat.beq j e = false := by cases q : Nat.beq j e; rfl; exact absurd (Nat.eq_of_beq_eq_true q) e1
    rw [hb] at h2
    refine .inr ⟨e1, ?_⟩
    cases ha : mp.testBit j <;> cases hc : mm.testBit j <;> rw [ha, hc] at h2 <;> simp at h2
    · refine .inr ⟨rfl, rfl, fun o ho => ?_⟩
      rw [ho] at h2; exact h2
    · exact .inl ⟨rfl, rfl, h2.1, h2.2⟩
theorem mid3_dst {bf : Nat → Nat} {e mp mm : Nat} (h : mid3B l bf e n0 mp mm = true) {i j : Nat} {oi oj : Oper} {t : Nat} (hij : i ≠ j) (hi : i < n0) (hj : j < n0) (hoi : l[i]? = some oi) (hoj : l[j]? = some oj) (ht : oi.dst = some t) : oj.dst ≠ some t := by
  intro ht2
  have key : ∀ {i j : Nat} {oi oj : Oper}, i < j → j < n0 → l[i]? = some oi → l[j]? = some oj → oi.dst = some t → oj.dst = some t → False := fun {i j oi oj} hij hj hoi hoj h1 h2 => by
    have h3 := List.all_eq_true.1 h j (List.mem_range.2 hj)
    rw [Bool.and_eq_true] at h3
    have h4 := List.all_eq_true.1 h3.2 i (List.mem_range.2 hij)
    rw [hoi, hoj] at h4
    simp only [h1, h2] at h4
    have : Nat.beq t t = true := Nat.beq_refl t
    rw [this] at h4; cases h4
  rcases Nat.lt_or_gt_of_ne hij with h1 | h1
  · exact key h1 hj hoi hoj ht ht2
  · exact key h1 hi hoj hoi ht2 ht
theorem draw_sound3 {id : Nat} {Q : St → Prop} {st : St} {Qc : Exit → Act → World → Prop} (e mp mm : Nat) (hm : C.P.follows .mixedOrders = true) (hok : okReg l n0 = true) (hmid : mid3B l (bitsOf l) e n0 mp mm = true) (hen : e < n0) {oo : Oper} (hoo : l[e]? = some oo)
    (hrun : Run C N l.toArray true (fun stE => Run C N l.toArray true (fun stA => Run C N l.toArray true (fun stP => ∃ i B d, GroOp C N oo stP i B d ∧ (∀ x ∈ oo.op.operands.toList, stE.ev C x = stP.ev C x) ∧ (∀ k, stA.h k = stP.h k) ∧ Run C N l.toArray true (fun stB => (dstsB (selL (mp ||| mm) 0 (l.take n0)) stA.s stB.s i) ∧ Run C N l.toArray false Q (l.drop n0) stB) (selL mm 0 (l.take n0)) ((stP.grow i B).put (some d) (.ow i))) (selL mp 0 (l.take n0)) st) ((l.take n0).drop (e + 1)) stE) (l.take e) st)
    {w0 : World} {a : Act} {w : World} (S : SimE C w0 N st a w) (hq : ∀ st' a' w', Q st' → SimE C w0 N st' a' w' → Qc .normal a' w') : (Code.region id l.toArray true).wpIn (Fence.wr C.ro) 7 C.P Qc a w := by
  simp only [okReg, Bool.and_eq_true] at hok
  obtain ⟨⟨⟨⟨hup, hb⟩, hap⟩, htl⟩, hle⟩ := hok
  have hle' : n0 ≤ l.length := Nat.le_of_ble_eq_true hle
  obtain ⟨s1, e1, r1, q1⟩ := hrun.states
  have htk : (l.take e).length = e := by simp; omega
  rw [htk] at q1
  have hmidl : ((l.take n0).drop (e + 1)).length = n0 - (e + 1) := by simp; omega
  obtain ⟨s2, e2, r2, q2⟩ := q1.states
  rw [hmidl] at q2
  obtain ⟨sp, ep, rp, q3⟩ := runSel q2
  have htn : (l.take n0).length = n0 := by simp; omega
  rw [htn] at q3
  obtain ⟨bi, BB, bd, hgro, hevs, hhp, q3⟩ := q3
  obtain ⟨sb0, eb, rb, q4⟩ := runSel q3
  rw [htn] at q4
  obtain ⟨hds, q4⟩ := q4
  obtain ⟨s4, e4, r4, q5⟩ := q4.states
  obtain ⟨sa, hsa⟩ : ∃ sa : Nat → St, sa = fun i => if i ≤ e then s1 i else s2 (i - (e + 1)) := ⟨_, rfl⟩
  obtain ⟨sb, hsb⟩ : ∃ sb : Nat → St, sb = fun i => if i ≤ n0 then sb0 i else s4 (i - n0) := ⟨_, rfl⟩
  have a1 : ∀ i, i ≤ e → sa i = s1 i := fun i hi => by rw [hsa]; simp [hi]
  have a2 : ∀ i, e + 1 ≤ i → sa i = s2 (i - (e + 1)) := fun i hi => by rw [hsa]; simp [show ¬ i ≤ e by omega]
  have a3 : sa (e + 1) = sa e := by rw [a2 _ (Nat.le_refl _), Nat.sub_self, e2, a1 e (Nat.le_refl _)]
  have b1 : ∀ i, i ≤ n0 → sb i = sb0 i := fun i hi => by rw [hsb]; simp [hi]
  have b3 : ∀ i, n0 ≤ i → sb i = s4 (i - n0) := fun i hi => by
    by_cases q : i = n0
    · subst q; rw [b1 _ (Nat.le_refl _), Nat.sub_self, e4]
    · rw [hsb]; simp [show ¬ i ≤ n0 by omega]
  have getn : ∀ i o, i < n0 → l[i]? = some o → (l.take n0)[i]? = some o := fun i o h2 ho => by rw [List.getElem?_take, if_pos h2]; exact ho
  have getm : ∀ i o, e + 1 ≤ i → i < n0 → l[i]? = some o → ((l.take n0).drop (e + 1))[i - (e + 1)]? = some o := fun i o h1 h2 ho => by
    rw [List.getElem?_drop, show e + 1 + (i - (e + 1)) = i by omega, List.getElem?_take, if_pos h2]; exact ho
  have oneA : ∀ i o, i < n0 → i ≠ e → l[i]? = some o → One C N l.toArray true o (sa i) (sa (i + 1)) := fun i o hi hne ho => by
    rcases Nat.lt_or_gt_of_ne hne with h | h
    · rw [a1 i (by omega), a1 (i + 1) h]
      exact r1 i o (by rw [List.getElem?_take, if_pos h]; exact ho)
    · rw [a2 i h, a2 (i + 1) (by omega), show i + 1 - (e + 1) = (i - (e + 1)) + 1 by omega]
      exact r2 _ o (getm i o h hi ho)
  have oneB : ∀ i o, i < n0 → mm.testBit i = true → l[i]? = some o → One C N l.toArray true o (sb i) (sb (i + 1)) := fun i o hi hmi ho => by
    have := rb i o (getn i o hi ho)
    rw [Nat.zero_add, if_pos hmi] at this
    rw [b1 i (by omega), b1 (i + 1) hi]; exact this
  have idB : ∀ i o, i < n0 → mm.testBit i = false → l[i]? = some o → sb (i + 1) = sb i := fun i o hi hmi ho => by
    have := rb i o (getn i o hi ho)
    rw [Nat.zero_add, if_neg (by rw [hmi]; decide)] at this
    rw [b1 i (by omega), b1 (i + 1) hi]; exact this
  have chA : Chain C N l n0 sa := ⟨fun i o hi ho => by
      by_cases he : i = e
      · subst he; exact .inr a3
      · exact .inl (oneA i o hi he ho), hle'⟩
  have chB : Chain C N l n0 sb := ⟨fun i o hi ho => by
      cases hmi : mm.testBit i with
      | true => exact .inl (oneB i o hi hmi ho)
      | false => exact .inr (idB i o hi hmi ho), hle'⟩
  have chP : Chain C N l n0 sp := ⟨fun i o hi ho => by
      have := rp i o (getn i o hi ho)
      rw [Nat.zero_add] at this
      cases hmi : mp.testBit i with
      | true => rw [if_pos hmi] at this; exact .inl this
      | false => rw [if_neg (by rw [hmi]; decide)] at this; exact .inr this, hle'⟩
  have post : ∀ i o, n0 ≤ i → l[i]? = some o → One C N l.toArray false o (sb i) (sb (i + 1)) := fun i o hi ho => by
      rw [b3 i hi, b3 (i + 1) (by omega), show i + 1 - n0 = (i - n0) + 1 by omega]
      exact r4 (i - n0) o (by rw [List.getElem?_drop, show n0 + (i - n0) = i by omega]; exact ho)
  have hend : Q (sb l.length) := by
    rw [b3 _ hle']; simpa using q5
  have atl : ∀ {i}, i < n0 → ∃ o, l[i]? = some o := fun {i} hi => ⟨l[i]'(by omega), List.getElem?_eq_getElem _⟩
  have hEs : ∀ t, t ≠ bd → (sb 0).s t = killA bi ((sp n0).s t) := fun t ht => by
    rw [b1 0 (Nat.zero_le _), eb]; simp only [St.put]; rw [upd_other _ _ ht]; rfl
  have hEd : (sb 0).s bd = .ow bi := by rw [b1 0 (Nat.zero_le _), eb]; simp only [St.put, upd_same]
  have hEh : ∀ k, (sb 0).h k = bif Nat.beq k bi then some BB else ((sp n0).h k).map (killB bi) := fun k => by rw [b1 0 (Nat.zero_le _), eb]; rfl
  have keep : ∀ {sts : Nat → St}, Chain C N l n0 sts → ∀ {m t : Nat} {om : Oper}, m < n0 → l[m]? = some om → om.dst = some t → ∀ q, m + 1 ≤ q → q ≤ n0 → (sts q).s t = (sts (m + 1)).s t := fun {sts} ch {m t om} hm hom hdm q hq => by
    induction hq with
    | refl => intro _; rfl
    | @step q hq ih =>
      intro hqn
      have hq' : m + 1 ≤ q := hq
      obtain ⟨oq, hoq, h1⟩ := ch.one (show q < n0 by omega)
      rw [h1.slot.1 t (mid3_dst hmid (i := m) (j := q) (by omega) hm (by omega) hom hoq hdm), ih (by omega)]
  have keep0 : ∀ {sts : Nat → St}, Chain C N l n0 sts → ∀ {m t : Nat} {om : Oper}, m < n0 → l[m]? = some om → om.dst = some t → ∀ q, q ≤ m → (sts q).s t = (sts 0).s t := fun {sts} ch {m t om} hm hom hdm q => by
    induction q with
    | zero => intro _; rfl
    | succ q ih =>
      intro hqm
      obtain ⟨oq, hoq, h1⟩ := ch.one (show q < n0 by omega)
      rw [h1.slot.1 t (mid3_dst hmid (i := m) (j := q) (by omega) hm (by omega) hom hoq hdm), ih (by omega)]
  have litA : ∀ i, i < n0 → mp.testBit i = false → (sa (i + 1)).nx = (sa i).nx ∧ (sa (i + 1)).h = (sa i).h := fun i hi hpi => by
    rcases mid3_at hmid hi with ⟨rfl, _, _⟩ | ⟨hne, ⟨hp, _⟩ | ⟨_, hmm, hli⟩⟩
    · rw [a3]; exact ⟨rfl, rfl⟩
    · rw [hpi] at hp; cases hp
    · obtain ⟨o, ho, h1⟩ := chA.one hi
      rcases h1.slot.2 with h2 | ⟨h2, _⟩
      · exact h2
      · have h3 := h1.heavy (by omega)
        rw [hli o ho] at h3; cases h3
  have litB : ∀ i, i < n0 → (sb (i + 1)).nx = (sb i).nx ∧ (sb (i + 1)).h = (sb i).h := fun i hi => by
    obtain ⟨o, ho⟩ := atl hi
    cases hmi : mm.testBit i with
    | false => rw [idB i o hi hmi ho]; exact ⟨rfl, rfl⟩
    | true =>
      rcases mid3_at hmid hi with ⟨rfl, _, hc⟩ | ⟨hne, ⟨_, hc, _⟩ | ⟨_, _, hli⟩⟩
      · rw [hmi] at hc; cases hc
      · rw [hmi] at hc; cases hc
      · have h1 := oneB i o hi hmi ho
        rcases h1.slot.2 with h2 | ⟨h2, _⟩
        · exact h2
        · have h3 := h1.heavy (by omega)
          rw [hli o ho] at h3; cases h3
  have hBheap : ∀ (s : Nat → Bool) m, m ≤ n0 → ∀ k, heapS sb s m k = (sb 0).h k := fun s m => by
    induction m with
    | zero => intro _ k; rfl
    | succ m ih =>
      intro hmn k
      unfold heapS
      rw [if_neg (fun hc => by have := (litB m hmn).1; omega)]
      exact ih (by omega) k
  have tail : ∀ {s : Nat → Bool}, (∀ i o, l[i]? = some o → s i = true → ∀ e ∈ o.after, Region.binds .any e = true → s e.on = true) → ∀ (i : Nat) (o : Oper), n0 ≤ i → l[i]? = some o → (∀ e ∈ o.after, Region.binds .any e = true → s e.on = true) → ∀ j, j < i → s j = true := fun hdc i o hi ho he j hj => by
    have h1 := List.all_eq_true.1 htl i (List.mem_range.2 (List.getElem?_eq_some_iff.1 ho).1)
    have : Nat.blt i n0 = false := by cases e : Nat.blt i n0; rfl; have := Nat.le_of_ble_eq_true e; omega
    rw [this, Bool.false_or] at h1
    exact bits_done hb hup hdc i o ho he j hj (List.all_eq_true.1 h1 j (List.mem_range.2 hj))
  have early : ∀ {s : Nat → Bool}, (∀ i o, l[i]? = some o → s i = true → ∀ e ∈ o.after, Region.binds .any e = true → s e.on = true) → (∀ e ∈ oo.after, Region.binds .any e = true → s e.on = true) → ∀ j, j < n0 → mp.testBit j = true → s j = true := fun hdc he j hj hpj => by
    rcases mid3_at hmid hj with ⟨_, hp, _⟩ | ⟨_, ⟨_, _, hje, hbf⟩ | ⟨hp, _⟩⟩
    · rw [hpj] at hp; cases hp
    · exact bits_done hb hup hdc e oo hoo he j hje hbf
    · rw [hpj] at hp; cases hp
  have full : ∀ {s : Nat → Bool} {a : Act} {w : World}, (∀ j, j < n0 → s j = true) → SimE C w0 N ⟨slotS l sb s n0, heapS sb s n0, 0⟩ a w → SimE C w0 N (sb n0) a w := fun {s} _ _ hall S => by
    refine S.cast (fun t => ?_) (fun k => ?_)
    · exact (chB.slot_eq (i := n0) (fun m hm _ => hall m hm) n0 (Nat.le_refl _) (Nat.le_refl _)).symm
    · exact (chB.heap_full hall n0 (Nat.le_refl _)).symm
  refine wpIn_region_inv hm hup (fun s a w => (∀ i o, l[i]? = some o → s i = true → ∀ e ∈ o.after, Region.binds .any e = true → s e.on = true) ∧
    (((∀ i, n0 ≤ i → s i = false) ∧ (s e = false ∧ SimE C w0 N ⟨slotS l sa s n0, heapS sa s n0, 0⟩ a w ∨ s e = true ∧ SimE C w0 N ⟨slotS l sb s n0, heapS sb s n0, 0⟩ a w)) ∨ ∃ m, n0 ≤ m ∧ (∀ i, i < l.length → (s i = true ↔ i < m)) ∧ m ≤ l.length ∧ SimE C w0 N (sb m) a w)) ?_ ?_ ?_
  · refine ⟨fun i o _ h => (by cases h), .inl ⟨fun _ _ => rfl, .inl ⟨rfl, ?_⟩⟩⟩
    have S' : SimE C w0 N st a w.drew := let ⟨J, S⟩ := S; ⟨J, S.toExt (Ext.drew w)⟩
    rw [← e1, ← a1 0 (Nat.zero_le _)] at S'
    refine S'.cast (fun t => ?_) (fun k => ?_)
    · exact slot_more (l := l) (i := 0) (fun m _ _ h => by cases h) (Nat.zero_le _)
    · have : ∀ m, heapS sa (fun _ => false) m k = (sa 0).h k := fun m => by
        induction m with
        | zero => rfl
        | succ m ih => unfold heapS; rw [if_neg (by simp)]; exact ih
      exact this n0
  · rintro s a w i o ho hs hedge ⟨hdc, hInv⟩
    have ho' : l[i]? = some o := by simpa using ho
    have hil : i < l.length := (List.getElem?_eq_some_iff.1 ho').1
    have hdc' : ∀ j oj, l[j]? = some oj → (decide (j = i) || s j) = true → ∀ e ∈ oj.after, Region.binds .any e = true → (decide (e.on = i) || s e.on) = true := fun j oj hj hsj e he hbe => by
      by_cases ej : j = i
      · subst ej; rw [ho'] at hj; cases hj; rw [hedge e he hbe]; simp
      · rw [hdc j oj hj (by simpa [ej] using hsj) e he hbe]; simp
    unfold wpOpIn
    simp only [ho]
    obtain ⟨Inv, hInvE⟩ : ∃ Inv : Act → World → Prop, Inv = fun a' w' => (∀ j oj, l[j]? = some oj → (decide (j = i) || s j) = true → ∀ e ∈ oj.after, Region.binds .any e = true → (decide (e.on = i) || s e.on) = true) ∧
          (((∀ j, n0 ≤ j → (decide (j = i) || s j) = false) ∧ ((decide (e = i) || s e) = false ∧ SimE C w0 N ⟨slotS l sa (fun j => decide (j = i) || s j) n0, heapS sa (fun j => decide (j = i) || s j) n0, 0⟩ a' w' ∨ (decide (e = i) || s e) = true ∧ SimE C w0 N ⟨slotS l sb (fun j => decide (j = i) || s j) n0, heapS sb (fun j => decide (j = i) || s j) n0, 0⟩ a' w')) ∨ ∃ m, n0 ≤ m ∧ (∀ j, j < l.length → ((decide (j = i) || s j) = true ↔ j < m)) ∧ m ≤ l.length ∧ SimE C w0 N (sb m) a' w') := ⟨_, rfl⟩
    have late : ∀ m, n0 ≤ m → (∀ i, i < l.length → (s i = true ↔ i < m)) → m ≤ l.length → SimE C w0 N (sb m) a w → n0 ≤ i →
        if Region.wanted o (yielded l.toArray a.tmps) then o.wpIn (Fence.wr C.ro) 7 C.P a w Inv Qc else Inv (a.put o.dst undef) w := by
      intro m hm hall hml S hin
      have him : i = m := by
        have h1 : ¬ i < m := fun h => by rw [(hall i hil).2 h] at hs; cases hs
        refine Classical.byContradiction fun hc => ?_
        have h2 := tail hdc i o hin ho' hedge m (by omega)
        have := (hall m (by omega)).1 h2
        omega
      subst him
      refine (post i o hin ho').wp S (fun a' w' S' => ?_)
      rw [hInvE]
      refine ⟨hdc', .inr ⟨i + 1, by omega, fun j hj => ?_, hil, S'⟩⟩
      have := hall j hj
      by_cases ej : j = i
      · subst ej; simp
      · simp only [show decide (j = i) = false by simp [ej], Bool.false_or, this]; omega
    refine both_in (fun _ _ => trivial) ?_
    suffices hgoal : if Region.wanted o (yielded l.toArray a.tmps) then o.wpIn (Fence.wr C.ro) 7 C.P a w Inv Qc else Inv (a.put o.dst undef) w by rw [hInvE] at hgoal; exact hgoal
    rcases hInv with ⟨hin, hAB⟩ | ⟨m, hm, hall, hml, S⟩
    · by_cases hi : i < n0
      · rcases hAB with ⟨hse, S⟩ | ⟨hse, S⟩
        · by_cases hie : i = e
          · subst hie
            rw [hoo] at ho'; cases ho'
            have hdone := early hdc hedge
            have hheap : ∀ k, heapS sa s n0 k = (sp n0).h k := fun k => by
              rw [chA.heap_here n0 (Nat.le_refl _) (fun j hj hx => by
                cases hpj : mp.testBit j with
                | true => exact hdone j hj hpj
                | false => have := (litA j hj hpj).1; omega)]
              rw [a2 n0 (by omega)]; exact hhp k
            obtain ⟨conf2, read⟩ := chA.read hb hup (Nat.le_refl _) hap hdc hi hoo hs hedge
            have agr : Agree C oo (sp n0) ⟨slotS l sa s n0, heapS sa s n0, 0⟩ := ⟨fun x hx => by
              have h0 := hevs x hx
              rw [← a1 i (Nat.le_refl _)] at h0
              rw [← h0]
              cases x with
              | tmp t => exact read t (by unfold Oper.looksAt; simp only [List.mem_append, List.mem_filterMap]; exact .inl ⟨.tmp t, hx, rfl⟩)
              | _ => rfl, fun k B hB => .inr ⟨B, (hheap k).trans hB, .inl rfl⟩⟩
            obtain ⟨g0, gd, gw⟩ := hgro
            have hwt : wantB ⟨slotS l sa s n0, heapS sa s n0, 0⟩ l.toArray oo = some true := by unfold wantB; rw [g0]
            rw [want_sim S hwt, if_pos rfl]
            refine gw w0 a w _ agr hheap S _ _ (fun v w' S' => ?_)
            rw [hInvE]
            refine ⟨hdc', .inl ⟨fun j hj => by rw [hin j hj]; simp; omega, .inr ⟨by simp, S'.cast (fun t => ?_) (fun k => ?_)⟩⟩⟩
            · show slotS l sb (fun j => decide (j = i) || s j) n0 t = (St.put (St.grow ⟨slotS l sa s n0, heapS sa s n0, 0⟩ bi BB) (some bd) (.ow bi)).s t
              have wr : ∀ {sts : Nat → St} (s' : Nat → Bool), Chain C N l n0 sts → ∀ {m0 : Nat} {om : Oper}, m0 < n0 → l[m0]? = some om → om.dst = some t → s' m0 = true → slotS l sts s' n0 t = (sts n0).s t := fun {sts} s' ch {m0 om} hm0 hom hdm hsm => by
                rw [keep ch hm0 hom hdm n0 hm0 (Nat.le_refl _)]
                have e5 : slotS l sts s' n0 t = slotS l sts s' (m0 + 1) t := slot_more (fun m hm hmn _ hd => by
                  have hom2 := List.getElem?_eq_getElem (show m < l.length by omega)
                  rw [hom2] at hd
                  exact mid3_dst hmid (i := m0) (j := m) (by omega) hm0 hmn hom hom2 hdm hd) hm0
                rw [e5]
                show (if s' m0 = true ∧ (l[m0]?).bind (·.dst) = some t then (sts (m0 + 1)).s t else _) = _
                rw [if_pos ⟨hsm, by rw [hom]; exact hdm⟩]
              by_cases hd : t = bd
              · subst hd
                rw [wr _ chB hi hoo gd (by simp)]
                rw [show (sb n0).s t = (sb 0).s t by rw [keep chB hi hoo gd n0 hi (Nat.le_refl _), idB i oo hi (by
                  rcases mid3_at hmid hi with ⟨_, _, h⟩ | ⟨h, _⟩
                  · exact h
                  · exact absurd rfl h) hoo, keep0 chB hi hoo gd i (Nat.le_refl _)], hEd]
                simp only [St.put, upd_same]
              · rw [show (St.put (St.grow ⟨slotS l sa s n0, heapS sa s n0, 0⟩ bi BB) (some bd) (.ow bi)).s t = killA bi (slotS l sa s n0 t) by simp only [St.put]; rw [upd_other _ _ hd]; rfl]
                by_cases hw : ∃ m0 om, m0 < n0 ∧ m0 ≠ i ∧ l[m0]? = some om ∧ om.dst = some t ∧ s m0 = true
                · obtain ⟨m0, om, hm0, hne, hom, hdm, hsm⟩ := hw
                  rw [wr _ chB hm0 hom hdm (by simp [hsm]), wr _ chA hm0 hom hdm hsm]
                  have hmem : om ∈ selL (mp ||| mm) 0 (l.take n0) := by
                    have hbit : (mp ||| mm).testBit (0 + m0) = true := by
                      rw [Nat.zero_add, Nat.testBit_or]
                      rcases mid3_at hmid hm0 with ⟨h, _⟩ | ⟨_, ⟨h, _⟩ | ⟨_, h, _⟩⟩
                      · exact absurd h hne
                      · rw [h]; rfl
                      · rw [h, Bool.or_true]
                    have gen : ∀ (L : List Oper) (j m : Nat) (o : Oper), L[m]? = some o → (mp ||| mm).testBit (j + m) = true → o ∈ selL (mp ||| mm) j L := fun L => by
                      induction L with
                      | nil => intro j m o h; simp at h
                      | cons x L ih =>
                        intro j m o h hbm
                        unfold selL
                        cases m with
                        | zero =>
                          simp at h; subst h
                          rw [Nat.add_zero] at hbm
                          rw [hbm]; exact List.mem_cons_self ..
                        | succ m =>
                          have := ih (j + 1) m o (by simpa using h) (by rw [show j + 1 + m = j + (m + 1) by omega]; exact hbm)
                          cases (mp ||| mm).testBit j
                          · exact this
                          · exact List.mem_cons_of_mem _ this
                    exact gen _ 0 m0 om (getn m0 om hm0 hom) hbit
                  have := dstsB_mem hds hmem hdm
                  rw [a2 n0 (by omega), b1 n0 (Nat.le_refl _)]
                  exact this.symm
                · have hno : ∀ m om, m < n0 → m ≠ i → l[m]? = some om → om.dst = some t → s m = false := fun m om h1 h2 h3 h4 => by
                    cases h5 : s m with
                    | false => rfl
                    | true => exact absurd ⟨m, om, h1, h2, h3, h4, h5⟩ hw
                  have eA : slotS l sa s n0 t = (sa 0).s t := slot_more (l := l) (i := 0) (fun m _ hmn hsm hd2 => by
                    have hom2 := List.getElem?_eq_getElem (show m < l.length by omega)
                    rw [hom2] at hd2
                    by_cases hmi : m = i
                    · subst hmi; rw [hs] at hsm; cases hsm
                    · have := hno m _ hmn hmi hom2 hd2
                      rw [hsm] at this; cases this) (Nat.zero_le _)
                  have eB : slotS l sb (fun j => decide (j = i) || s j) n0 t = (sb 0).s t := slot_more (l := l) (i := 0) (fun m _ hmn hsm hd2 => by
                    have hom2 := List.getElem?_eq_getElem (show m < l.length by omega)
                    rw [hom2] at hd2
                    by_cases hmi : m = i
                    · subst hmi
                      rw [hom2] at hoo
                      have ho3 := Option.some.inj hoo
                      have hd3 : (l[m]'(by omega)).dst = some t := hd2
                      rw [ho3, gd] at hd3
                      exact hd (Option.some.inj hd3).symm
                    · have := hno m _ hmn hmi hom2 hd2
                      rw [show s m = true by simpa [hmi] using hsm] at this; cases this) (Nat.zero_le _)
                  rw [eA, eB, hEs t hd]
                  congr 1
                  have hP : ∀ q, q ≤ n0 → (sp q).s t = (sp 0).s t := fun q => by
                    induction q with
                    | zero => intro _; rfl
                    | succ q ih =>
                      intro hqn
                      obtain ⟨oq, hoq, h1⟩ := chP.one (show q < n0 by omega)
                      cases hpq : mp.testBit q with
                      | false =>
                        have := rp q oq (getn q oq hqn hoq)
                        rw [Nat.zero_add, if_neg (by rw [hpq]; decide)] at this
                        rw [this, ih (by omega)]
                      | true =>
                        rw [h1.slot.1 t (fun hdq => by
                          have hqi : q ≠ i := fun h => by
                            subst h
                            rcases mid3_at hmid hi with ⟨_, hp, _⟩ | ⟨h, _⟩
                            · rw [hpq] at hp; cases hp
                            · exact h rfl
                          have := hno q oq hqn hqi hoq hdq
                          rw [hdone q hqn hpq] at this; cases this), ih (by omega)]
                  rw [hP n0 (Nat.le_refl _), ep, a1 0 (Nat.zero_le _), e1]
            · show heapS sb (fun j => decide (j = i) || s j) n0 k = (St.put (St.grow ⟨slotS l sa s n0, heapS sa s n0, 0⟩ bi BB) (some bd) (.ow bi)).h k
              rw [hBheap _ n0 (Nat.le_refl _) k, hEh k]
              show _ = (bif Nat.beq k bi then some BB else (heapS sa s n0 k).map (killB bi))
              rw [hheap k]
          · refine chA.step hb hup (Nat.le_refl _) hap (ov := fun _ => none) (fun _ _ h => by cases h) hdc hi ho' hs hedge S (oneA i o hi hie ho') (fun a' w' S' => ?_)
            rw [hInvE]
            refine ⟨hdc', .inl ⟨fun j hj => by rw [hin j hj]; simp; omega, .inl ⟨by rw [hse]; simp; omega, S'⟩⟩⟩
        · have hmi : mm.testBit i = true := by
            rcases mid3_at hmid hi with ⟨h, _⟩ | ⟨_, ⟨hp, _⟩ | ⟨_, h, _⟩⟩
            · subst h; rw [hs] at hse; cases hse
            · have := early hdc (hdc e oo hoo hse) i hi hp
              rw [hs] at this; cases this
            · exact h
          refine chB.step hb hup (Nat.le_refl _) hap (ov := fun _ => none) (fun _ _ h => by cases h) hdc hi ho' hs hedge S (oneB i o hi hmi ho') (fun a' w' S' => ?_)
          rw [hInvE]
          refine ⟨hdc', .inl ⟨fun j hj => by rw [hin j hj]; simp; omega, .inr ⟨by rw [hse]; simp, S'⟩⟩⟩
      · have hall : ∀ j, j < n0 → s j = true := fun j hj => tail hdc i o (by omega) ho' hedge j (by omega)
        rcases hAB with ⟨hse, S⟩ | ⟨hse, S⟩
        · rw [hall e hen] at hse; cases hse
        · refine late n0 (Nat.le_refl _) (fun j hj => ⟨fun h => ?_, fun h => hall j h⟩) hle' (full hall S) (by omega)
          refine Classical.byContradiction fun hc => ?_
          rw [hin j (by omega)] at h; cases h
    · refine late m hm hall hml S ?_
      refine Classical.byContradiction fun hc => ?_
      rw [(hall i hil).2 (by omega)] at hs; cases hs
  · rintro s a w hall ⟨_, hInv⟩
    rcases hInv with ⟨hin, hAB⟩ | ⟨m, hm, hiff, hml, S⟩
    · have hn : n0 = l.length := by
        refine Classical.byContradiction fun hc => ?_
        have := hall n0 (by omega)
        rw [hin n0 (Nat.le_refl _)] at this; cases this
      rcases hAB with ⟨hse, S⟩ | ⟨hse, S⟩
      · rw [hall e (by omega)] at hse; cases hse
      · refine hq (sb l.length) a w hend ?_
        rw [← hn]
        exact full (fun j hj => hall j (by omega)) S
    · have hmm : m = l.length := by
        refine Classical.byContradiction fun hc => ?_
        have := (hiff m (by omega)).1 (hall m (by omega))
        omega
      exact hq _ a w (hmm ▸ hend) (hmm ▸ S)
structure GE (C : Ctx) (N : Nat) (ops : Array Oper) (o : Oper) (all mid : List Oper) (K : St → Prop) (stE stA stP : St) : Prop where
  out : ∃ i B d, GroOp C N o stP i B d ∧ (∀ x ∈ o.op.operands.toList, stE.ev C x = stP.ev C x) ∧ (∀ k, stA.h k = stP.h k) ∧ Run C N ops true (fun stB => dstsB all stA.s stB.s i ∧ K stB) mid ((stP.grow i B).put (some d) (.ow i))
structure KE (all : List Oper) (i : Nat) (K : St → Prop) (stA stB : St) : Prop where
  eqs : dstsB all stA.s stB.s i
  out : K stB
theorem w_draw3 {Q : Exit → St → Prop} {id : Nat} {st : St} (e n0 mp mm : Nat) (hm : C.P.follows .mixedOrders = true) (hok : okReg l n0 = true) (hmid : (mid3B l (bitsOf l) e n0 mp mm && Nat.blt e n0) = true) {oo : Oper} (hoo : l[e]? = some oo) (h : R C N l.toArray true (fun stE => R C N l.toArray true (fun stA => R C N l.toArray true (GE C N l.toArray oo (selL (mp ||| mm) 0 (l.take n0)) (selL mm 0 (l.take n0)) (R C N l.toArray false (Q .normal) (l.drop n0)) stE stA) (selL mp 0 (l.take n0)) st) ((l.take n0).drop (e + 1)) stE) (l.take e) st) : W C N (.region id l.toArray true) Q st := by
  rw [Bool.and_eq_true] at hmid
  exact ⟨fun _w0 _a _w _Qc S hq => draw_sound3 e mp mm hm hok hmid.1 (Nat.le_of_ble_eq_true hmid.2) hoo (Run.mono (fun _ h1 => Run.mono (fun _ h2 => Run.mono (fun _ g => let ⟨i, B, d, q1, q2, q3, q4⟩ := g.out; ⟨i, B, d, q1, q2, q3, Run.mono (fun _ h4 => ⟨h4.1, h4.2.out⟩) q4⟩) h2.out) h1.out) h.out) S (fun _st' _a' _w' q S' => hq _ _ _ _ q S')⟩
theorem s_gro3 (ty : Ty C.P) {T0 : TypeId} {pos : String} {af : Array Edge} {K : St → Prop} {ops : Array Oper} {all mid : List Oper} {stE stA st : St} {T i n m e sz bs d : Nat} {x y : Operand} {cs ys : List FV} {zs : List Value} (hdN : dstB N (some d) = true) (hT : (ty.ty T).sl = some (e, sz, bs)) (hz : (ty.ty e).zero = some zs) (hzl : zs.length = sz) (hsz : Nat.blt 0 sz = true)
    (hx : st.ev C x = .ow i) (hi : st.h i = some (.row e sz n cs)) (hy : st.ev C y = .f (.sl m ys)) (hl : ys.length = m * sz) (h63 : n + m ≤ maxLen) (hbs : (n + m) * bs ≤ 140737488355328) (hx2 : stE.ev C x = st.ev C x) (hy2 : stE.ev C y = st.ev C y) (hh : ∀ k, stA.h k = st.h k)
    (h : R C N ops true (KE all i K stA) mid ((st.grow i (.row e sz (n + m) (cs ++ ys))).put (some d) (.ow i))) : GE C N ops ⟨some d, .call { callee := .builtin .append, args := #[x, y], argTypes := #[T, T] }, T0, pos, af, none⟩ all mid K stE stA st :=
  ⟨i, _, d, v_gro ty rfl rfl rfl hdN hT hz hzl hsz hx hi hy hl h63 hbs, fun z hz2 => by
    have : z = x ∨ z = y := by simpa [Op.operands, Call.operands] using hz2
    rcases this with rfl | rfl
    · exact hx2
    · exact hy2, hh, Run.mono (fun _ h2 => ⟨h2.eqs, h2.out⟩) h.out⟩
end
end Go.Ab
namespace Go.Ab
open Go Go.RowKit Go.Shelf Go.Proofs
def OpensFs (P : Program) (w : World) (fs : List Field) (off tot : Nat) {α : Type} (k : α → List FV) : Prop :=
  ∀ (H : Type) (enc : TypeId × Value → H) (base : Nat) (sp : Nat → Bool) (hd : Bool) (n : Nat) (cs : List Value), cs.length = off + tot → (∀ (i : Nat) (f : Field), fs[i]? = some f → ∃ x, DataW.trod enc P w base sp hd n f.type ((cs.drop f.offset).take (P.cellsOf f.type)) = some x) → ∃ a : α, RepL w (fun _ => False) (cs.drop off) (k a) ∧ ∀ u ∈ cs.drop off, u.oneCell'
section
variable {P : Program} {w : World}
theorem ofs_nil {off : Nat} : OpensFs P w [] off 0 (fun _ : Unit => []) := fun H enc base sp hd n cs hl _ => by
  rw [List.drop_eq_nil_of_le (by omega)]
  exact ⟨(), RepL.nil _ _, by simp⟩
theorem ofs_cons {f : Field} {fs : List Field} {off s tot : Nat} {α β : Type} {g : α → List FV} {k : β → List FV} (hc : P.cellsOf f.type = s) (ho : f.offset = off) (h : Opens P w f.type g) (hr : OpensFs P w fs (off + s) tot k) : OpensFs P w (f :: fs) off (s + tot) (fun p : α × β => g p.1 ++ k p.2) := fun H enc base sp hd n cs hl hx => by
  obtain ⟨x, hx0⟩ := hx 0 f rfl
  obtain ⟨a, r0, q0⟩ := h H enc base sp hd n _ _ hx0
  obtain ⟨b, r1, q1⟩ := hr H enc base sp hd n cs (by omega) (fun i f' hf => hx (i + 1) f' hf)
  rw [ho, hc] at r0 q0
  have hs : cs.drop off = (cs.drop off).take s ++ cs.drop (off + s) := by rw [← List.drop_drop, List.take_append_drop]
  refine ⟨(a, b), ?_, fun u hu => ?_⟩
  · rw [hs]; exact RepL.append r0 r1
  · rw [hs] at hu
    rcases List.mem_append.1 hu with h | h
    · exact q0 u h
    · exact q1 u h
theorem opens_st {T : TypeId} {fs : Array Field} {tot : Nat} {α : Type} {k : α → List FV} (ht : P.underlying T = some (.struct fs)) (ct : P.cellsOf T = tot) (h : OpensFs P w fs.toList 0 tot k) : Opens P w T k := fun H enc base sp hd fuel cs x hx => by
  obtain ⟨xs, n, _, _, hlen, hxl, hf⟩ := DataW.trod_struct ht hx
  have := h H enc base sp hd n cs (by rw [hlen, ct]; omega) (fun i f hi => by
    have hi' : fs[i]? = some f := by rw [← hi]; simp
    have e := hf i f hi'
    have hlt : i < xs.length := by
      rw [hxl]
      exact (Array.getElem?_eq_some_iff.1 hi').1
    rw [List.getElem?_eq_getElem hlt] at e
    exact ⟨_, e⟩)
  rwa [List.drop_zero] at this
end
end Go.Ab
namespace Go.Ab
open Go Go.RowKit Go.Shelf Go.Proofs
section
variable {C : Ctx} {N : Nat} {st : St} {ops : Array Oper} {pr : Bool} {K : St → Prop} {rest : List Oper}
end
end Go.Ab
namespace Go.Ab
open Go Go.RowKit Go.Shelf Go.Proofs
section
variable {C : Ctx} {N : Nat} {st : St}
def Hp (st st' : St) : Prop := ∀ i B, st.h i = some B → st'.h i = none ∨ ∃ B', st'.h i = some B' ∧ More B B'
def Sees (C : Ctx) (N : Nat) (st : St) (x : AV) (y : FV) : Prop := ∀ st', Hp st st' → ∀ w0 a w J, Sim C w0 N st' a w J → ∀ v, RepA C w st'.h J v x → RepF w C.M0 v y
theorem Hp.blk {st st' : St} {w0 : World} {a : Act} {w : World} {J : Nat → Value} (H : Hp st st') (S : Sim C w0 N st' a w J) {i : Nat} {B : Blk} (hi : st.h i = some B) (hl : (st'.h i).isSome = true) : RepB C w w0.heap.size st'.h J (J i) B := by
  rcases H i B hi with h | ⟨B', h, m⟩
  · rw [h] at hl; cases hl
  · exact m.rep (S.blk i B' h)
def SeesL (C : Ctx) (N : Nat) (st : St) : List AV → List FV → Prop
  | [], [] => True
  | x :: xs, y :: ys => Sees C N st x y ∧ SeesL C N st xs ys
  | _, _ => False
theorem SeesL.len : ∀ {xs : List AV} {ys : List FV}, SeesL C N st xs ys → xs.length = ys.length
  | [], [], _ => rfl
  | _ :: _, _ :: _, h => by simp [SeesL.len h.2]
  | [], _ :: _, h => h.elim
  | _ :: _, [], h => h.elim
theorem SeesL.at_ : ∀ {xs : List AV} {ys : List FV}, SeesL C N st xs ys → ∀ (k : Nat) (x : AV) (y : FV), xs[k]? = some x → ys[k]? = some y → Sees C N st x y
  | [], [], _, k, x, y, h, _ => by simp at h
  | x :: xs, y :: ys, h, k, x', y', h1, h2 => by
    cases k with
    | zero => simp at h1 h2; subst h1; subst h2; exact h.1
    | succ k => exact SeesL.at_ h.2 k x' y' (by simpa using h1) (by simpa using h2)
  | [], _ :: _, h, _, _, _, _, _ => h.elim
  | _ :: _, [], h, _, _, _, _, _ => h.elim
theorem SeesL.append : ∀ {xs xs' : List AV} {ys ys' : List FV}, SeesL C N st xs ys → SeesL C N st xs' ys' → SeesL C N st (xs ++ xs') (ys ++ ys')
  | [], _, [], _, _, k => k
  | _ :: _, _, _ :: _, _, h, k => ⟨h.1, SeesL.append h.2 k⟩
  | [], _, _ :: _, _, h, _ => h.elim
  | _ :: _, _, [], _, h, _ => h.elim
theorem SeesL.of : ∀ {xs : List AV} {ys : List FV}, xs.length = ys.length → (∀ (k : Nat) (x : AV) (y : FV), xs[k]? = some x → ys[k]? = some y → Sees C N st x y) → SeesL C N st xs ys
  | [], [], _, _ => trivial
  | x :: xs, y :: ys, hl, h => ⟨h 0 x y rfl rfl, SeesL.of (by simpa using hl) fun k x' y' h1 h2 => h (k + 1) x' y' (by simpa using h1) (by simpa using h2)⟩
  | [], _ :: _, hl, _ => by simp at hl
  | _ :: _, [], hl, _ => by simp at hl
theorem m0_not {w0 : World} {a : Act} {w : World} {J : Nat → Value} (S : Sim C w0 N st a w J) {i b : Nat} (hi : (st.h i).isSome = true) (hb : bk (J i) = some b) : ¬ C.M0 b := fun hm => by
  obtain ⟨h1, h2⟩ := S.old b hm
  rcases (S.own_at hi hb).1 with h | h
  · omega
  · exact h2 h
theorem sees_f (y : FV) : Sees C N st (.f y) y := fun _ _ _ _ _ _ _ _ r => RepF.ext r (Ext.refl _) (fun _ _ h => .inl h)
theorem sees_bx {i off : Nat} {cells : List AV} {ys : List FV} (hi : st.h i = some (.box cells)) (hc : SeesL C N st cells ys) : Sees C N st (.bx i off) (.pt ys off) := fun st' H w0 a w J S v r => by
  obtain ⟨hl, b, hb, rfl⟩ := r
  obtain ⟨b', T, us, e, _, h2, h3, h4, h5⟩ := H.blk S hi hl
  have hbb : b' = b := by rw [e] at hb; simpa [bk] using hb
  subst hbb
  have := RepF.pt (w := w) (M := C.M0) b' 0 off ys us.toList (by rw [← hc.len]; simpa using h3) h4 ⟨(S.own_at hl hb).2, m0_not S hl hb, fun k hk => by
      rw [Nat.zero_add]; simp [World.cell?, h2]⟩ (fun k u y h1 h2 => by
    have hk : k < cells.length := by rw [hc.len]; exact (List.getElem?_eq_some_iff.1 h2).1
    exact hc.at_ k _ y (List.getElem?_eq_getElem hk) h2 st' H w0 a w J S u (h5 k u _ (by simpa using h1) (List.getElem?_eq_getElem hk)))
  simpa using this
theorem lies_row {w0 : World} {a : Act} {w : World} {J : Nat → Value} (S : Sim C w0 N st a w J) {i e sz n : Nat} {xs : List Value} (hl : (st.h i).isSome = true) (q1 : w.ownsRow 0 e sz (J i) n xs) : ∀ b, bk (J i) = some b → Lies w C.M0 b 0 xs := fun b hb =>
  ⟨(S.own_at hl hb).2, m0_not S hl hb, fun k hk => by
    rw [Nat.zero_add]
    rw [own_bk q1] at hb
    obtain ⟨ad, c, e1⟩ := q1.isSlice
    have := q1.cells hb k xs[k] (List.getElem?_eq_getElem hk)
    rw [addr_add, Nat.zero_add] at this
    rw [this, List.getElem?_eq_getElem hk]⟩
theorem sees_own {w0 : World} {a : Act} {w : World} {J : Nat → Value} (S : Sim C w0 N st a w J) {i e sz n : Nat} {xs : List Value} {ys : List FV} (hl : (st.h i).isSome = true) (q1 : w.ownsRow 0 e sz (J i) n xs) (q2 : ∀ u ∈ xs, u.oneCell' = true) (q3 : RepL w C.M0 xs ys) : RepF w C.M0 (J i) (.sl n ys) := by
  have lies := lies_row S hl q1
  rcases q1.2 with ⟨e1, e2⟩ | ⟨g, cap, cur, e1, h1, h2, h3, h4, h5, h6⟩
  · rw [e1]
    have hx : xs = [] := List.eq_nil_of_length_eq_zero (by rw [q1.1, e2]; simp)
    subst hx
    subst e2
    exact RepF.sl none 0 0 ys [] (Nat.le_refl _) q3.1 q2 (fun h => absurd rfl h) (fun k u x h => by simp at h)
  · have hL := lies g (by rw [e1]; rfl)
    rw [e1]
    exact RepF.sl _ n cap ys xs h3 q3.1 q2 (fun _ => ⟨g, 0, rfl, hL⟩) (fun k u x a b => q3.2 k u x a b)
theorem sees_row {i e sz n : Nat} {ys : List FV} (hi : st.h i = some (.row e sz n ys)) : Sees C N st (.ow i) (.sl n ys) := fun st' H w0 a w J S v r => by
  obtain ⟨hl, rfl⟩ := r
  obtain ⟨xs, q1, _, q2, q3⟩ := H.blk S hi hl
  exact sees_own S hl q1 q2 ⟨q3.1, fun k u x h1 h2 => RepF.ext (q3.2 k u x h1 h2) (Ext.refl _) (fun _ _ h => .inl h)⟩
theorem sees_rowA {i e sz n : Nat} {cells : List AV} {ys : List FV} (hi : st.h i = some (.rowA e sz n cells)) (hc : SeesL C N st cells ys) : Sees C N st (.ow i) (.sl n ys) := fun st' H w0 a w J S v r => by
  obtain ⟨hl, rfl⟩ := r
  obtain ⟨xs, q1, _, q2, q3, q4⟩ := H.blk S hi hl
  exact sees_own S hl q1 q2 ⟨by rw [q3, hc.len], fun k u x h1 h2 => by
    have hk : k < cells.length := by rw [hc.len]; exact (List.getElem?_eq_some_iff.1 h2).1
    exact hc.at_ k _ x (List.getElem?_eq_getElem hk) h2 st' H w0 a w J S u (q4 k u _ h1 (List.getElem?_eq_getElem hk))⟩
theorem sees_map {i : Nat} {G : Obj → Prop} (hi : st.h i = some (.map G)) : Sees C N st (.ow i) (.mp G) := fun st' H w0 a w J S v r => by
  obtain ⟨hl, rfl⟩ := r
  obtain ⟨b, o, e, _, h2, h3, h4⟩ := H.blk S hi hl
  have hb : bk (J i) = some b := by rw [e]; rfl
  rw [e]
  exact RepF.mp b G ⟨(S.own_at hl hb).2, m0_not S hl hb, o, h2, h3, h4⟩
theorem sees_fb {g : Nat} {l : List Cap} {ys : List FV} (hc : SeesL C N st (l.map Cap.toA) ys) : Sees C N st (.fb g l) (.fn g ys) := fun st' H w0 a w J S v r => by
  obtain ⟨us, rfl, h1, h2⟩ := r
  refine RepF.fn g ys us (by rw [h1, ← hc.len]; simp) (fun k u y a1 a2 => ?_)
  have hk : k < l.length := by have := (List.getElem?_eq_some_iff.1 a2).1; rw [← hc.len] at this; simpa using this
  exact hc.at_ k l[k].toA y (by simp [hk]) a2 st' H w0 a w J S u (by rw [repA_toA]; exact h2 k u _ a1 (List.getElem?_eq_getElem hk))
theorem sees_sv {i off e sz m n : Nat} {cs : List FV} (hi : st.h i = some (.row e sz m cs)) (_hl : off + n * sz ≤ cs.length) (_hsz : 0 < sz) : Sees C N st (.sv i off n) (.sl n ((cs.drop off).take (n * sz))) := fun st' H w0 a w J S v r => by
  obtain ⟨hlv, ad, c, rfl, hnc, had⟩ := r
  obtain ⟨xs, q1, _, q2, q3⟩ := H.blk S hi hlv
  have R : RepL w C.M0 ((xs.drop off).take (n * sz)) ((cs.drop off).take (n * sz)) := RepL.take (RepL.drop ⟨q3.1, fun k u x h1 h2 => RepF.ext (q3.2 k u x h1 h2) (Ext.refl _) (fun _ _ h => .inl h)⟩ off) (n * sz)
  refine RepF.sl ad n c _ ((xs.drop off).take (n * sz)) hnc R.1 (fun u hu => q2 u (List.mem_of_mem_drop (List.mem_of_mem_take hu))) (fun hne => ?_) R.2
  have hn : n ≠ 0 := fun h => hne (by rw [h, Nat.zero_mul, List.take_zero])
  obtain ⟨b, hb, rfl⟩ := had hn
  have L := lies_row S hlv q1 b hb
  refine ⟨b, off, rfl, L.lt, L.free, fun k hk => ?_⟩
  have hk2 : k < n * sz ∧ off + k < xs.length := by rw [List.length_take, List.length_drop] at hk; omega
  have := L.at_ (off + k) hk2.2
  rw [Nat.zero_add] at this
  rw [this, List.getElem?_take, if_pos hk2.1, List.getElem?_drop]
theorem v_callS {o : Oper} {f : Operand} {args : Array Operand} {ts : Array TypeId} {g : Nat} {caps : List AV} {ys : List FV} {r : Value} (K : Summ C.P C.G g ys (.v r)) (hG : ∀ k, C.G k = none) (ho : o.op = .call { callee := .value f, args := args, argTypes := ts }) (hd : dstB N o.dst = true) (hf : fnCaps (st.ev C f) = some (g, caps))
    (hys : SeesL C N st (args.toList.map (st.ev C) ++ caps) ys) : ValOp C N o st (.f (.v r)) := by
  intro w0 a w st' hA ⟨J, S⟩ K1 Q hK
  have hfe : st'.ev C f = st.ev C f := hA.ev f (by simp [ho, Op.operands, Call.operands])
  have hae : args.toList.map (st'.ev C) = args.toList.map (st.ev C) := List.map_congr_left fun x hx => hA.ev x (by simp [ho, Op.operands, Call.operands]; exact .inr (by simpa using hx))
  obtain ⟨us, hv, hcap⟩ := fnCaps_rep (S.eval f) (by rw [hfe]; exact hf)
  have hrun := callEnter (w := w) K.enters ho hv
  refine op_enter hrun ?_
  have hargs := RepAs.append (evs_rep S args.toList) hcap
  rw [hae] at hargs
  have hm : ∀ b, C.M0 b → b < w.heap.size := fun b hb => Nat.lt_of_lt_of_le (S.old b hb).1 S.ext.le
  refine Calls.mono (K.call w C.M0 (args.toList.map a.eval ++ us) hm (fun gl cs hg => by rw [hG gl] at hg; cases hg) ⟨by rw [hargs.1, hys.len], fun k u y h1 h2 => ?_⟩) ?_
  · have hk : k < (args.toList.map (st.ev C) ++ caps).length := by rw [hys.len]; exact (List.getElem?_eq_some_iff.1 h2).1
    exact hys.at_ k _ y (List.getElem?_eq_getElem hk) h2 st' hA.hp w0 a w J S u (hargs.2 k u _ h1 (List.getElem?_eq_getElem hk))
  · rintro e w' ⟨v', rfl, hr, he⟩
    have := repV hr
    subst this
    exact hK v' w' ⟨J, (S.toExt he).put hd (RepF.v _)⟩
variable {ops : Array Oper} {pr : Bool} {K : St → Prop} {rest : List Oper} {d : Option Tmp} {T0 : TypeId} {pos : String} {af : Array Edge} {gd : Option (Nat × Bool)}
theorem s_callS {f : Operand} {args : Array Operand} {ts : Array TypeId} {g : Nat} {caps : List AV} {ys : List FV} {r : Value} (Kg : Summ C.P C.G g ys (.v r)) (hG : ∀ k, C.G k = none) (hw : wantB st ops ⟨d, .call { callee := .value f, args := args, argTypes := ts }, T0, pos, af, gd⟩ = some true) (hd : dstB N d = true) (hf : fnCaps (st.ev C f) = some (g, caps))
    (hys : SeesL C N st (args.toList.map (st.ev C) ++ caps) ys) (k : R C N ops pr K rest (st.put d (.f (.v r)))) : R C N ops pr K (⟨d, .call { callee := .value f, args := args, argTypes := ts }, T0, pos, af, gd⟩ :: rest) st :=
  ⟨r_val hw (v_callS Kg hG rfl hd hf hys) k.out⟩
theorem v_slice_pre {o : Oper} {st : St} {T E s bs : Nat} {x y : Operand} {cs : List FV} {n i e sz : Nat} {l : Int} {k : IntKind} (ty : Ty C.P) (ho : o.op = .slice T x none (some y) none) (hd : dstB N o.dst = true) (hT : (ty.ty T).sl = some (E, s, bs)) (hx : st.ev C x = .ow i) (hi : st.h i = some (.row e sz n cs))
    (hy : st.ev C y = .f (.v (.int k l))) (h0 : 0 ≤ l) (hlh : l ≤ n) : ValOp C N o st (.sv i 0 l.toNat) :=
  valop_run hd fun w0 a w J st' hA S => by
    have e1 := S.eval x
    rw [hA.ev x (by simp [ho, Op.operands]), hx] at e1
    obtain ⟨hlv, hv⟩ := e1
    have e2 := evV S ((hA.ev y (by simp [ho, Op.operands])).trans hy)
    obtain ⟨hu, it, hi1, rfl, _⟩ := slE_spec ((ty.ok T).sl _ hT)
    obtain ⟨xs, q1, q0, q2, q3⟩ := blkOf hA S hi hlv
    rcases q1.2 with ⟨hj, rfl⟩ | ⟨g, cap, cur, hj, g1, g2, g3, g4, g5, g6⟩
    · have hl0 : l = 0 := by omega
      subst hl0
      refine ⟨.slice none 0 0, w, ?_, Ext.refl _, hlv, none, 0, by simp, Nat.le_refl _, fun h => absurd rfl h⟩
      simp [execOp, ho, hv, hj, e2, Instr.sliceAt, Instr.slice, run_underlying hu, Instr.sliceBounds, Instr.sliceBound, asIntOf, sizeOf, typeInfo, hi1]
    · have hhc : l ≤ (cap : Int) := by omega
      have hrun : (execOp a.eval o).run C.P w = .ok (.value (.slice (if cap = 0 then some ⟨g, 0, none⟩ else some ((⟨g, 0, none⟩ : Addr).add 0)) l.toNat cap)) w := by
        simp [execOp, ho, hv, hj, e2, Instr.sliceAt, Instr.slice, run_underlying hu, Instr.sliceBounds, Instr.sliceBound, asIntOf, sizeOf, typeInfo, hi1, h0, hhc]
      have hva : (if cap = 0 then some (⟨g, 0, none⟩ : Addr) else some ((⟨g, 0, none⟩ : Addr).add 0)) = some ⟨g, 0, none⟩ := by
        split
        · rfl
        · rw [addr_add, Nat.zero_add]
      rw [hva] at hrun
      exact ⟨_, w, hrun, Ext.refl _, hlv, _, _, rfl, by omega, fun h => ⟨g, by rw [hj]; rfl, rfl⟩⟩
theorem s_slice_pre (ty : Ty C.P) {T E s bs : Nat} {x y : Operand} {cs : List FV} {n i e sz : Nat} {l : Int} {k : IntKind} (hw : wantB st ops ⟨d, .slice T x none (some y) none, T0, pos, af, gd⟩ = some true) (hd : dstB N d = true) (hT : (ty.ty T).sl = some (E, s, bs)) (hx : st.ev C x = .ow i) (hi : st.h i = some (.row e sz n cs)) (hy : st.ev C y = .f (.v (.int k l))) (h0 : 0 ≤ l) (hlh : l ≤ n)
    (h : R C N ops pr K rest (st.put d (.sv i 0 l.toNat))) : R C N ops pr K (⟨d, .slice T x none (some y) none, T0, pos, af, gd⟩ :: rest) st := ⟨r_val hw (v_slice_pre ty rfl hd hT hx hi hy h0 hlh) h.out⟩
end
end Go.Ab
namespace Go.Ab
open Go Go.RowKit Go.Shelf Go.Proofs
section
variable {C : Ctx} {N : Nat} {st : St} {ops : Array Oper} {pr : Bool} {K : St → Prop} {rest : List Oper}
theorem e_storeArr {o : Oper} {st : St} {T i off e sz n : Nat} {x y : Operand} {cs ys : List AV} {av : AV} (ty : Ty C.P) (ho : o.op = .store T x y) (hd : o.dst = none) (hx : st.ev C x = .bx i off) (hi : st.h i = some (.arr e sz n cs)) (hy : st.ev C y = av) (hc : cellsA av = some ys) (hT : sizeB (ty.ty T) ys.length = true) (hl : off + ys.length ≤ cs.length) :
    EffOp C N o st { st with h := upd st.h i (some (.arr e sz n (setAt cs off ys))) } :=
  effop_run fun w0 a w J S => by
    have e1 := S.eval x
    rw [hx] at e1
    obtain ⟨hlv, b, hb, hv⟩ := e1
    have e2 := S.eval y
    rw [hy] at e2
    obtain ⟨r1, r2, r3⟩ := repCellsA S.blk e2 hc
    obtain ⟨xs, q1, q0, q2, q3, q6⟩ := S.blk i _ hi
    obtain ⟨it, hi1, hi2⟩ := sizeB_spec (ty.ok T) hT
    rcases q1.2 with ⟨hj, _⟩ | ⟨g, cap, cur, hj, h1, h2, h3, h4, h5, h6⟩
    · rw [hj] at hb; simp [bk] at hb
    have hbg : b = g := by rw [hj] at hb; simpa [bk] using hb.symm
    subst hbg
    have hxl : xs.length ≤ cur.size := by rw [← h6]; simp [List.length_take]; omega
    have r1' : (a.eval y).cells.toList.length = ys.length := by simpa using r1
    have hst := run_storeCells_cells (P := C.P) b off (a.eval y).cells.toList 0 w (fun j hj => by
      have : off + 0 + j < cur.size := by omega
      simp [World.cell?, h2]; omega) (fun j hj => by simp [World.frozen?, h2]) r2
    have hrun : (execOp a.eval o).run C.P w = .ok .skip (w.setCells b off (a.eval y).cells.toList) := by
      simp only [execOp, ho, Sem.run_bind, hv, Instr.storeAt, Instr.sureAddr, Sem.run_pure, Result.andThen_ok, storeVar, sizeOf, typeInfo, run_program, hi1, hi2, r1]
      simp only [Nat.add_zero] at hst
      simp [hst]
    refine ⟨.skip, undef, _, hrun, .inr ⟨rfl, rfl⟩, J, ?_⟩
    rw [hd]
    obtain ⟨us', g1, g2⟩ := setCells_heap (vs := (a.eval y).cells.toList) (o := off) h2
    have gr : w.grownBy (w.setCells b off (a.eval y).cells.toList) (some b) := setCells_grown _ _ _
    have us_len : us'.size = cur.size := by
      have := congrArg List.length g2
      rw [setAt_length] at this
      simpa using this
    have live : ∀ j, (upd st.h i (some (.arr e sz n (setAt cs off ys))) j).isSome = (st.h j).isSome := fun j => by
      by_cases e : j = i
      · subst e; rw [upd_same, hlv]; rfl
      · rw [upd_other _ _ e]
    have hconv : ∀ {v : Value} {y : AV}, RepA C w st.h J v y → RepA C (w.setCells b off (a.eval ‹_›).cells.toList) (upd st.h i (some (.arr e sz n (setAt cs off ys)))) J v y := by
      intro v y h
      exact h.same fun _ _ q => q.conv (fun j hj => ⟨by rw [live]; exact hj, rfl⟩) fun _ _ h => RepF.mono h (fun c hcl hm => gr.block c hcl (fun e => by cases e; exact hm (.inr ⟨i, hlv, hb⟩))) gr.size (fun c _ h => h.imp id fun ⟨j, hj, hjb⟩ => ⟨j, by rw [← live]; exact hj, hjb⟩)
    refine S.write (B := .arr e sz n (setAt cs off ys)) hlv hb gr ⟨setAt xs off (a.eval y).cells.toList, ⟨by rw [setAt_length]; exact q1.1, .inr ⟨b, cap, us', hj, h1, g1, h3, h4, by rw [us_len, h5], ?_⟩⟩, q0, setAt_mem q2 r2, by rw [setAt_length, setAt_length, q3], fun k u z hk' hz => ?_⟩ (fun _ => ⟨_, hi, rfl⟩)
    · rw [g2, take_setAt _ _ _ _ (by rw [r1', ← q1.1, q3]; exact hl), h6]
    · rw [setAt_get] at hk' hz
      rw [r1', q3] at hk'
      split at hk'
      · rename_i hin
        rw [if_pos hin] at hz
        exact hconv (r3 _ u z hk' hz)
      · rename_i hin
        rw [if_neg hin] at hz
        exact hconv (q6 k u z hk' hz)
theorem s_storeArr (ty : Ty C.P) {T0 : TypeId} {pos : String} {af : Array Edge} {T i off e sz n : Nat} {x y : Operand} {cs ys : List AV} {av : AV} (hx : st.ev C x = .bx i off) (hi : st.h i = some (.arr e sz n cs)) (hy : st.ev C y = av) (hc : cellsA av = some ys) (hT : sizeB (ty.ty T) ys.length = true) (hl : off + ys.length ≤ cs.length) (h : R C N ops false K rest { st with h := upd st.h i (some (.arr e sz n (setAt cs off ys))) }) : R C N ops false K (⟨none, .store T x y, T0, pos, af, none⟩ :: rest) st :=
  ⟨r_eff rfl (e_storeArr ty rfl rfl hx hi hy hc hT hl) h.out⟩
theorem v_idx_arr {o : Oper} {T : TypeId} {x y : Operand} {cs : List AV} {i n e sz E s bs : Nat} {k : IntKind} {z : Int} (ty : Ty C.P) (ho : o.op = .indexAddr T x y) (hd : dstB N o.dst = true) (hT : (ty.ty T).sl = some (E, s, bs)) (hx : st.ev C x = .ow i) (hi : st.h i = some (.arr e sz n cs)) (hy : st.ev C y = .f (.v (.int k z)))
    (h0 : 0 ≤ z) (hn : z < n) : ValOp C N o st (.bx i (z.toNat * s)) :=
  valop_run hd fun w0 a w J st' hA S => by
    have e1 := S.eval x
    rw [hA.ev x (by simp [ho, Op.operands]), hx] at e1
    have e2 := evV S ((hA.ev y (by simp [ho, Op.operands])).trans hy)
    obtain ⟨hl, hv⟩ := e1
    obtain ⟨xs, q1, q0, q2, q3⟩ := blkOf hA S hi hl
    rcases q1.2 with ⟨_, h⟩ | ⟨g, cap, cur, hj, _⟩
    · omega
    · refine ⟨_, w, by simp [execOp, ho, hv, e2, hj, run_idx ((ty.ok T).sl _ hT) h0 hn]; rfl, Ext.refl _, hl, g, by rw [hj]; rfl, by simp⟩
theorem v_load_arr {o : Oper} {T : TypeId} {x : Operand} {cs : List AV} {e sz m i off : Nat} {c : AV} (ty : Ty C.P) (ho : o.op = .load T x) (hd : dstB N o.dst = true) (hT : (ty.ty T).scal = true) (hx : st.ev C x = .bx i off) (hi : st.h i = some (.arr e sz m cs)) (hc : cs[off]? = some c) : ValOp C N o st c :=
  valop_run hd fun w0 a w J st' hA S => by
    have e1 := S.eval x
    rw [hA.ev x (by simp [ho, Op.operands]), hx] at e1
    obtain ⟨hl, b, hb, hv⟩ := e1
    obtain ⟨xs, q1, q0, q2, q3, q4⟩ := blkOf hA S hi hl
    have hlt : off < xs.length := by rw [q3]; exact (List.getElem?_eq_some_iff.1 hc).1
    have hu := List.getElem?_eq_getElem hlt
    have hown : (J i).ownBlock = some b := by
      obtain ⟨a1, c1, e2⟩ := q1.isSlice
      rw [e2] at hb ⊢
      cases a1 <;> simp [bk, Value.ownBlock] at hb ⊢; exact hb
    have hcell := q1.cells hown off _ hu
    rw [addr_add, Nat.zero_add] at hcell
    exact ⟨_, w, by simp [execOp, ho, hv, run_load_scal ((ty.ok T).scal hT) hcell], Ext.refl _, q4 off _ _ hu hc⟩
theorem v_len_arr {o : Oper} {st : St} {T : TypeId} {x : Operand} {cs : List AV} {i n e sz E s bs : Nat} (ty : Ty C.P) (ho : o.op = .call { callee := .builtin .len, args := #[x], argTypes := #[T] }) (hd : dstB N o.dst = true) (hT : (ty.ty T).sl = some (E, s, bs)) (hx : st.ev C x = .ow i) (hi : st.h i = some (.arr e sz n cs)) : ValOp C N o st (.f (.v (.int .i64 n))) :=
  valop_run hd fun w0 a w J st' hA S => by
    have e1 := S.eval x
    rw [hA.ev x (by simp [ho, Op.operands, Call.operands]), hx] at e1
    obtain ⟨hl, hv⟩ := e1
    have hu := (slE_spec ((ty.ok T).sl _ hT)).1
    obtain ⟨xs, q1, q0, q2, q3⟩ := blkOf hA S hi hl
    rcases q1.2 with ⟨e2, rfl⟩ | ⟨g, cap, cur, e2, _⟩
    · exact ⟨_, w, by simp [execOp, ho, resolve, invoke, builtin, Builtin.len_, hv, e2, run_underlying hu, goInt], Ext.refl _, RepF.v _⟩
    · exact ⟨_, w, by simp [execOp, ho, resolve, invoke, builtin, Builtin.len_, hv, e2, run_underlying hu, goInt], Ext.refl _, RepF.v _⟩
variable {d : Option Tmp} {T0 : TypeId} {pos : String} {af : Array Edge} {g : Option (Nat × Bool)}
theorem s_idxArr (ty : Ty C.P) {T : TypeId} {x y : Operand} {cs : List AV} {i n e sz E s bs : Nat} {ik : IntKind} {z : Int} (hw : wantB st ops ⟨d, .indexAddr T x y, T0, pos, af, g⟩ = some true) (hd : dstB N d = true) (hT : (ty.ty T).sl = some (E, s, bs)) (hx : st.ev C x = .ow i) (hi : st.h i = some (.arr e sz n cs)) (hy : st.ev C y = .f (.v (.int ik z)))
    (h0 : 0 ≤ z) (hn : z < n) (k : R C N ops pr K rest (st.put d (.bx i (z.toNat * s)))) : R C N ops pr K (⟨d, .indexAddr T x y, T0, pos, af, g⟩ :: rest) st := ⟨r_val hw (v_idx_arr ty rfl hd hT hx hi hy h0 hn) k.out⟩
theorem s_ldArr (ty : Ty C.P) {T : TypeId} {x : Operand} {cs : List AV} {i off n e sz : Nat} {c : AV} (hw : wantB st ops ⟨d, .load T x, T0, pos, af, g⟩ = some true) (hd : dstB N d = true) (hT : (ty.ty T).scal = true) (hx : st.ev C x = .bx i off) (hi : st.h i = some (.arr e sz n cs)) (hc : cs[off]? = some c) (k : R C N ops pr K rest (st.put d c)) : R C N ops pr K (⟨d, .load T x, T0, pos, af, g⟩ :: rest) st := ⟨r_val hw (v_load_arr ty rfl hd hT hx hi hc) k.out⟩
theorem s_lenArr (ty : Ty C.P) {T : TypeId} {x : Operand} {cs : List AV} {i n e sz E s bs : Nat} (hw : wantB st ops ⟨d, .call { callee := .builtin .len, args := #[x], argTypes := #[T] }, T0, pos, af, g⟩ = some true) (hd : dstB N d = true) (hT : (ty.ty T).sl = some (E, s, bs)) (hx : st.ev C x = .ow i) (hi : st.h i = some (.arr e sz n cs))
    (k : R C N ops pr K rest (st.put d (.f (.v (.int .i64 n))))) : R C N ops pr K (⟨d, .call { callee := .builtin .len, args := #[x], argTypes := #[T] }, T0, pos, af, g⟩ :: rest) st := ⟨r_val hw (v_len_arr ty rfl hd hT hx hi) k.out⟩
end
end Go.Ab
namespace Go.Ab
open Go Go.RowKit Go.Shelf Go.Proofs
section
variable {C : Ctx} {N : Nat}
def StW (C : Ctx) (N : Nat) (o : Oper) (st : St) (i : Nat) (B : Blk) : Prop := o.guard = none ∧ o.dst = none ∧
  ∀ w0 a w st', Agree C o st st' → (∀ k, st'.h k = st.h k) → SimE C w0 N st' a w → ∀ K Q, (∀ v w', SimE C w0 N { st' with h := upd st'.h i (some B) } (a.put o.dst v) w' → K (a.put o.dst v) w') → o.wpIn (Fence.wr C.ro) 7 C.P a w K Q
def dstsE (l : List Oper) (s1 s2 : Nat → AV) : Prop := match l with
  | [] => True
  | o :: l => (match o.dst with | some t => s1 t = s2 t | none => True) ∧ dstsE l s1 s2
theorem dstsE_mem {s1 s2 : Nat → AV} : ∀ {l : List Oper}, dstsE l s1 s2 → ∀ {o : Oper} {t : Nat}, o ∈ l → o.dst = some t → s1 t = s2 t
  | [], _, _, _, h, _ => by cases h
  | x :: l, hd, o, t, h, ht => by
    rcases List.mem_cons.1 h with rfl | h
    · have := hd.1; rw [ht] at this; exact this
    · exact dstsE_mem hd.2 h ht
variable {l : List Oper} {n0 : Nat}
theorem draw_sound4 {id : Nat} {Q : St → Prop} {st : St} {Qc : Exit → Act → World → Prop} (e mp mm : Nat) (hm : C.P.follows .mixedOrders = true) (hok : okReg l n0 = true) (hmid : mid3B l (bitsOf l) e n0 mp mm = true) (hen : e < n0) {oo : Oper} (hoo : l[e]? = some oo)
    (hrun : Run C N l.toArray true (fun stE => Run C N l.toArray true (fun stA => Run C N l.toArray true (fun stP => ∃ i B, StW C N oo stP i B ∧ (∀ x ∈ oo.op.operands.toList, stE.ev C x = stP.ev C x) ∧ (∀ k, stA.h k = stP.h k) ∧ Run C N l.toArray true (fun stB => (dstsE (selL (mp ||| mm) 0 (l.take n0)) stA.s stB.s) ∧ Run C N l.toArray false Q (l.drop n0) stB) (selL mm 0 (l.take n0)) { stP with h := upd stP.h i (some B) }) (selL mp 0 (l.take n0)) st) ((l.take n0).drop (e + 1)) stE) (l.take e) st)
    {w0 : World} {a : Act} {w : World} (S : SimE C w0 N st a w) (hq : ∀ st' a' w', Q st' → SimE C w0 N st' a' w' → Qc .normal a' w') : (Code.region id l.toArray true).wpIn (Fence.wr C.ro) 7 C.P Qc a w := by
  simp only [okReg, Bool.and_eq_true] at hok
  obtain ⟨⟨⟨⟨hup, hb⟩, hap⟩, htl⟩, hle⟩ := hok
  have hle' : n0 ≤ l.length := Nat.le_of_ble_eq_true hle
  obtain ⟨s1, e1, r1, q1⟩ := hrun.states
  have htk : (l.take e).length = e := by simp; omega
  rw [htk] at q1
  have hmidl : ((l.take n0).drop (e + 1)).length = n0 - (e + 1) := by simp; omega
  obtain ⟨s2, e2, r2, q2⟩ := q1.states
  rw [hmidl] at q2
  obtain ⟨sp, ep, rp, q3⟩ := runSel q2
  have htn : (l.take n0).length = n0 := by simp; omega
  rw [htn] at q3
  obtain ⟨bi, BB, hgro, hevs, hhp, q3⟩ := q3
  obtain ⟨sb0, eb, rb, q4⟩ := runSel q3
  rw [htn] at q4
  obtain ⟨hds, q4⟩ := q4
  obtain ⟨s4, e4, r4, q5⟩ := q4.states
  obtain ⟨sa, hsa⟩ : ∃ sa : Nat → St, sa = fun i => if i ≤ e then s1 i else s2 (i - (e + 1)) := ⟨_, rfl⟩
  obtain ⟨sb, hsb⟩ : ∃ sb : Nat → St, sb = fun i => if i ≤ n0 then sb0 i else s4 (i - n0) := ⟨_, rfl⟩
  have a1 : ∀ i, i ≤ e → sa i = s1 i := fun i hi => by rw [hsa]; simp [hi]
  have a2 : ∀ i, e + 1 ≤ i → sa i = s2 (i - (e + 1)) := fun i hi => by rw [hsa]; simp [show ¬ i ≤ e by omega]
  have a3 : sa (e + 1) = sa e := by rw [a2 _ (Nat.le_refl _), Nat.sub_self, e2, a1 e (Nat.le_refl _)]
  have b1 : ∀ i, i ≤ n0 → sb i = sb0 i := fun i hi => by rw [hsb]; simp [hi]
  have b3 : ∀ i, n0 ≤ i → sb i = s4 (i - n0) := fun i hi => by
    by_cases q : i = n0
    · subst q; rw [b1 _ (Nat.le_refl _), Nat.sub_self, e4]
    · rw [hsb]; simp [show ¬ i ≤ n0 by omega]
  have getn : ∀ i o, i < n0 → l[i]? = some o → (l.take n0)[i]? = some o := fun i o h2 ho => by rw [List.getElem?_take, if_pos h2]; exact ho
  have getm : ∀ i o, e + 1 ≤ i → i < n0 → l[i]? = some o → ((l.take n0).drop (e + 1))[i - (e + 1)]? = some o := fun i o h1 h2 ho => by
    rw [List.getElem?_drop, show e + 1 + (i - (e + 1)) = i by omega, List.getElem?_take, if_pos h2]; exact ho
  have oneA : ∀ i o, i < n0 → i ≠ e → l[i]? = some o → One C N l.toArray true o (sa i) (sa (i + 1)) := fun i o hi hne ho => by
    rcases Nat.lt_or_gt_of_ne hne with h | h
    · rw [a1 i (by omega), a1 (i + 1) h]
      exact r1 i o (by rw [List.getElem?_take, if_pos h]; exact ho)
    · rw [a2 i h, a2 (i + 1) (by omega), show i + 1 - (e + 1) = (i - (e + 1)) + 1 by omega]
      exact r2 _ o (getm i o h hi ho)
  have oneB : ∀ i o, i < n0 → mm.testBit i = true → l[i]? = some o → One C N l.toArray true o (sb i) (sb (i + 1)) := fun i o hi hmi ho => by
    have := rb i o (getn i o hi ho)
    rw [Nat.zero_add, if_pos hmi] at this
    rw [b1 i (by omega), b1 (i + 1) hi]; exact this
  have idB : ∀ i o, i < n0 → mm.testBit i = false → l[i]? = some o → sb (i + 1) = sb i := fun i o hi hmi ho => by
    have := rb i o (getn i o hi ho)
    rw [Nat.zero_add, if_neg (by rw [hmi]; decide)] at this
    rw [b1 i (by omega), b1 (i + 1) hi]; exact this
  have chA : Chain C N l n0 sa := ⟨fun i o hi ho => by
      by_cases he : i = e
      · subst he; exact .inr a3
      · exact .inl (oneA i o hi he ho), hle'⟩
  have chB : Chain C N l n0 sb := ⟨fun i o hi ho => by
      cases hmi : mm.testBit i with
      | true => exact .inl (oneB i o hi hmi ho)
      | false => exact .inr (idB i o hi hmi ho), hle'⟩
  have chP : Chain C N l n0 sp := ⟨fun i o hi ho => by
      have := rp i o (getn i o hi ho)
      rw [Nat.zero_add] at this
      cases hmi : mp.testBit i with
      | true => rw [if_pos hmi] at this; exact .inl this
      | false => rw [if_neg (by rw [hmi]; decide)] at this; exact .inr this, hle'⟩
  have post : ∀ i o, n0 ≤ i → l[i]? = some o → One C N l.toArray false o (sb i) (sb (i + 1)) := fun i o hi ho => by
      rw [b3 i hi, b3 (i + 1) (by omega), show i + 1 - n0 = (i - n0) + 1 by omega]
      exact r4 (i - n0) o (by rw [List.getElem?_drop, show n0 + (i - n0) = i by omega]; exact ho)
  have hend : Q (sb l.length) := by
    rw [b3 _ hle']; simpa using q5
  have atl : ∀ {i}, i < n0 → ∃ o, l[i]? = some o := fun {i} hi => ⟨l[i]'(by omega), List.getElem?_eq_getElem _⟩
  have hEs : ∀ t, (sb 0).s t = (sp n0).s t := fun t => by
    rw [b1 0 (Nat.zero_le _), eb]
  have hEh : ∀ k, (sb 0).h k = upd (sp n0).h bi (some BB) k := fun k => by rw [b1 0 (Nat.zero_le _), eb]
  have keep : ∀ {sts : Nat → St}, Chain C N l n0 sts → ∀ {m t : Nat} {om : Oper}, m < n0 → l[m]? = some om → om.dst = some t → ∀ q, m + 1 ≤ q → q ≤ n0 → (sts q).s t = (sts (m + 1)).s t := fun {sts} ch {m t om} hm hom hdm q hq => by
    induction hq with
    | refl => intro _; rfl
    | @step q hq ih =>
      intro hqn
      have hq' : m + 1 ≤ q := hq
      obtain ⟨oq, hoq, h1⟩ := ch.one (show q < n0 by omega)
      rw [h1.slot.1 t (mid3_dst hmid (i := m) (j := q) (by omega) hm (by omega) hom hoq hdm), ih (by omega)]
  have keep0 : ∀ {sts : Nat → St}, Chain C N l n0 sts → ∀ {m t : Nat} {om : Oper}, m < n0 → l[m]? = some om → om.dst = some t → ∀ q, q ≤ m → (sts q).s t = (sts 0).s t := fun {sts} ch {m t om} hm hom hdm q => by
    induction q with
    | zero => intro _; rfl
    | succ q ih =>
      intro hqm
      obtain ⟨oq, hoq, h1⟩ := ch.one (show q < n0 by omega)
      rw [h1.slot.1 t (mid3_dst hmid (i := m) (j := q) (by omega) hm (by omega) hom hoq hdm), ih (by omega)]
  have litA : ∀ i, i < n0 → mp.testBit i = false → (sa (i + 1)).nx = (sa i).nx ∧ (sa (i + 1)).h = (sa i).h := fun i hi hpi => by
    rcases mid3_at hmid hi with ⟨rfl, _, _⟩ | ⟨hne, ⟨hp, _⟩ | ⟨_, hmm, hli⟩⟩
    · rw [a3]; exact ⟨rfl, rfl⟩
    · rw [hpi] at hp; cases hp
    · obtain ⟨o, ho, h1⟩ := chA.one hi
      rcases h1.slot.2 with h2 | ⟨h2, _⟩
      · exact h2
      · have h3 := h1.heavy (by omega)
        rw [hli o ho] at h3; cases h3
  have litB : ∀ i, i < n0 → (sb (i + 1)).nx = (sb i).nx ∧ (sb (i + 1)).h = (sb i).h := fun i hi => by
    obtain ⟨o, ho⟩ := atl hi
    cases hmi : mm.testBit i with
    | false => rw [idB i o hi hmi ho]; exact ⟨rfl, rfl⟩
    | true =>
      rcases mid3_at hmid hi with ⟨rfl, _, hc⟩ | ⟨hne, ⟨_, hc, _⟩ | ⟨_, _, hli⟩⟩
      · rw [hmi] at hc; cases hc
      · rw [hmi] at hc; cases hc
      · have h1 := oneB i o hi hmi ho
        rcases h1.slot.2 with h2 | ⟨h2, _⟩
        · exact h2
        · have h3 := h1.heavy (by omega)
          rw [hli o ho] at h3; cases h3
  have hBheap : ∀ (s : Nat → Bool) m, m ≤ n0 → ∀ k, heapS sb s m k = (sb 0).h k := fun s m => by
    induction m with
    | zero => intro _ k; rfl
    | succ m ih =>
      intro hmn k
      unfold heapS
      rw [if_neg (fun hc => by have := (litB m hmn).1; omega)]
      exact ih (by omega) k
  have tail : ∀ {s : Nat → Bool}, (∀ i o, l[i]? = some o → s i = true → ∀ e ∈ o.after, Region.binds .any e = true → s e.on = true) → ∀ (i : Nat) (o : Oper), n0 ≤ i → l[i]? = some o → (∀ e ∈ o.after, Region.binds .any e = true → s e.on = true) → ∀ j, j < i → s j = true := fun hdc i o hi ho he j hj => by
    have h1 := List.all_eq_true.1 htl i (List.mem_range.2 (List.getElem?_eq_some_iff.1 ho).1)
    have : Nat.blt i n0 = false := by cases e : Nat.blt i n0; rfl; have := Nat.le_of_ble_eq_true e; omega
    rw [this, Bool.false_or] at h1
    exact bits_done hb hup hdc i o ho he j hj (List.all_eq_true.1 h1 j (List.mem_range.2 hj))
  have early : ∀ {s : Nat → Bool}, (∀ i o, l[i]? = some o → s i = true → ∀ e ∈ o.after, Region.binds .any e = true → s e.on = true) → (∀ e ∈ oo.after, Region.binds .any e = true → s e.on = true) → ∀ j, j < n0 → mp.testBit j = true → s j = true := fun hdc he j hj hpj => by
    rcases mid3_at hmid hj with ⟨_, hp, _⟩ | ⟨_, ⟨_, _, hje, hbf⟩ | ⟨hp, _⟩⟩
    · rw [hpj] at hp; cases hp
    · exact bits_done hb hup hdc e oo hoo he j hje hbf
    · rw [hpj] at hp; cases hp
  have full : ∀ {s : Nat → Bool} {a : Act} {w : World}, (∀ j, j < n0 → s j = true) → SimE C w0 N ⟨slotS l sb s n0, heapS sb s n0, 0⟩ a w → SimE C w0 N (sb n0) a w := fun {s} _ _ hall S => by
    refine S.cast (fun t => ?_) (fun k => ?_)
    · exact (chB.slot_eq (i := n0) (fun m hm _ => hall m hm) n0 (Nat.le_refl _) (Nat.le_refl _)).symm
    · exact (chB.heap_full hall n0 (Nat.le_refl _)).symm
  refine wpIn_region_inv hm hup (fun s a w => (∀ i o, l[i]? = some o → s i = true → ∀ e ∈ o.after, Region.binds .any e = true → s e.on = true) ∧
    (((∀ i, n0 ≤ i → s i = false) ∧ (s e = false ∧ SimE C w0 N ⟨slotS l sa s n0, heapS sa s n0, 0⟩ a w ∨ s e = true ∧ SimE C w0 N ⟨slotS l sb s n0, heapS sb s n0, 0⟩ a w)) ∨ ∃ m, n0 ≤ m ∧ (∀ i, i < l.length → (s i = true ↔ i < m)) ∧ m ≤ l.length ∧ SimE C w0 N (sb m) a w)) ?_ ?_ ?_
  · refine ⟨fun i o _ h => (by cases h), .inl ⟨fun _ _ => rfl, .inl ⟨rfl, ?_⟩⟩⟩
    have S' : SimE C w0 N st a w.drew := let ⟨J, S⟩ := S; ⟨J, S.toExt (Ext.drew w)⟩
    rw [← e1, ← a1 0 (Nat.zero_le _)] at S'
    refine S'.cast (fun t => ?_) (fun k => ?_)
    · exact slot_more (l := l) (i := 0) (fun m _ _ h => by cases h) (Nat.zero_le _)
    · have : ∀ m, heapS sa (fun _ => false) m k = (sa 0).h k := fun m => by
        induction m with
        | zero => rfl
        | succ m ih => unfold heapS; rw [if_neg (by simp)]; exact ih
      exact this n0
  · rintro s a w i o ho hs hedge ⟨hdc, hInv⟩
    have ho' : l[i]? = some o := by simpa using ho
    have hil : i < l.length := (List.getElem?_eq_some_iff.1 ho').1
    have hdc' : ∀ j oj, l[j]? = some oj → (decide (j = i) || s j) = true → ∀ e ∈ oj.after, Region.binds .any e = true → (decide (e.on = i) || s e.on) = true := fun j oj hj hsj e he hbe => by
      by_cases ej : j = i
      · subst ej; rw [ho'] at hj; cases hj; rw [hedge e he hbe]; simp
      · rw [hdc j oj hj (by simpa [ej] using hsj) e he hbe]; simp
    unfold wpOpIn
    simp only [ho]
    obtain ⟨Inv, hInvE⟩ : ∃ Inv : Act → World → Prop, Inv = fun a' w' => (∀ j oj, l[j]? = some oj → (decide (j = i) || s j) = true → ∀ e ∈ oj.after, Region.binds .any e = true → (decide (e.on = i) || s e.on) = true) ∧
          (((∀ j, n0 ≤ j → (decide (j = i) || s j) = false) ∧ ((decide (e = i) || s e) = false ∧ SimE C w0 N ⟨slotS l sa (fun j => decide (j = i) || s j) n0, heapS sa (fun j => decide (j = i) || s j) n0, 0⟩ a' w' ∨ (decide (e = i) || s e) = true ∧ SimE C w0 N ⟨slotS l sb (fun j => decide (j = i) || s j) n0, heapS sb (fun j => decide (j = i) || s j) n0, 0⟩ a' w')) ∨ ∃ m, n0 ≤ m ∧ (∀ j, j < l.length → ((decide (j = i) || s j) = true ↔ j < m)) ∧ m ≤ l.length ∧ SimE C w0 N (sb m) a' w') := ⟨_, rfl⟩
    have late : ∀ m, n0 ≤ m → (∀ i, i < l.length → (s i = true ↔ i < m)) → m ≤ l.length → SimE C w0 N (sb m) a w → n0 ≤ i →
        if Region.wanted o (yielded l.toArray a.tmps) then o.wpIn (Fence.wr C.ro) 7 C.P a w Inv Qc else Inv (a.put o.dst undef) w := by
      intro m hm hall hml S hin
      have him : i = m := by
        have h1 : ¬ i < m := fun h => by rw [(hall i hil).2 h] at hs; cases hs
        refine Classical.byContradiction fun hc => ?_
        have h2 := tail hdc i o hin ho' hedge m (by omega)
        have := (hall m (by omega)).1 h2
        omega
      subst him
      refine (post i o hin ho').wp S (fun a' w' S' => ?_)
      rw [hInvE]
      refine ⟨hdc', .inr ⟨i + 1, by omega, fun j hj => ?_, hil, S'⟩⟩
      have := hall j hj
      by_cases ej : j = i
      · subst ej; simp
      · simp only [show decide (j = i) = false by simp [ej], Bool.false_or, this]; omega
    refine both_in (fun _ _ => trivial) ?_
    suffices hgoal : if Region.wanted o (yielded l.toArray a.tmps) then o.wpIn (Fence.wr C.ro) 7 C.P a w Inv Qc else Inv (a.put o.dst undef) w by rw [hInvE] at hgoal; exact hgoal
    rcases hInv with ⟨hin, hAB⟩ | ⟨m, hm, hall, hml, S⟩
    · by_cases hi : i < n0
      · rcases hAB with ⟨hse, S⟩ | ⟨hse, S⟩
        · by_cases hie : i = e
          · subst hie
            rw [hoo] at ho'; cases ho'
            have hdone := early hdc hedge
            have hheap : ∀ k, heapS sa s n0 k = (sp n0).h k := fun k => by
              rw [chA.heap_here n0 (Nat.le_refl _) (fun j hj hx => by
                cases hpj : mp.testBit j with
                | true => exact hdone j hj hpj
                | false => have := (litA j hj hpj).1; omega)]
              rw [a2 n0 (by omega)]; exact hhp k
            obtain ⟨conf2, read⟩ := chA.read hb hup (Nat.le_refl _) hap hdc hi hoo hs hedge
            have agr : Agree C oo (sp n0) ⟨slotS l sa s n0, heapS sa s n0, 0⟩ := ⟨fun x hx => by
              have h0 := hevs x hx
              rw [← a1 i (Nat.le_refl _)] at h0
              rw [← h0]
              cases x with
              | tmp t => exact read t (by unfold Oper.looksAt; simp only [List.mem_append, List.mem_filterMap]; exact .inl ⟨.tmp t, hx, rfl⟩)
              | _ => rfl, fun k B hB => .inr ⟨B, (hheap k).trans hB, .inl rfl⟩⟩
            obtain ⟨g0, gd, gw⟩ := hgro
            have hwt : wantB ⟨slotS l sa s n0, heapS sa s n0, 0⟩ l.toArray oo = some true := by unfold wantB; rw [g0]
            rw [want_sim S hwt, if_pos rfl]
            refine gw w0 a w _ agr hheap S _ _ (fun v w' S' => ?_)
            rw [hInvE]
            refine ⟨hdc', .inl ⟨fun j hj => by rw [hin j hj]; simp; omega, .inr ⟨by simp, S'.cast (fun t => ?_) (fun k => ?_)⟩⟩⟩
            · show slotS l sb (fun j => decide (j = i) || s j) n0 t = slotS l sa s n0 t
              have wr : ∀ {sts : Nat → St} (s' : Nat → Bool), Chain C N l n0 sts → ∀ {m0 : Nat} {om : Oper}, m0 < n0 → l[m0]? = some om → om.dst = some t → s' m0 = true → slotS l sts s' n0 t = (sts n0).s t := fun {sts} s' ch {m0 om} hm0 hom hdm hsm => by
                rw [keep ch hm0 hom hdm n0 hm0 (Nat.le_refl _)]
                have e5 : slotS l sts s' n0 t = slotS l sts s' (m0 + 1) t := slot_more (fun m hm hmn _ hd => by
                  have hom2 := List.getElem?_eq_getElem (show m < l.length by omega)
                  rw [hom2] at hd
                  exact mid3_dst hmid (i := m0) (j := m) (by omega) hm0 hmn hom hom2 hdm hd) hm0
                rw [e5]
                show (if s' m0 = true ∧ (l[m0]?).bind (·.dst) = some t then (sts (m0 + 1)).s t else _) = _
                rw [if_pos ⟨hsm, by rw [hom]; exact hdm⟩]
              by_cases hw : ∃ m0 om, m0 < n0 ∧ m0 ≠ i ∧ l[m0]? = some om ∧ om.dst = some t ∧ s m0 = true
              · obtain ⟨m0, om, hm0, hne, hom, hdm, hsm⟩ := hw
                rw [wr _ chB hm0 hom hdm (by simp [hsm]), wr _ chA hm0 hom hdm hsm]
                have hmem : om ∈ selL (mp ||| mm) 0 (l.take n0) := by
                  have hbit : (mp ||| mm).testBit (0 + m0) = true := by
                    rw [Nat.zero_add, Nat.testBit_or]
                    rcases mid3_at hmid hm0 with ⟨h, _⟩ | ⟨_, ⟨h, _⟩ | ⟨_, h, _⟩⟩
                    · exact absurd h hne
                    · rw [h]; rfl
                    · rw [h, Bool.or_true]
                  have gen : ∀ (L : List Oper) (j m : Nat) (o : Oper), L[m]? = some o → (mp ||| mm).testBit (j + m) = true → o ∈ selL (mp ||| mm) j L := fun L => by
                    induction L with
                    | nil => intro j m o h; simp at h
                    | cons x L ih =>
                      intro j m o h hbm
                      unfold selL
                      cases m with
                      | zero =>
                        simp at h; subst h
                        rw [Nat.add_zero] at hbm
                        rw [hbm]; exact List.mem_cons_self ..
                      | succ m =>
                        have := ih (j + 1) m o (by simpa using h) (by rw [show j + 1 + m = j + (m + 1) by omega]; exact hbm)
                        cases (mp ||| mm).testBit j
                        · exact this
                        · exact List.mem_cons_of_mem _ this
                  exact gen _ 0 m0 om (getn m0 om hm0 hom) hbit
                have := dstsE_mem hds hmem hdm
                rw [a2 n0 (by omega), b1 n0 (Nat.le_refl _)]
                exact this.symm
              · have hno : ∀ m om, m < n0 → m ≠ i → l[m]? = some om → om.dst = some t → s m = false := fun m om h1 h2 h3 h4 => by
                  cases h5 : s m with
                  | false => rfl
                  | true => exact absurd ⟨m, om, h1, h2, h3, h4, h5⟩ hw
                have eA : slotS l sa s n0 t = (sa 0).s t := slot_more (l := l) (i := 0) (fun m _ hmn hsm hd2 => by
                  have hom2 := List.getElem?_eq_getElem (show m < l.length by omega)
                  rw [hom2] at hd2
                  by_cases hmi : m = i
                  · subst hmi; rw [hs] at hsm; cases hsm
                  · have := hno m _ hmn hmi hom2 hd2
                    rw [hsm] at this; cases this) (Nat.zero_le _)
                have eB : slotS l sb (fun j => decide (j = i) || s j) n0 t = (sb 0).s t := slot_more (l := l) (i := 0) (fun m _ hmn hsm hd2 => by
                  have hom2 := List.getElem?_eq_getElem (show m < l.length by omega)
                  rw [hom2] at hd2
                  by_cases hmi : m = i
                  · subst hmi
                    rw [hom2] at hoo
                    have ho3 := Option.some.inj hoo
                    have hd3 : (l[m]'(by omega)).dst = some t := hd2
                    rw [ho3, gd] at hd3; cases hd3
                  · have := hno m _ hmn hmi hom2 hd2
                    rw [show s m = true by simpa [hmi] using hsm] at this; cases this) (Nat.zero_le _)
                rw [eA, eB, hEs t]
                have hP : ∀ q, q ≤ n0 → (sp q).s t = (sp 0).s t := fun q => by
                  induction q with
                  | zero => intro _; rfl
                  | succ q ih =>
                    intro hqn
                    obtain ⟨oq, hoq, h1⟩ := chP.one (show q < n0 by omega)
                    cases hpq : mp.testBit q with
                    | false =>
                      have := rp q oq (getn q oq hqn hoq)
                      rw [Nat.zero_add, if_neg (by rw [hpq]; decide)] at this
                      rw [this, ih (by omega)]
                    | true =>
                      rw [h1.slot.1 t (fun hdq => by
                        have hqi : q ≠ i := fun h => by
                          subst h
                          rcases mid3_at hmid hi with ⟨_, hp, _⟩ | ⟨h, _⟩
                          · rw [hpq] at hp; cases hp
                          · exact h rfl
                        have := hno q oq hqn hqi hoq hdq
                        rw [hdone q hqn hpq] at this; cases this), ih (by omega)]
                rw [hP n0 (Nat.le_refl _), ep, a1 0 (Nat.zero_le _), e1]
            · show heapS sb (fun j => decide (j = i) || s j) n0 k = upd (heapS sa s n0) bi (some BB) k
              rw [hBheap _ n0 (Nat.le_refl _) k, hEh k]
              by_cases hk : k = bi
              · subst hk; rw [upd_same, upd_same]
              · rw [upd_other _ _ hk, upd_other _ _ hk, hheap k]
          · refine chA.step hb hup (Nat.le_refl _) hap (ov := fun _ => none) (fun _ _ h => by cases h) hdc hi ho' hs hedge S (oneA i o hi hie ho') (fun a' w' S' => ?_)
            rw [hInvE]
            refine ⟨hdc', .inl ⟨fun j hj => by rw [hin j hj]; simp; omega, .inl ⟨by rw [hse]; simp; omega, S'⟩⟩⟩
        · have hmi : mm.testBit i = true := by
            rcases mid3_at hmid hi with ⟨h, _⟩ | ⟨_, ⟨hp, _⟩ | ⟨_, h, _⟩⟩
            · subst h; rw [hs] at hse; cases hse
            · have := early hdc (hdc e oo hoo hse) i hi hp
              rw [hs] at this; cases this
            · exact h
          refine chB.step hb hup (Nat.le_refl _) hap (ov := fun _ => none) (fun _ _ h => by cases h) hdc hi ho' hs hedge S (oneB i o hi hmi ho') (fun a' w' S' => ?_)
          rw [hInvE]
          refine ⟨hdc', .inl ⟨fun j hj => by rw [hin j hj]; simp; omega, .inr ⟨by rw [hse]; simp, S'⟩⟩⟩
      · have hall : ∀ j, j < n0 → s j = true := fun j hj => tail hdc i o (by omega) ho' hedge j (by omega)
        rcases hAB with ⟨hse, S⟩ | ⟨hse, S⟩
        · rw [hall e hen] at hse; cases hse
        · refine late n0 (Nat.le_refl _) (fun j hj => ⟨fun h => ?_, fun h => hall j h⟩) hle' (full hall S) (by omega)
          refine Classical.byContradiction fun hc => ?_
          rw [hin j (by omega)] at h; cases h
    · refine late m hm hall hml S ?_
      refine Classical.byContradiction fun hc => ?_
      rw [(hall i hil).2 (by omega)] at hs; cases hs
  · rintro s a w hall ⟨_, hInv⟩
    rcases hInv with ⟨hin, hAB⟩ | ⟨m, hm, hiff, hml, S⟩
    · have hn : n0 = l.length := by
        refine Classical.byContradiction fun hc => ?_
        have := hall n0 (by omega)
        rw [hin n0 (Nat.le_refl _)] at this; cases this
      rcases hAB with ⟨hse, S⟩ | ⟨hse, S⟩
      · rw [hall e (by omega)] at hse; cases hse
      · refine hq (sb l.length) a w hend ?_
        rw [← hn]
        exact full (fun j hj => hall j (by omega)) S
    · have hmm : m = l.length := by
        refine Classical.byContradiction fun hc => ?_
        have := (hiff m (by omega)).1 (hall m (by omega))
        omega
      exact hq _ a w (hmm ▸ hend) (hmm ▸ S)
structure GW (C : Ctx) (N : Nat) (ops : Array Oper) (o : Oper) (all mid : List Oper) (K : St → Prop) (stE stA stP : St) : Prop where
  out : ∃ i B, StW C N o stP i B ∧ (∀ x ∈ o.op.operands.toList, stE.ev C x = stP.ev C x) ∧ (∀ k, stA.h k = stP.h k) ∧ Run C N ops true (fun stB => dstsE all stA.s stB.s ∧ K stB) mid { stP with h := upd stP.h i (some B) }
structure KW (all : List Oper) (K : St → Prop) (stA stB : St) : Prop where
  eqs : dstsE all stA.s stB.s
  out : K stB
theorem w_draw4 {Q : Exit → St → Prop} {id : Nat} {st : St} (e n0 mp mm : Nat) (hm : C.P.follows .mixedOrders = true) (hok : okReg l n0 = true) (hmid : (mid3B l (bitsOf l) e n0 mp mm && Nat.blt e n0) = true) {oo : Oper} (hoo : l[e]? = some oo) (h : R C N l.toArray true (fun stE => R C N l.toArray true (fun stA => R C N l.toArray true (GW C N l.toArray oo (selL (mp ||| mm) 0 (l.take n0)) (selL mm 0 (l.take n0)) (R C N l.toArray false (Q .normal) (l.drop n0)) stE stA) (selL mp 0 (l.take n0)) st) ((l.take n0).drop (e + 1)) stE) (l.take e) st) : W C N (.region id l.toArray true) Q st := by
  rw [Bool.and_eq_true] at hmid
  exact ⟨fun _w0 _a _w _Qc S hq => draw_sound4 e mp mm hm hok hmid.1 (Nat.le_of_ble_eq_true hmid.2) hoo (Run.mono (fun _ h1 => Run.mono (fun _ h2 => Run.mono (fun _ g => let ⟨i, B, q1, q2, q3, q4⟩ := g.out; ⟨i, B, q1, q2, q3, Run.mono (fun _ h4 => ⟨h4.1, h4.2.out⟩) q4⟩) h2.out) h1.out) h.out) S (fun _st' _a' _w' q S' => hq _ _ _ _ q S')⟩
theorem s_stW (ty : Ty C.P) {T0 : TypeId} {pos : String} {af : Array Edge} {K : St → Prop} {ops : Array Oper} {all mid : List Oper} {stE stA st : St} {T i off e sz n : Nat} {x y : Operand} {cs ys : List AV} {av : AV} (hx : st.ev C x = .bx i off) (hi : st.h i = some (.arr e sz n cs)) (hy : st.ev C y = av) (hc : cellsA av = some ys) (hT : sizeB (ty.ty T) ys.length = true) (hl : off + ys.length ≤ cs.length) (hx2 : stE.ev C x = st.ev C x) (hy2 : stE.ev C y = st.ev C y) (hh : ∀ k, stA.h k = st.h k)
    (h : R C N ops true (KW all K stA) mid { st with h := upd st.h i (some (.arr e sz n (setAt cs off ys))) }) : GW C N ops ⟨none, .store T x y, T0, pos, af, none⟩ all mid K stE stA st :=
  ⟨i, _, ⟨rfl, rfl, fun w0 a w st' hA hk S K Q hK => e_storeArr (st := st') ty rfl rfl ((hA.ev x (by simp [Op.operands])).trans hx) ((hk i).trans hi) ((hA.ev y (by simp [Op.operands])).trans hy) hc hT hl w0 a w S K Q hK⟩, fun z hz2 => by
    have : z = x ∨ z = y := by simpa [Op.operands] using hz2
    rcases this with rfl | rfl
    · exact hx2
    · exact hy2, hh, Run.mono (fun _ h2 => ⟨h2.eqs, h2.out⟩) h.out⟩
end
end Go.Ab
namespace Go.Ab
open Go Go.RowKit Go.Shelf Go.Proofs
section
variable {C : Ctx} {N : Nat} {st : St}
theorem gh_nx {s : Nat → AV} {h : Nat → Option Blk} {n : Nat} (m : Nat) : Gh C N ⟨s, h, n⟩ ⟨s, h, m⟩ := fun _ _ _ S => S.nx
theorem v_nilCheck {o : Oper} {x : Operand} {i off : Nat} (ho : o.op = .nilCheck x) (hd : dstB N o.dst = true) (hx : st.ev C x = .bx i off) : ValOp C N o st (.bx i off) :=
  valop_run hd fun w0 a w J st' hA S => by
    have e1 := S.eval x
    rw [hA.ev x (by simp [ho, Op.operands]), hx] at e1
    obtain ⟨hl, b, hb, hv⟩ := e1
    exact ⟨_, w, by simp only [execOp, ho, hv]; rfl, Ext.refl _, hl, b, hb, rfl⟩
theorem v_nilCheckF {o : Oper} {x : Operand} {cs : List FV} {off : Nat} (ho : o.op = .nilCheck x) (hd : dstB N o.dst = true) (hx : st.ev C x = .f (.pt cs off)) : ValOp C N o st (.f (.pt cs off)) :=
  valop_run hd fun w0 a w J st' hA S => by
    have e1 := evF S ((hA.ev x (by simp [ho, Op.operands])).trans hx)
    generalize hv : a.eval x = v at e1
    cases e1 with
    | pt b of _ _ us h1 h2 h3 h4 =>
      exact ⟨_, w, by simp only [execOp, ho, hv]; rfl, Ext.refl _, RepF.pt b of _ _ us h1 h2 h3 h4⟩
theorem v_ptrNil {o : Oper} {neg : Bool} {T T' : TypeId} {x : Operand} {i off : Nat} (hu : C.P.underlying T = some (.pointer (C.P.pointee T))) (ho : o.op = .binOp (bif neg then .neq else .eql) T x (.const (.pointer none)) T') (hd : dstB N o.dst = true) (hx : st.ev C x = .bx i off) : ValOp C N o st (.f (.v (.bool neg))) :=
  valop_run hd fun w0 a w J st' hA S => by
    have e1 := S.eval x
    rw [hA.ev x (by simp [ho, Op.operands]), hx] at e1
    obtain ⟨hl, b, hb, hv⟩ := e1
    refine ⟨.bool neg, w, ?_, Ext.refl _, RepF.v _⟩
    have hc : a.eval (.const (.pointer none)) = .pointer none := rfl
    cases neg <;> simp [execOp, ho, hv, hc, eqGuard, run_eql_pointer_nil w T _ hu, run_neq_pointer_nil w T _ hu]
theorem v_nilNil {o : Oper} {neg : Bool} {T T' : TypeId} {x : Operand} (hu : C.P.underlying T = some (.pointer (C.P.pointee T))) (ho : o.op = .binOp (bif neg then .neq else .eql) T x (.const (.pointer none)) T') (hd : dstB N o.dst = true) (hx : st.ev C x = .f (.v (.pointer none))) : ValOp C N o st (.f (.v (.bool (!neg)))) :=
  valop_run hd fun w0 a w J st' hA S => by
    have hv := evV S ((hA.ev x (by simp [ho, Op.operands])).trans hx)
    refine ⟨.bool (!neg), w, ?_, Ext.refl _, RepF.v _⟩
    have hc : a.eval (.const (.pointer none)) = .pointer none := rfl
    cases neg <;> simp [execOp, ho, hv, hc, eqGuard, run_eql_pointer_nil w T _ hu, run_neq_pointer_nil w T _ hu]
def bytesF (s : List UInt8) : List FV := s.map fun b => .v (.int .u8 b.toNat)
theorem bytesF_ne {s : List UInt8} {k : Nat} (h : k < s.length) : bytesF s ≠ [] := fun e => by
  have : (bytesF s).length = 0 := by rw [e]; rfl
  simp [bytesF] at this; subst this; simp at h
theorem bytesF_at {s : List UInt8} {k : Nat} (h : k < s.length) : (bytesF s)[k * 1]? = some (.v (.int .u8 s[k].toNat)) := by
  unfold bytesF; rw [Nat.mul_one, List.getElem?_map, List.getElem?_eq_getElem h]; rfl
theorem v_bytes {o : Oper} {T T' E : TypeId} {x : Operand} {s : List UInt8} (h1 : C.P.underlying T = some .string) (h2 : C.P.underlying T' = some (.slice E)) (h3 : C.P.underlying E = some (.int .u8)) (ho : o.op = .convert T T' x) (hd : dstB N o.dst = true) (hx : st.ev C x = .f (.v (.string ⟨s.toArray⟩))) : ValOp C N o st (.f (.sl s.length (bytesF s))) :=
  valop_run hd fun w0 a w J st' hA S => by
    have hv := evV S ((hA.ev x (by simp [ho, Op.operands])).trans hx)
    have hrun := run_bytes_of_string (P := C.P) w T T' E ⟨s.toArray⟩ h1 h2 h3
    generalize hcap : grownCap w (⟨s.toArray⟩ : ByteArray).size 0 E = cap at hrun
    have hsz : (⟨s.toArray⟩ : ByteArray).size = s.length := by simp [ByteArray.size]
    rw [hsz] at hrun hcap
    refine ⟨_, _, by simp only [execOp, ho, hv, Sem.run_bind, hrun]; rfl, (Ext.drew w).trans (Ext.alloc _ _), ?_⟩
    have hc : s.length ≤ cap := by
      rw [← hcap]; exact grownCap_ge w s.length 0 E
    refine RepF.sl _ s.length cap (bytesF s) (s.map fun b => Value.int .u8 b.toNat) hc (by simp [bytesF]) (fun u hu => by
      obtain ⟨b, _, rfl⟩ := List.mem_map.1 hu; rfl) (fun _ => ⟨w.heap.size, 0, rfl, ?_, fun h => ?_, fun k hk => ?_⟩) (fun k u y a1 a2 => ?_)
    · show w.heap.size < (w.heap.push _).size
      rw [Array.size_push]; exact Nat.lt_succ_self _
    · have := mb_lt S _ h; omega
    · simp only [List.length_map] at hk
      rw [Nat.zero_add]
      have hh : (w.drew.alloc (.cells (bytesRow ⟨s.toArray⟩ cap) E ((bytesRow ⟨s.toArray⟩ cap).size, (bytesRow ⟨s.toArray⟩ cap).size + 1))).heap[w.heap.size]? = some (.cells (bytesRow ⟨s.toArray⟩ cap) E ((bytesRow ⟨s.toArray⟩ cap).size, (bytesRow ⟨s.toArray⟩ cap).size + 1)) := by
        show (w.heap.push _)[w.heap.size]? = _
        simp
      simp only [World.cell?, hh]
      unfold bytesRow
      rw [Array.getElem?_append_left (by simpa using hk)]
      simp
    · unfold bytesF at a2
      rw [List.getElem?_map] at a1 a2
      cases hb : s[k]? with
      | none => rw [hb] at a1; cases a1
      | some b => rw [hb] at a1 a2; cases a1; cases a2; exact RepF.v _
theorem al_rep {w0 : World} {a : Act} {w : World} {J : Nat → Value} (_S : Sim C w0 N st a w J) {n : Nat} (hn : st.h n = none) {w' : World} (e : Ext w w') {u : Value} {B : Blk} (hu : ∀ c, bk u = some c → w.heap.size ≤ c) {v : Value} {x : AV} (h : RepA C w st.h J v x) : RepA C w' (upd st.h n (some B)) (upd J n u) v x := by
  have hlive : ∀ i, (st.h i).isSome = true → i ≠ n := fun i hi e => by subst e; rw [hn] at hi; cases hi
  refine h.same fun _ _ q => q.conv (fun i hi => ⟨by rw [upd_other _ _ (hlive i hi)]; exact hi, by rw [upd_other _ _ (hlive i hi)]⟩) fun _ _ h => RepF.ext h e ?_
  rintro b hb (h0 | ⟨i, hi, hbi⟩)
  · exact .inl h0
  by_cases e : i = n
  · subst e; rw [upd_same] at hbi; have := hu _ hbi; omega
  · rw [upd_other _ _ e] at hi hbi; exact .inr ⟨i, hi, hbi⟩
theorem a_boxA {o : Oper} {T : TypeId} {x : Operand} {y : AV} {cs : List AV} (ho : o.op = .box T x) (hd : dstB N o.dst = true) (hx : st.ev C x = y) (hc : cellsA y = some cs) (hJ : C.J0 st.nx = none) : AllOp C N o st (.bx st.nx 0) (.box cs) := by
  intro w0 a w st' hA hn ⟨J, S⟩ K Q hK
  have e1 := S.eval x
  rw [hA.ev x (by simp [ho, Op.operands]), hx] at e1
  obtain ⟨r1, r2, r3⟩ := repCellsA S.blk e1 hc
  refine op_value (show (execOp a.eval o).run C.P w = .ok (.value (.pointer (some ⟨w.heap.size, 0, none⟩))) (w.alloc (.cells (a.eval x).cells T)) by simp [execOp, ho, Instr.box, run_newVar]) ?_
  refine hK _ _ ⟨upd J st.nx (.pointer (some ⟨w.heap.size, 0, none⟩)), S.al hn hd (Ext.alloc _ _) (fun c hc => by simp [bk] at hc; omega) ?_ ?_ (fun _ => hJ)⟩
  · refine ⟨w.heap.size, T, (a.eval x).cells, rfl, .inl S.ext.le, World.alloc_heap_new _ _, r1, r2, fun k u z h1 h2 => ?_⟩
    exact al_rep S hn (Ext.alloc _ _) (fun c hc => by simp [bk] at hc; omega) (r3 k u z (by simpa using h1) h2)
  · exact ⟨by rw [upd_same]; rfl, w.heap.size, by rw [upd_same]; rfl, rfl⟩
theorem a_bsliceP {o : Oper} {T E bs i off : Nat} {x : Operand} {zs : List Value} (ty : Ty C.P) (ho : o.op = .buildSlice T 1 #[(0, x)]) (hd : dstB N o.dst = true) (hT : (ty.ty T).sl = some (E, 1, bs)) (hz : (ty.ty E).zero = some zs) (hzl : zs.length = 1) (hx : st.ev C x = .bx i off) : AllOp C N o st (.ow st.nx) (.rowA E 1 1 [.bx i off]) := by
  intro w0 a w st' hA hn ⟨J, S⟩ K Q hK
  have e1 := S.eval x
  rw [hA.ev x (by simp [ho, Op.operands]), hx] at e1
  have e0 := e1
  obtain ⟨hlv, b, hb, hv⟩ := e1
  have hrun := run_buildSlice (w := w) (len := 1) (parts := #[((0 : Nat), Value.pointer (some ⟨b, off, none⟩))]) (us := #[.pointer (some ⟨b, off, none⟩)]) ((ty.ok T).sl _ hT) ((ty.ok E).zero zs hz) (by decide) (fun z' hz' => by
    have e : z'.cells.size = 1 := by rw [← hzl, ← hz']; simp
    have e2 : (madeCells z'.cells (1 * 1)).size = 1 := by simp [size_madeCells]
    obtain ⟨y, hy⟩ : ∃ y, madeCells z'.cells (1 * 1) = #[y] := Array.size_eq_one_iff.1 e2
    rw [hy]
    simp [Instr.fill, Value.cells])
  refine op_value (show (execOp a.eval o).run C.P w = .ok (.value (.slice (some ⟨w.heap.size, 0, none⟩) 1 1)) (w.alloc (.cells #[.pointer (some ⟨b, off, none⟩)] E)) by
    simp only [execOp, ho, Sem.run_bind, List.map_toArray, List.map_cons, List.map_nil, hv]
    rw [hrun]; rfl) ?_
  refine hK _ _ ⟨upd J st.nx (.slice (some ⟨w.heap.size, 0, none⟩) 1 1), S.al hn hd (Ext.alloc _ _) (fun c hc => by simp [bk] at hc; omega) ?_ ?_ (fun e => by cases e)⟩
  · refine ⟨[.pointer (some ⟨b, off, none⟩)], ⟨by simp, .inr ⟨w.heap.size, 1, #[.pointer (some ⟨b, off, none⟩)], rfl, Nat.zero_le _, World.alloc_heap_new _ _, Nat.le_refl _, by decide, by simp, by simp⟩⟩, fun b hb => .inl (by simp [bk] at hb; rw [← hb]; exact S.ext.le), by simp [Value.oneCell'], rfl, fun k u y h1 h2 => ?_⟩
    cases k with
    | zero =>
      simp at h1 h2; subst h1; subst h2
      rw [hv] at e0
      exact al_rep S hn (Ext.alloc _ _) (fun c hc => by simp [bk] at hc; omega) e0
    | succ k => simp at h1
  · exact ⟨by rw [upd_same]; rfl, by rw [upd_same]⟩
variable {ops : Array Oper} {pr : Bool} {K : St → Prop} {rest : List Oper} {d : Option Tmp} {T0 : TypeId} {pos : String} {af : Array Edge} {gd : Option (Nat × Bool)}
theorem s_nilCheck {x : Operand} {i off : Nat} (hw : wantB st ops ⟨d, .nilCheck x, T0, pos, af, gd⟩ = some true) (hd : dstB N d = true) (hx : st.ev C x = .bx i off) (k : R C N ops pr K rest (st.put d (.bx i off))) : R C N ops pr K (⟨d, .nilCheck x, T0, pos, af, gd⟩ :: rest) st := ⟨r_val hw (v_nilCheck rfl hd hx) k.out⟩
theorem s_nilCheckF {x : Operand} {cs : List FV} {off : Nat} (hw : wantB st ops ⟨d, .nilCheck x, T0, pos, af, gd⟩ = some true) (hd : dstB N d = true) (hx : st.ev C x = .f (.pt cs off)) (k : R C N ops pr K rest (st.put d (.f (.pt cs off)))) : R C N ops pr K (⟨d, .nilCheck x, T0, pos, af, gd⟩ :: rest) st := ⟨r_val hw (v_nilCheckF rfl hd hx) k.out⟩
theorem s_ptrEq {T T' : TypeId} {x : Operand} {i off : Nat} (hu : C.P.underlying T = some (.pointer (C.P.pointee T))) (hw : wantB st ops ⟨d, .binOp .eql T x (.const (.pointer none)) T', T0, pos, af, gd⟩ = some true) (hd : dstB N d = true) (hx : st.ev C x = .bx i off) (k : R C N ops pr K rest (st.put d (.f (.v (.bool false))))) : R C N ops pr K (⟨d, .binOp .eql T x (.const (.pointer none)) T', T0, pos, af, gd⟩ :: rest) st := ⟨r_val hw (v_ptrNil (neg := false) hu rfl hd hx) k.out⟩
theorem s_nilNe {T T' : TypeId} {x : Operand} (hu : C.P.underlying T = some (.pointer (C.P.pointee T))) (hw : wantB st ops ⟨d, .binOp .neq T x (.const (.pointer none)) T', T0, pos, af, gd⟩ = some true) (hd : dstB N d = true) (hx : st.ev C x = .f (.v (.pointer none))) (k : R C N ops pr K rest (st.put d (.f (.v (.bool false))))) : R C N ops pr K (⟨d, .binOp .neq T x (.const (.pointer none)) T', T0, pos, af, gd⟩ :: rest) st := ⟨r_val hw (v_nilNil (neg := true) hu rfl hd hx) k.out⟩
theorem s_bytes {T T' E : TypeId} {x : Operand} {s : List UInt8} (h1 : C.P.underlying T = some .string) (h2 : C.P.underlying T' = some (.slice E)) (h3 : C.P.underlying E = some (.int .u8)) (hw : wantB st ops ⟨d, .convert T T' x, T0, pos, af, gd⟩ = some true) (hd : dstB N d = true) (hx : st.ev C x = .f (.v (.string ⟨s.toArray⟩))) (k : R C N ops pr K rest (st.put d (.f (.sl s.length (bytesF s))))) : R C N ops pr K (⟨d, .convert T T' x, T0, pos, af, gd⟩ :: rest) st := ⟨r_val hw (v_bytes h1 h2 h3 rfl hd hx) k.out⟩
theorem s_convW {T T' : TypeId} {x : Operand} {vx v : Value} (hw : wantB st ops ⟨d, .convert T T' x, T0, pos, af, gd⟩ = some true) (hd : dstB N d = true) (hx : st.ev C x = .f (.v vx)) (hrun : ∀ w, (convert T T' vx).run C.P w = .ok v w) (h : R C N ops pr K rest (st.put d (.f (.v v)))) : R C N ops pr K (⟨d, .convert T T' x, T0, pos, af, gd⟩ :: rest) st := ⟨r_val hw (v_conv rfl hd hx hrun) h.out⟩
theorem s_boxA {T : TypeId} {x : Operand} {y : AV} {cs : List AV} (hd : dstB N d = true) (hn : st.frB C = true) (hx : st.ev C x = y) (hc : cellsA y = some cs) (k : R C N ops pr K rest ⟨(st.put d (.bx st.nx 0)).s, upd st.h st.nx (some (.box cs)), st.nx + 1⟩) : R C N ops pr K (⟨d, .box T x, T0, pos, af, none⟩ :: rest) st :=
  ⟨r_all rfl rfl (frB_spec hn).1 (a_boxA rfl hd hx hc (frB_spec hn).2) k.out⟩
theorem s_bsliceP (ty : Ty C.P) {T E bs i off : Nat} {x : Operand} {zs : List Value} (hd : dstB N d = true) (hn : st.h st.nx = none) (hT : (ty.ty T).sl = some (E, 1, bs)) (hz : (ty.ty E).zero = some zs) (hzl : zs.length = 1) (hx : st.ev C x = .bx i off) (k : R C N ops pr K rest ⟨(st.put d (.ow st.nx)).s, upd st.h st.nx (some (.rowA E 1 1 [.bx i off])), st.nx + 1⟩) : R C N ops pr K (⟨d, .buildSlice T 1 #[(0, x)], T0, pos, af, none⟩ :: rest) st :=
  ⟨r_all rfl rfl hn (a_bsliceP ty rfl hd hT hz hzl hx) k.out⟩
end
end Go.Ab
namespace Go.Ab
open Go Go.RowKit Go.Shelf Go.Proofs Go.Sort
section
variable {α : Type} [Inhabited α] {enc : α → Value}
theorem repL_v0 {w : World} {M : Nat → Prop} {xs vs : List Value} (h : RepL w M xs (vs.map FV.v)) : xs = vs := by
  apply List.ext_getElem?
  intro i
  by_cases hi : i < xs.length
  · have hv : i < vs.length := by have := h.1; simp at this; omega
    have hr := h.2 i xs[i] (.v vs[i]) (List.getElem?_eq_getElem hi) (by simp [hv])
    rw [List.getElem?_eq_getElem hi, List.getElem?_eq_getElem hv]
    generalize xs[i] = a at hr ⊢
    generalize vs[i] = b at hr ⊢
    cases hr
    rfl
  · have := h.1; simp at this
    rw [List.getElem?_eq_none (by omega), List.getElem?_eq_none (by omega)]
theorem repL_ofA0 {C : Ctx} {w : World} {h : Nat → Option Blk} {J : Nat → Value} {xs : List Value} {cs : List FV} (q : xs.length = (cs.map AV.f).length ∧ ∀ (k : Nat) (u : Value) (x : AV), xs[k]? = some u → (cs.map AV.f)[k]? = some x → RepA C w h J u x) : RepL w (Mb C h J) xs cs :=
  ⟨by simpa using q.1, fun k u x h1 h2 => q.2 k u (.f x) h1 (by simp [h2])⟩
theorem repA_ofL0 {C : Ctx} {w : World} {h : Nat → Option Blk} {J : Nat → Value} {xs : List Value} {cs : List FV} (q : RepL w (Mb C h J) xs cs) : xs.length = (cs.map AV.f).length ∧ ∀ (k : Nat) (u : Value) (x : AV), xs[k]? = some u → (cs.map AV.f)[k]? = some x → RepA C w h J u x :=
  ⟨by simpa using q.1, fun k u x h1 h2 => by
    rw [List.getElem?_map] at h2
    cases hk : cs[k]? with
    | none => simp [hk] at h2
    | some y => simp [hk] at h2; subst h2; exact q.2 k u y h1 hk⟩
theorem arr_ren0 (σ : Nat → Nat) (e sz n : Nat) (cs : List FV) : (Blk.arr e sz n (cs.map .f)).ren σ = .arr e sz n (cs.map .f) := by
  show Blk.arr e sz n ((cs.map .f).map (AV.ren σ)) = _
  rw [List.map_map]; rfl
theorem repL_of0 {w : World} {M : Nat → Prop} (vs : List Value) : RepL w M vs (vs.map FV.v) := ⟨by simp, fun i u x h1 h2 => by
  rw [List.getElem?_map, h1] at h2; cases h2; exact .v u⟩
theorem sortOrdG {P : Program} {G : Nat → Option (List FV)} {f : Nat} (srt : List α → List α) (hlen : ∀ d, (srt d).length = d.length) (h1 : ∀ x, (enc x).oneCell' = true) (hent : Enters P f)
    (hs : ∀ (blk off cap : Nat) (d : List α) (w : World), Holds enc w blk off d.toArray → blk < w.heap.size → d.length < 4611686018427387904 → Calls P f #[.slice (some ⟨blk, off, none⟩) d.length cap] w fun e w' => e = .returned (.tuple #[]) ∧ ∃ n os, w' = grow (putRow enc (Sort.ahead w n) blk off (srt d).toArray) os)
    (hnone : ∀ (p : Option Addr) (cap : Nat) (w : World), Calls P f #[.slice p 0 cap] w fun e w' => e = .returned (.tuple #[]) ∧ w' = w) (d : List α) (hd : d.length < 4611686018427387904) (T : TypeId) {n : Nat} (hn : n = d.length) {cs cs' : List FV} (hcs : (d.map enc).map FV.v = cs) (hcs' : ((srt d).map enc).map FV.v = cs') :
    SummG P G f [.arr T 1 n (cs.map .f)] [.ow 0] (.f (.tup [])) [.arr T 1 n (cs'.map .f)] := by
  subst hn; subst hcs; subst hcs'
  refine ⟨hent, Nat.le_refl _, fun i B B' h1 h2 => by
    rcases i with _ | i
    · cases h1; cases h2; rfl
    · simp at h1, fun w M X us J hX hM hG hA hL => ?_⟩
  obtain ⟨v0, rfl⟩ : ∃ v0, us = [v0] := by
    obtain ⟨e, _⟩ := hA
    match us, e with
    | [a], _ => exact ⟨a, rfl⟩
  obtain ⟨-, hv0⟩ : _ ∧ v0 = J 0 := hA.2 0 v0 (.ow 0) rfl rfl
  subst hv0
  obtain ⟨xs, hrow, hbk, hone, hrep⟩ := hL.blk 0 _ rfl
  have exs := repL_v0 (repL_ofA0 hrep)
  subst exs
  have hsl := hlen d
  obtain ⟨-, ⟨ev, en⟩ | ⟨b, cap, cur, ev, -, hb, hcap, hmax, hsz, htk⟩⟩ := hrow
  · have ed : d = [] := List.eq_nil_of_length_eq_zero en
    rw [ev]
    refine (hnone none 0 w).mono ?_
    rintro e w' ⟨rfl, rfl⟩
    refine ⟨_, J, rfl, RepF.tup [] [] rfl (fun k u x h => by simp at h), ⟨fun i B hB => ?_, fun i j _ hi hj _ _ => by simp at hi hj; omega⟩, Grew.refl _ _, fun i B hB hs => rfl⟩
    rcases i with _ | i
    · cases hB
      have hr : w'.ownsRow 0 T 1 (J 0) d.length [] := ⟨by rw [ed]; simp, .inl ⟨ev, en⟩⟩
      have e0 : srt d = [] := List.eq_nil_of_length_eq_zero (by rw [hsl, en])
      have hl : RepL w' (Mb (cxG P G M X [Blk.arr T 1 d.length (List.map AV.f (List.map FV.v (d.map enc)))] J) (blkL [Blk.arr T 1 d.length (List.map AV.f (List.map FV.v ((srt d).map enc)))]) J) [] (List.map FV.v ((srt d).map enc)) := by
        rw [e0]; exact RepL.nil _ _
      exact ⟨[], hr, hbk, (fun u hu => by simp at hu), repA_ofL0 hl⟩
    · cases hB
  · have hXb : X b := (hX b).2 ⟨0, by simp, by rw [ev]; rfl⟩
    have hbw : b < w.heap.size := (Array.getElem?_eq_some_iff.1 hb).1
    rw [Nat.mul_one] at hsz htk
    have hH : Holds enc w b 0 d.toArray := by
      intro j hj
      have hj' : j < d.length := by simpa using hj
      have hc : cur[j]? = some (enc d[j]) := by
        have h2 : (cur.toList.take d.length)[j]? = (d.map enc)[j]? := by rw [htk]
        rw [List.getElem?_take, if_pos hj'] at h2
        rw [← Array.getElem?_toList, h2, List.getElem?_map, List.getElem?_eq_getElem hj']; rfl
      rw [getElem!_pos _ j hj]
      refine ⟨?_, ?_⟩
      · unfold World.cell?
        simp only [hb]
        simpa using hc
      · unfold World.frozen?
        simp only [hb]
        simp
    rw [ev]
    refine (hs b 0 cap d w hH hbw hd).mono ?_
    rintro e w' ⟨rfl, m, os, rfl⟩
    obtain ⟨F, hF⟩ : ∃ F, F = (srt d).toArray := ⟨_, rfl⟩
    have hFs : F.size = d.length := by rw [hF]; simp [hsl]
    rw [← hF]
    have hsize : (putRow enc (Sort.ahead w m) b 0 F).heap.size = w.heap.size := by simp [putRow, mapBlock, Sort.ahead]
    have hat : ∀ i, i < w.heap.size → (grow (putRow enc (Sort.ahead w m) b 0 F) os).heap[i]? = if b = i then (w.heap[i]?).map (onCells (putCells enc 0 F)) else w.heap[i]? := fun i hi => by
      show ((putRow enc (Sort.ahead w m) b 0 F).heap ++ os)[i]? = _
      rw [Array.getElem?_append_left (by rw [hsize]; exact hi)]
      simp only [putRow, mapBlock, Sort.ahead, Array.getElem?_modify]
    have hpc : (putCells enc 0 F cur).toList.take (d.length * 1) = (srt d).map enc := by
      rw [Nat.mul_one, show srt d = F.toList by rw [hF]]
      apply List.ext_getElem?
      intro j
      rw [List.getElem?_take]
      by_cases hj : j < d.length
      · rw [if_pos hj, Array.getElem?_toList, putCells, Array.getElem?_mapIdx, List.getElem?_map, Array.getElem?_toList]
        have hcu : j < cur.size := by rw [hsz]; omega
        rw [Array.getElem?_eq_getElem hcu, Array.getElem?_eq_getElem (by rw [hFs]; exact hj)]
        simp [hFs, hj]
      · rw [if_neg hj, List.getElem?_eq_none (by simp; omega)]
    have hnew : (grow (putRow enc (Sort.ahead w m) b 0 F) os).heap[b]? = some (.cells (putCells enc 0 F cur) T (0, 0)) := by
      rw [hat b hbw, if_pos rfl, hb]; rfl
    refine ⟨_, J, rfl, RepF.tup [] [] rfl (fun k u x h => by simp at h), ⟨fun i B hB => ?_, fun i j _ hi hj _ _ => by simp at hi hj; omega⟩, ⟨rfl, rfl, rfl, ?_, fun i hi hx => ?_⟩, fun i B hB hs => rfl⟩
    · rcases i with _ | i
      · cases hB
        refine ⟨(srt d).map enc, ⟨by simp [hsl], .inr ⟨b, cap, putCells enc 0 F cur, ev, Nat.zero_le _, hnew, hcap, hmax, by simp [putCells, hsz], hpc⟩⟩, hbk, fun u hu => ?_, repA_ofL0 (repL_of0 _)⟩
        obtain ⟨x, _, rfl⟩ := List.mem_map.1 hu
        exact h1 x
      · cases hB
    · show _ ≤ ((putRow enc (Sort.ahead w m) b 0 F).heap ++ os).size
      rw [Array.size_append, hsize]; omega
    · rw [hat i hi, if_neg (fun (e : b = i) => hx (e ▸ hXb))]
end
end Go.Ab
namespace Go.Proofs.YtenkgipcblfocaaGreat
open Go Go.RowKit Go.Proofs Go.Shelf Go.Ab
def wI (m : List Int) (z : Int) : Int := m.getD z.toNat default
structure MapOk (n : Int) (m : List Int) : Prop where
  len : (m.length : Int) = n
  each : ∀ i, i < m.length → 0 ≤ m.getD i default ∧ m.getD i default ≤ 1000000
  some : ∃ i, i < m.length ∧ 0 < m.getD i default
def mapX (m : List Int) (i : Nat) : Int := if 0 ≤ m.getD i default ∧ m.getD i default ≤ 1000000 then 0 else 2
def posB (m : List Int) : Nat → Bool
  | 0 => false
  | k + 1 => posB m k || decide (0 < m.getD k default)
def mapChk (n : Int) (m : List Int) : Nat × Int := if ¬ (m.length : Int) = n then (0, 10) else if (eachE m.length (mapX m)).2 ≠ 0 then eachE m.length (mapX m) else if posB m m.length = true then (0, 0) else (0, 11)
theorem posB_iff {m : List Int} : ∀ {k : Nat}, posB m k = true ↔ ∃ i, i < k ∧ 0 < m.getD i default
  | 0 => by simp [posB]
  | k + 1 => by
    rw [posB, Bool.or_eq_true, posB_iff, decide_eq_true_eq]
    constructor
    · rintro (⟨i, h1, h2⟩ | h)
      · exact ⟨i, by omega, h2⟩
      · exact ⟨k, by omega, h⟩
    · rintro ⟨i, h1, h2⟩
      by_cases e : i = k
      · subst e; exact .inr h2
      · exact .inl ⟨i, by omega, h2⟩
theorem mapX_iff {m : List Int} {i : Nat} : mapX m i = 0 ↔ 0 ≤ m.getD i default ∧ m.getD i default ≤ 1000000 := by unfold mapX; split <;> simp_all
theorem mapX_2 {m : List Int} {i : Nat} (h : ¬ (0 ≤ m.getD i default ∧ m.getD i default ≤ 1000000)) : mapX m i = 2 := if_neg h
theorem eachE_zero {n : Nat} {f : Nat → Int} (h : (eachE n f).2 = 0) : ∀ i, i < n → f i = 0 := by
  rcases eachE_cases n f with ⟨_, hz⟩ | ⟨q, _, _, hne, e⟩
  · exact hz
  · rw [e] at h; exact absurd h hne
theorem mapOk_of {n : Int} {m : List Int} (h : (mapChk n m).2 = 0) : MapOk n m := by
  unfold mapChk at h
  split at h
  · cases h
  rename_i h1
  split at h
  · rename_i h2; exact absurd h h2
  rename_i h2
  split at h
  · rename_i h3
    exact ⟨by omega, fun i hi => mapX_iff.1 (eachE_zero (by omega) i hi), posB_iff.1 h3⟩
  · cases h
theorem mapChk_ok {n : Int} {m : List Int} (o : MapOk n m) : mapChk n m = (0, 0) := by
  unfold mapChk
  rw [if_neg (by have := o.len; omega), eachE_ok (fun i hi => mapX_iff.2 (o.each i hi)), if_neg (by simp), if_pos (posB_iff.2 o.some)]
def maxG (m : List Int) : Nat → Int
  | 0 => m.getD 0 default
  | k + 1 => max (maxG m k) (m.getD (k + 1) default)
theorem maxG_pos {m : List Int} : ∀ {k : Nat}, (0 < maxG m k ↔ ∃ i, i ≤ k ∧ 0 < m.getD i default)
  | 0 => by
    constructor
    · intro h; exact ⟨0, Nat.le_refl _, h⟩
    · rintro ⟨i, h1, h2⟩
      have : i = 0 := by omega
      subst this; exact h2
  | k + 1 => by
    have ih := maxG_pos (m := m) (k := k)
    rw [maxG]
    constructor
    · intro h
      by_cases c : 0 < maxG m k
      · obtain ⟨i, h1, h2⟩ := ih.1 c; exact ⟨i, by omega, h2⟩
      · exact ⟨k + 1, Nat.le_refl _, by omega⟩
    · rintro ⟨i, h1, h2⟩
      by_cases e : i = k + 1
      · subst e; omega
      · have := ih.2 ⟨i, by omega, h2⟩; omega
theorem maxG_posB {m : List Int} (h : 1 ≤ m.length) : (0 < maxG m (m.length - 1) ↔ posB m m.length = true) := by
  rw [maxG_pos, posB_iff]
  constructor <;> rintro ⟨i, h1, h2⟩ <;> exact ⟨i, by omega, h2⟩
set_option maxRecDepth 100000 in
theorem Max_s (m : List Int) (h1 : 1 ≤ m.length) (hl : m.length ≤ 1000000) : Summ Tryz.prog GG 119 [.sl m.length (intsF m)] (iv (maxG m (m.length - 1))) := by
  have hne : intsF m ≠ [] := intsF_ne (k := 0) (by omega)
  have h0 : (intsF m)[(0 : Int).toNat * 1]? = some (iv (maxG m 0)) := by rw [show (0 : Int).toNat * 1 = 0 * 1 by rfl, intsF_at (show 0 < m.length by omega), maxG, getD_at (show 0 < m.length by omega)]
  refine summW Tryz.func119 rfl rfl 25 rfl (by simp) (fun M0 => ?_)
  repeat (first
    | (apply s_a TY; exact rfl)
    | (apply s_f; exact rfl; (first | assumption | omega))
    | apply w_seq
    | apply w_region
    | apply s_nil
    | apply t_norm
    | apply w_block
    | apply w_skip
    | (apply w_condF; exact rfl; exact rfl)
    | (apply s_z TY; exact rfl; (first | omega | exact ⟨by omega, by (first | with_reducible assumption | ((with_reducible apply intsF_ne); omega) | assumption)⟩))
    | (apply s_l TY; exact rfl; (first | exact rfl | with_reducible assumption | ((with_reducible apply intsF_at); omega) | assumption)))
  apply w_loop (fun k : Nat => ⟨(Ab.upd (Ab.upd (Ab.upd (fun _ => .bot) 0 (.f (.sl m.length (intsF m)))) 3 (.f (iv (maxG m k)))) 4 (.f (iv ((k + 1 : Nat) : Int)))), (fun _ => none), 0⟩) (fun k => k + 1 ≤ m.length) (fun k => m.length - k) 0 ((by omega)) (gh_le ⟨le_upd rfl trivial (le_upd rfl trivial (le_upd rfl trivial (le_nil _))), le_h0 _ _⟩)
  intro k hk
  by_cases hc : k + 1 < m.length
  · have hs : maxG m (k + 1) = max (maxG m k) m[k + 1] := by rw [maxG, getD_at hc]
    repeat (first
    | (apply s_a TY; exact rfl)
    | (apply s_t; exact rfl; (first | assumption | omega))
    | apply w_seq
    | apply w_region
    | apply s_nil
    | apply t_norm
    | apply k_norm
    | apply w_block
    | apply w_skip
    | (apply w_condT; exact rfl; exact rfl)
    | (apply s_c TY; exact rfl; (first | omega | exact ⟨by omega, by (first | with_reducible assumption | ((with_reducible apply intsF_ne); omega) | assumption)⟩))
    | (apply s_l TY; exact rfl; (first | exact rfl | with_reducible assumption | ((with_reducible apply intsF_at); omega) | assumption)))
    exact ⟨k + 1, by omega, by omega, gh_le ⟨le_upd rfl trivial (le_upd (congrArg (fun z => AV.f (iv z)) hs) trivial (le_upd rfl trivial (le_nil _))), le_h0 _ _⟩⟩
  · have hke : k = m.length - 1 := by omega
    subst hke
    repeat (first
    | (apply s_a TY; exact rfl)
    | (apply s_f; exact rfl; (first | assumption | omega))
    | apply w_seq
    | apply w_region
    | apply s_nil
    | apply t_norm
    | apply t_exit
    | apply k_hit
    | apply w_exit
    | apply w_ret
    | (apply w_condF; exact rfl; exact rfl))
    exact lv_ret (ret1 rfl (res_tmp rfl))
theorem mapBad_s (n : Int) : Summ Tryz.prog GG 164 [iv n] (bv (!withinB n 0 1000000)) := by
  by_cases h : 0 ≤ n ∧ n ≤ 1000000
  · rw [show withinB n 0 1000000 = true by simp [withinB, h]]
    refine summW Tryz.func164 rfl rfl 6 rfl (by simp) (fun M0 => ?_)
    repeat (first
    | (apply s_a TY; exact rfl)
    | apply w_seq
    | apply w_region
    | apply s_nil
    | apply t_norm
    | apply w_ret
    | (apply s_k1 (isWeight_T _); exact rfl; (first | assumption | omega | decide)))
    exact lv_ret (ret1 rfl (res_tmp rfl))
  · rw [show withinB n 0 1000000 = false by simp [withinB]; omega]
    refine summW Tryz.func164 rfl rfl 6 rfl (by simp) (fun M0 => ?_)
    repeat (first
    | (apply s_a TY; exact rfl)
    | apply w_seq
    | apply w_region
    | apply s_nil
    | apply t_norm
    | apply w_ret
    | (apply s_k1 (isWeight_F _); exact rfl; (first | assumption | omega | decide)))
    exact lv_ret (ret1 rfl (res_tmp rfl))
def wgtP (m : List Int) (i : Nat) : Bool := !withinB (m.getD i default) 0 1000000
theorem wgt_idx (m : List Int) : (idxP m.length (wgtP m) = -1 ∧ eachE m.length (mapX m) = (0, 0)) ∨ ∃ k : Nat, idxP m.length (wgtP m) = k ∧ eachE m.length (mapX m) = (k, 2) := by
  have hp : ∀ i, wgtP m i = false ↔ mapX m i = 0 := fun i => by rw [mapX_iff]; simp [wgtP, withinB]
  rcases idxP_cases m.length (wgtP m) with ⟨e, hz⟩ | ⟨k, hk, hz, hpk, e⟩
  · exact .inl ⟨e, eachE_ok fun i hi => (hp i).1 (hz i hi)⟩
  · have hne : mapX m k ≠ 0 := fun h => by rw [(hp k).2 h] at hpk; cases hpk
    refine .inr ⟨k, e, ?_⟩
    rw [eachE_at hk (fun i hi => (hp i).1 (hz i hi)) hne, mapX_2 fun h => hne (mapX_iff.2 h)]
set_option maxRecDepth 100000 in
set_option maxHeartbeats 1600000 in
theorem mapErr_s (cs : List Cel) (m : List Int) (hc : 1 ≤ cs.length ∧ cs.length ≤ 1000) (hl : m.length ≤ 1000000) : Summ Tryz.prog GG 118 [xF cs, skF m] (.tup [iv (mapChk cs.length m).1, iv (mapChk cs.length m).2]) := by
  by_cases h1 : (m.length : Int) = cs.length
  case neg =>
    rw [show mapChk cs.length m = (0, 10) by unfold mapChk; rw [if_pos h1]]
    refine summW Tryz.func118 rfl rfl 24 rfl (by simp) (fun M0 => ?_)
    repeat (first
    | (apply s_a TY; exact rfl)
    | (apply s_f; exact rfl; (first | assumption | omega))
    | apply w_seq
    | apply w_region
    | apply s_nil
    | apply t_norm
    | apply t_ret
    | apply w_ret
    | (apply w_condT; exact rfl; exact rfl))
    exact lv_ret (ret2 rfl (res_tmp rfl) (res_tmp rfl))
  have HI := idxI_s m 164 [] (wgtP m) hl (fun i hi => by unfold wgtP; rw [getD_at hi]; exact mapBad_s _)
  rcases wgt_idx m with ⟨e1, e2⟩ | ⟨k, e1, e2⟩
  · rw [e1] at HI
    have HM := Max_s m (by omega) hl
    by_cases hp : 0 < maxG m (m.length - 1)
    · rw [show mapChk cs.length m = (0, 0) by unfold mapChk; rw [if_neg (by simpa using h1), e2, if_neg (by simp), if_pos ((maxG_posB (by omega)).1 hp)]]
      refine summW Tryz.func118 rfl rfl 24 rfl (by simp) (fun M0 => ?_)
      repeat (first
    | (apply s_a TY; exact rfl)
    | (apply s_t; exact rfl; (first | assumption | omega))
    | (apply s_f; exact rfl; (first | assumption | omega))
    | apply w_seq
    | apply w_region
    | apply s_nil
    | apply t_norm
    | apply w_ret
    | apply w_skip
    | (apply w_condF; exact rfl; exact rfl)
    | (apply s_k (HI); exact rfl)
    | (apply s_k (HM); exact rfl)
    | (apply s_k (unless_T _); exact rfl))
      exact lv_ret (ret2 rfl (res_tmp rfl) (res_tmp rfl))
    · rw [show mapChk cs.length m = (0, 11) by unfold mapChk; rw [if_neg (by simpa using h1), e2, if_neg (by simp), if_neg (fun h => hp ((maxG_posB (by omega)).2 h))]]
      refine summW Tryz.func118 rfl rfl 24 rfl (by simp) (fun M0 => ?_)
      repeat (first
    | (apply s_a TY; exact rfl)
    | (apply s_t; exact rfl; (first | assumption | omega))
    | (apply s_f; exact rfl; (first | assumption | omega))
    | apply w_seq
    | apply w_region
    | apply s_nil
    | apply t_norm
    | apply w_ret
    | apply w_skip
    | (apply w_condF; exact rfl; exact rfl)
    | (apply s_k (HI); exact rfl)
    | (apply s_k (HM); exact rfl)
    | (apply s_k (unless_F _); exact rfl))
      exact lv_ret (ret2 rfl (res_tmp rfl) (res_tmp rfl))
  · rw [e1] at HI
    rw [show mapChk cs.length m = (k, 2) by unfold mapChk; rw [if_neg (by simpa using h1), e2, if_pos (by simp)]]
    refine summW Tryz.func118 rfl rfl 24 rfl (by simp) (fun M0 => ?_)
    repeat (first
    | (apply s_a TY; exact rfl)
    | (apply s_t; exact rfl; (first | assumption | omega))
    | apply w_seq
    | apply w_region
    | apply s_nil
    | apply t_norm
    | apply t_ret
    | apply w_ret
    | apply w_skip
    | (apply w_condT; exact rfl; exact rfl)
    | (apply w_condF; exact rfl; exact rfl)
    | (apply s_k (HI); exact rfl))
    exact lv_ret (ret2 rfl (res_tmp rfl) (res_tmp rfl))
theorem mapErr_sky (rs m : List Int) (o : SkyOk rs) (hl : m.length ≤ 1000000) : Summ Tryz.prog GG 118 [xF (skyC rs), skF m] (.tup [iv (mapChk (befK rs rs.length) m).1, iv (mapChk (befK rs rs.length) m).2]) := by
  have hb := skyC_bd o
  have := mapErr_s (skyC rs) m (by omega) hl
  rwa [skyC_len o] at this
theorem openMap_sky (rs m : List Int) (o : SkyOk rs) (hl : m.length ≤ 1000000) : Summ Tryz.prog GG 112 [skF rs, skF m] (.tup [xF (skyC rs), iv (mapChk (befK rs rs.length) m).2]) := by
  refine summW Tryz.func112 rfl rfl 23 rfl (by simp) (fun M0 => ?_)
  repeat (first
    | (apply s_a TY; exact rfl)
    | (apply s_t; exact rfl; (first | assumption | omega))
    | apply w_seq
    | apply w_region
    | apply s_nil
    | apply t_norm
    | apply w_ret
    | (apply w_condT; exact rfl; exact rfl)
    | (apply s_k2 (mapErr_sky _ _); exact rfl; (first | assumption | omega | decide); (first | assumption | omega | decide))
    | (apply s_k1 (open_ok _); exact rfl; (first | assumption | omega | decide)))
  exact lv_ret (ret2 rfl (res_tmp rfl) (res_tmp rfl))
theorem wI_bd {n : Int} {m : List Int} (o : MapOk n m) {z : Int} (h : 0 ≤ z ∧ z < m.length) : 0 ≤ wI m z ∧ wI m z ≤ 1000000 := o.each z.toNat (by omega)
theorem wI_at {m : List Int} {z : Int} (h : 0 ≤ z ∧ z < m.length) : (intsF m)[z.toNat * 1]? = some (iv (wI m z)) := by
  unfold wI
  rw [intsF_at (show z.toNat < m.length by omega), getD_at (show z.toNat < m.length by omega)]
theorem sumI_tk {f : Int → Int} {l : List Int} {k : Nat} (h : k < l.length) : sumI f (l.take (k + 1)) = sumI f (l.take k) + f l[k] := by
  rw [List.take_succ_eq_append_getElem h, sumI_app, sumI, sumI]; omega
theorem sumW_bd {n : Int} {m : List Int} (o : MapOk n m) {l : List Int} (h : ∀ z, z ∈ l → 0 ≤ z ∧ z < m.length) : ∀ {k : Nat}, k ≤ l.length → 0 ≤ sumI (wI m) (l.take k) ∧ sumI (wI m) (l.take k) ≤ 1000000 * (k : Int)
  | 0, _ => by simp [sumI]
  | k + 1, hk => by
    have ih := sumW_bd o h (k := k) (by omega)
    have := wI_bd o (h _ (List.getElem_mem (show k < l.length by omega)))
    rw [sumI_tk (show k < l.length by omega)]
    omega
set_option maxRecDepth 100000 in
theorem weight_s (m l : List Int) {n : Int} (o : MapOk n m) (hl : l.length ≤ 1000) (hm : ∀ z, z ∈ l → 0 ≤ z ∧ z < m.length) : Summ Tryz.prog GG 113 [skF m, .sl l.length (intsF l)] (iv (sumI (wI m) l)) := by
  refine summW Tryz.func113 rfl rfl 23 rfl (by simp) (fun M0 => ?_)
  repeat (first
    | (apply s_a TY; exact rfl)
    | apply w_seq
    | apply w_region
    | apply s_nil
    | apply t_norm
    | apply w_block)
  apply w_loop (fun k : Nat => ⟨(Ab.upd (Ab.upd (Ab.upd (Ab.upd (Ab.upd (fun _ => .bot) 2 (.f (.pt [.sl m.length (intsF m)] 0))) 5 (.f (iv (sumI (wI m) (l.take k))))) 8 (.f (.sl l.length (intsF l)))) 9 (.f (iv l.length))) 10 (.f (iv (k : Nat)))), (fun _ => none), 0⟩) (fun k => k ≤ l.length) (fun k => l.length - k) 0 (Nat.zero_le _) (gh_le ⟨le_upd rfl trivial (le_upd rfl trivial (le_upd rfl trivial (le_upd rfl trivial (le_upd rfl trivial (le_nil _))))), le_h0 _ _⟩)
  intro k hk
  by_cases hc : k < l.length
  · have hbd := sumW_bd o hm (k := k) hk
    have hz := hm _ (List.getElem_mem hc)
    have hw := wI_bd o hz
    have hat := wI_at hz
    have hs := sumI_tk (f := wI m) hc
    have hne : intsF m ≠ [] := intsF_ne (k := l[k].toNat) (by omega)
    repeat (first
    | (apply s_a TY; exact rfl)
    | (apply s_t; exact rfl; (first | assumption | omega))
    | apply w_seq
    | apply w_region
    | apply s_nil
    | apply t_norm
    | apply k_norm
    | apply w_block
    | apply w_skip
    | (apply w_condT; exact rfl; exact rfl)
    | (apply s_c TY; exact rfl; (first | omega | exact ⟨by omega, by (first | with_reducible assumption | ((with_reducible apply intsF_ne); omega) | assumption)⟩))
    | (apply s_z TY; exact rfl; (first | omega | exact ⟨by omega, by (first | with_reducible assumption | ((with_reducible apply intsF_ne); omega) | assumption)⟩))
    | (apply s_l TY; exact rfl; (first | exact rfl | with_reducible assumption | ((with_reducible apply intsF_at); omega) | assumption)))
    exact ⟨k + 1, by omega, by omega, gh_le ⟨le_upd rfl trivial (le_upd rfl trivial (le_upd rfl trivial (le_upd (congrArg (fun z => AV.f (iv z)) hs) trivial (le_upd rfl trivial (le_nil _))))), le_h0 _ _⟩⟩
  · have hke : k = l.length := by omega
    subst hke
    rw [show sumI (wI m) l = sumI (wI m) (l.take l.length) by rw [List.take_length]]
    repeat (first
    | (apply s_a TY; exact rfl)
    | (apply s_f; exact rfl; (first | assumption | omega))
    | apply w_seq
    | apply w_region
    | apply s_nil
    | apply t_norm
    | apply t_exit
    | apply k_hit
    | apply w_exit
    | apply w_ret
    | (apply w_condF; exact rfl; exact rfl))
    exact lv_ret (ret1 rfl (res_tmp rfl))
theorem isNaN_s (a : Int) : Summ Tryz.prog GG 161 [iv a] (.v (.bool false)) := by
  refine summW Tryz.func161 rfl rfl 6 rfl (by simp) (fun M0 => ?_)
  repeat (first
    | (apply s_a TY; exact rfl)
    | (apply s_t; exact rfl; (first | assumption | omega))
    | apply w_seq
    | apply w_region
    | apply s_nil
    | apply t_norm
    | apply w_ret)
  exact lv_ret (ret1 rfl (res_tmp rfl))
def cmpZ (x y : Int) : Int := if x < y then -1 else if y < x then 1 else 0
theorem cmpZ_lt {x y : Int} (h : x < y) : cmpZ x y < 0 := by unfold cmpZ; rw [if_pos h]; decide
theorem cmpZ_ge {x y : Int} (h : ¬ x < y) : ¬ cmpZ x y < 0 := by unfold cmpZ; rw [if_neg h]; split <;> decide
theorem Compare_s (x y : Int) : Summ Tryz.prog GG 116 [iv x, iv y] (iv (cmpZ x y)) := by
  by_cases h : x < y
  · rw [show cmpZ x y = -1 from if_pos h]
    refine summW Tryz.func116 rfl rfl 20 rfl (by simp) (fun M0 => ?_)
    repeat (first
    | (apply s_a TY; exact rfl)
    | (apply s_t; exact rfl; (first | assumption | omega))
    | apply w_seq
    | apply w_region
    | apply s_nil
    | apply t_norm
    | apply t_ret
    | apply w_ret
    | apply w_skip
    | (apply w_condT; exact rfl; exact rfl)
    | (apply w_condF; exact rfl; exact rfl)
    | (apply s_k (isNaN_s _); exact rfl))
    exact lv_ret (ret1 rfl (res_tmp rfl))
  by_cases h2 : y < x
  · rw [show cmpZ x y = 1 by unfold cmpZ; rw [if_neg h, if_pos h2]]
    refine summW Tryz.func116 rfl rfl 20 rfl (by simp) (fun M0 => ?_)
    repeat (first
    | (apply s_a TY; exact rfl)
    | (apply s_t; exact rfl; (first | assumption | omega))
    | (apply s_f; exact rfl; (first | assumption | omega))
    | apply w_seq
    | apply w_region
    | apply s_nil
    | apply t_norm
    | apply t_ret
    | apply w_ret
    | apply w_skip
    | (apply w_condT; exact rfl; exact rfl)
    | (apply w_condF; exact rfl; exact rfl)
    | (apply s_k (isNaN_s _); exact rfl))
    exact lv_ret (ret1 rfl (res_tmp rfl))
  · rw [show cmpZ x y = 0 by unfold cmpZ; rw [if_neg h, if_neg h2]]
    refine summW Tryz.func116 rfl rfl 20 rfl (by simp) (fun M0 => ?_)
    repeat (first
    | (apply s_a TY; exact rfl)
    | (apply s_f; exact rfl; (first | assumption | omega))
    | apply w_seq
    | apply w_region
    | apply s_nil
    | apply t_norm
    | apply w_ret
    | apply w_skip
    | (apply w_condF; exact rfl; exact rfl)
    | (apply s_k (isNaN_s _); exact rfl))
    exact lv_ret (ret1 rfl (res_tmp rfl))
theorem cmpW_s (m : List Int) (a b : Int) (ha : 0 ≤ a ∧ a < m.length) (hb : 0 ≤ b ∧ b < m.length) : Summ Tryz.prog GG 115 [iv a, iv b, .pt [.sl m.length (intsF m)] 0] (iv (cmpZ (wI m b) (wI m a))) := by
  have h1 := wI_at ha
  have h2 := wI_at hb
  have hne : intsF m ≠ [] := intsF_ne (k := a.toNat) (by omega)
  refine summW Tryz.func115 rfl rfl 17 rfl (by simp) (fun M0 => ?_)
  repeat (first
    | (apply s_a TY; exact rfl)
    | apply w_seq
    | apply w_region
    | (apply w_draw (id := 1) 10 rfl (by kernel_rfl))
    | apply s_nil
    | apply t_norm
    | apply w_ret
    | (apply s_k (Compare_s _ _); exact rfl)
    | (apply s_z TY; exact rfl; (first | omega | exact ⟨by omega, by (first | with_reducible assumption | ((with_reducible apply intsF_ne); omega) | assumption)⟩))
    | (apply s_l TY; exact rfl; (first | exact rfl | with_reducible assumption | ((with_reducible apply intsF_at); omega) | assumption)))
  exact lv_ret (ret1 rfl (res_tmp rfl))
end Go.Proofs.YtenkgipcblfocaaGreat
namespace Go.Proofs.YtenkgipcblfocaaGreat
open Go Go.RowKit Go.Proofs Go.Shelf Go.Ab
def cellsA (L : List Int) : List AV := (intsF L).map AV.f
theorem cellsA_len (L : List Int) : (cellsA L).length = L.length := by simp [cellsA, intsF]
theorem cellsA_at {L : List Int} {o k : Nat} (ho : o = k) {x : Int} (h : L[k]? = some x) : (cellsA L)[o]? = some (.f (iv x)) := by
  subst ho
  unfold cellsA intsF
  rw [List.getElem?_map, List.getElem?_map, h]; rfl
theorem cellsA_set {L : List Int} {o k : Nat} (ho : o = k) (x : Int) : setAt (cellsA L) o [AV.f (iv x)] = cellsA (L.set k x) := by
  subst ho
  show (cellsA L).set o (.f (iv x)) = _
  unfold cellsA intsF
  rw [List.map_set, List.map_set]
section
variable {A P E D seg : List Int} {x : Int} {j k : Nat} {w : Int → Int}
theorem ins_at (hj : j ≤ P.length) : (A ++ (putAt P x j ++ E))[A.length + j]? = some x := by
  rw [List.getElem?_append_right (by omega), Nat.add_sub_cancel_left, List.getElem?_append_left (by rw [putAt_len hj]; omega), putAt_at hj]
theorem ins_before (hj : j < P.length) : (A ++ (putAt P x (j + 1) ++ E))[A.length + j]? = some P[j] := by
  rw [List.getElem?_append_right (by omega), Nat.add_sub_cancel_left, List.getElem?_append_left (by rw [putAt_len (by omega)]; omega), putAt_before hj]
theorem ins_swap (hj : j < P.length) : ((A ++ (putAt P x (j + 1) ++ E)).set (A.length + (j + 1)) P[j]).set (A.length + j) x = A ++ (putAt P x j ++ E) := by
  rw [List.set_comm _ _ (by omega)]
  rw [List.set_append_right _ _ (by omega), Nat.add_sub_cancel_left, List.set_append_right _ _ (by omega), Nat.add_sub_cancel_left]
  rw [List.set_append_left _ _ (by rw [putAt_len (by omega)]; omega), List.set_append_left _ _ (by rw [List.length_set, putAt_len (by omega)]; omega), putAt_swap hj]
theorem ins_done (ha : seg.Pairwise (· < ·)) (hk : k < seg.length) (hj : j ≤ k) (h1 : ∀ i (hi : i < (sortO w (seg.take k)).length), j ≤ i → befW w seg[k] (sortO w (seg.take k))[i]) (h2 : ∀ hj' : 0 < j, ¬ befW w seg[k] ((sortO w (seg.take k))[j - 1]'(by rw [sortO_len, List.length_take]; omega))) : putAt (sortO w (seg.take k)) seg[k] j = sortO w (seg.take (k + 1)) := by
  have hnd : seg.Nodup := ha.imp fun h e => by omega
  have hl : (sortO w (seg.take k)).length = k := by rw [sortO_len, List.length_take]; omega
  have hsplit : seg.take (k + 1) = seg.take k ++ [seg[k]] := List.take_succ_eq_append_getElem hk
  have hn1 : (seg.take (k + 1)).Nodup := hnd.sublist (List.take_sublist _ _)
  have hx : seg[k] ∉ sortO w (seg.take k) := fun h => by
    rw [(sortO_perm _).mem_iff] at h
    rw [hsplit] at hn1
    exact (List.nodup_append.1 hn1).2.2 _ h _ (by simp) rfl
  refine (sortO_of hn1 (putAt_sorted (by omega) (sortO_sorted (hnd.sublist (List.take_sublist _ _))) hx h1 h2) fun z => ?_).symm
  rw [(putAt_perm _ _ _).mem_iff, List.mem_cons, (sortO_perm _).mem_iff, hsplit, List.mem_append, List.mem_singleton]
  exact or_comm
theorem take_lt (ha : seg.Pairwise (· < ·)) (hk : k < seg.length) {y : Int} (hy : y ∈ seg.take k) : y < seg[k] := by
  obtain ⟨i, hi, rfl⟩ := List.getElem_of_mem hy
  rw [List.length_take] at hi
  rw [List.getElem_take]
  exact List.pairwise_iff_getElem.1 ha i k (by omega) hk (by omega)
theorem sort_one (seg : List Int) : sortO w (seg.take 1) ++ seg.drop 1 = seg := by
  cases seg with
  | nil => rfl
  | cons x t => rfl
theorem ins_start (hk : k < seg.length) : A ++ (sortO w (seg.take k) ++ (seg.drop k ++ D)) = A ++ (putAt (sortO w (seg.take k)) seg[k] k ++ (seg.drop (k + 1) ++ D)) := by
  have hl : (sortO w (seg.take k)).length = k := by rw [sortO_len, List.length_take]; omega
  have := putAt_end (sortO w (seg.take k)) seg[k]
  rw [hl] at this
  rw [this, List.drop_eq_getElem_cons hk]
  simp only [List.append_assoc, List.cons_append, List.nil_append]
end
theorem arrEq {n : Nat} {a b : List AV} (h : a = b) : some (Blk.arr 3 1 n a) = some (Blk.arr 3 1 n b) := by rw [h]
theorem cl_arr {h : Nat → Option Blk} {T sz n : Nat} (L : List Int) : closedB h (.arr T sz n (cellsA L)) := fun x hx => by
  unfold cellsA at hx
  obtain ⟨y, _, rfl⟩ := List.mem_map.1 hx
  trivial
set_option maxRecDepth 100000 in
set_option maxHeartbeats 3200000 in
theorem insertion_g (m A seg D : List Int) (n : Nat) (hn : n = A.length + seg.length + D.length) (hn2 : n ≤ 1000) (ha : seg.Pairwise (· < ·)) (hm : ∀ z, z ∈ seg → 0 ≤ z ∧ z < m.length) : SummG Tryz.prog GG 183 [.arr 3 1 n (cellsA (A ++ (seg ++ D)))] [.ow 0, .f (iv (A.length : Nat)), .f (iv ((A.length + seg.length : Nat) : Int)), .f (.fn 115 [.pt [.sl m.length (intsF m)] 0])] (.f (.tup [])) [.arr 3 1 n (cellsA (A ++ (sortO (wI m) seg ++ D)))] := by
  refine summG_of Tryz.func183 rfl rfl 53 rfl (by simp) (by simp) (fun i B B' h1 h2 => by
    match i, h1, h2 with
    | 0, h1, h2 => cases h1; cases h2; rfl
    | _ + 1, h1, _ => simp at h1) (fun M X J => ?_)
  repeat (first
    | (apply s_a TY; exact rfl)
    | apply w_seq
    | apply w_region
    | apply s_nil
    | apply t_norm
    | apply w_block
    | (apply s_c TY; exact rfl; (first | omega | exact ⟨by omega, by (first | with_reducible assumption | ((with_reducible apply intsF_ne); omega) | assumption)⟩)))
  apply w_loop (fun k : Nat => ⟨(Ab.upd (Ab.upd (Ab.upd (Ab.upd (Ab.upd (fun _ => .bot) 0 (.ow 0)) 1 (.f (iv (A.length : Nat)))) 2 (.f (iv ((A.length + seg.length : Nat) : Int)))) 3 (.f (.fn 115 [.pt [.sl m.length (intsF m)] 0]))) 8 (.f (iv ((A.length + k : Nat) : Int)))), (Ab.upd (fun _ => none) 0 (some (.arr 3 1 n (cellsA (A ++ (sortO (wI m) (seg.take k) ++ (seg.drop k ++ D))))))), 1⟩) (fun k => 1 ≤ k ∧ (k ≤ seg.length ∨ k = 1)) (fun k => seg.length + 1 - k) 1 (⟨Nat.le_refl _, .inr rfl⟩) (gh_le ⟨le_upd rfl trivial (le_upd rfl trivial (le_upd rfl trivial (le_upd rfl trivial (le_upd rfl rfl (le_nil _))))), le_hupd (arrEq (by rw [← List.append_assoc (sortO _ _), sort_one])) (cl_arr _) (le_h0 _ _)⟩)
  intro k ⟨hk1, hk⟩
  by_cases hc : k < seg.length
  · have hl : (sortO (wI m) (seg.take k)).length = k := by rw [sortO_len, List.length_take]; omega
    have hst := ins_start (A := A) (D := D) (w := (wI m)) hc
    repeat (first
    | (apply s_a TY; exact rfl)
    | (apply s_t; exact rfl; (first | assumption | omega))
    | apply w_seq
    | apply w_region
    | apply s_nil
    | apply t_norm
    | apply w_block
    | apply w_skip
    | (apply w_condT; exact rfl; exact rfl))
    apply w_loop (fun j : Nat => ⟨(Ab.upd (Ab.upd (Ab.upd (Ab.upd (Ab.upd (Ab.upd (fun _ => .bot) 0 (.ow 0)) 1 (.f (iv (A.length : Nat)))) 2 (.f (iv ((A.length + seg.length : Nat) : Int)))) 3 (.f (.fn 115 [.pt [.sl m.length (intsF m)] 0]))) 8 (.f (iv ((A.length + k : Nat) : Int)))) 9 (.f (iv ((A.length + j : Nat) : Int)))), (Ab.upd (fun _ => none) 0 (some (.arr 3 1 n (cellsA (A ++ (putAt (sortO (wI m) (seg.take k)) seg[k] j ++ (seg.drop (k + 1) ++ D))))))), 1⟩) (fun j => j ≤ k ∧ ∀ i (hi : i < (sortO (wI m) (seg.take k)).length), j ≤ i → befW (wI m) seg[k] (sortO (wI m) (seg.take k))[i]) (fun j => j) k (⟨Nat.le_refl _, fun i hi h => by omega⟩) (gh_le ⟨le_upd rfl trivial (le_upd rfl trivial (le_upd rfl trivial (le_upd rfl trivial (le_upd rfl trivial (le_upd rfl rfl (le_nil _)))))), le_hupd (arrEq (congrArg cellsA hst)) (cl_arr _) (le_h0 _ _)⟩)
    intro j ⟨hj, hb⟩
    by_cases h0 : j = 0
    · subst h0
      have hdone := ins_done (w := (wI m)) ha hc (Nat.zero_le _) hb (fun h => absurd h (Nat.lt_irrefl _))
      repeat (first
    | (apply s_a TY; exact rfl)
    | (apply s_f; exact rfl; (first | assumption | omega))
    | apply w_seq
    | apply w_region
    | (apply w_draw (id := 4) 14 rfl (by kernel_rfl))
    | apply s_nil
    | apply t_norm
    | apply t_exit
    | apply k_hit
    | apply k_norm
    | apply w_exit
    | (apply w_condF; exact rfl; exact rfl)
    | (apply s_s; exact rfl)
    | (apply s_c TY; exact rfl; (first | omega | exact ⟨by omega, by (first | with_reducible assumption | ((with_reducible apply intsF_ne); omega) | assumption)⟩)))
      exact ⟨k + 1, ⟨by omega, by omega⟩, by omega, gh_le ⟨le_upd rfl trivial (le_upd rfl trivial (le_upd rfl trivial (le_upd rfl trivial (le_upd rfl rfl (le_nil _))))), le_hupd (arrEq (by rw [hdone])) (cl_arr _) (le_h0 _ _)⟩⟩
    · obtain ⟨j, rfl⟩ : ∃ j', j = j' + 1 := ⟨j - 1, by omega⟩
      have hjp : j < (sortO (wI m) (seg.take k)).length := by omega
      have hX : (cellsA (A ++ (putAt (sortO (wI m) (seg.take k)) seg[k] (j + 1) ++ (seg.drop (k + 1) ++ D))))[((A.length + (j + 1) : Nat) : Int).toNat * 1]? = some (.f (iv seg[k])) := cellsA_at (by omega) (ins_at (by omega))
      have hY : (cellsA (A ++ (putAt (sortO (wI m) (seg.take k)) seg[k] (j + 1) ++ (seg.drop (k + 1) ++ D))))[(((A.length + (j + 1) : Nat) : Int) - 1).toNat * 1]? = some (.f (iv (sortO (wI m) (seg.take k))[j])) := cellsA_at (by omega) (ins_before hjp)
      have hy := (sortO_perm _).mem_iff.1 (List.getElem_mem hjp)
      have hlt := take_lt ha hc hy
      have HC := cmpW_s m seg[k] (sortO (wI m) (seg.take k))[j] (hm _ (List.getElem_mem hc)) (hm _ (List.mem_of_mem_take hy))
      have hln : (A ++ (putAt (sortO (wI m) (seg.take k)) seg[k] (j + 1) ++ (seg.drop (k + 1) ++ D))).length = n := by
        rw [List.length_append, List.length_append, putAt_len (by omega), hl, List.length_append, List.length_drop]; omega
      by_cases hw : wI m (sortO (wI m) (seg.take k))[j] < wI m seg[k]
      · have hz := cmpZ_lt hw
        have hsw := ins_swap (A := A) (E := seg.drop (k + 1) ++ D) (x := seg[k]) hjp
        have hcs : setAt (setAt (cellsA (A ++ (putAt (sortO (wI m) (seg.take k)) seg[k] (j + 1) ++ (seg.drop (k + 1) ++ D)))) (((A.length + (j + 1) : Nat) : Int).toNat * 1) [.f (iv (sortO (wI m) (seg.take k))[j])]) ((((A.length + (j + 1) : Nat) : Int) - 1).toNat * 1) [.f (iv seg[k])] = cellsA (A ++ (putAt (sortO (wI m) (seg.take k)) seg[k] j ++ (seg.drop (k + 1) ++ D))) := by
          rw [cellsA_set (k := A.length + (j + 1)) (by omega), cellsA_set (k := A.length + j) (by omega), hsw]
        repeat (first
    | (apply w_draw4 (id := 6) 15 16 32739 28 rfl (by kernel_rfl) (by kernel_rfl); exact rfl)
    | (apply s_stW TY; exact rfl; exact rfl; exact rfl; exact rfl; exact rfl; (show _ + 1 ≤ _; rw [cellsA_len]; omega); exact rfl; exact rfl; exact (fun _ => rfl))
    | (refine KW.mk ⟨rfl, rfl, rfl, rfl, rfl, rfl, rfl, rfl, rfl, rfl, rfl, rfl, rfl, rfl, rfl, trivial⟩ ?_)
    | (apply s_storeArr TY; exact rfl; exact rfl; exact rfl; exact rfl; exact rfl; (show _ + 1 ≤ _; rw [setAt_length, cellsA_len]; omega))
    | (apply s_idxArr TY; exact rfl; exact rfl; exact rfl; exact rfl; exact rfl; exact rfl; omega; omega)
    | (apply s_ldArr TY; exact rfl; exact rfl; exact rfl; exact rfl; exact rfl; assumption)
    | (apply s_a TY; exact rfl)
    | (apply s_t; exact rfl; (first | assumption | omega))
    | apply w_seq
    | apply w_region
    | (apply w_draw (id := 4) 14 rfl (by kernel_rfl))
    | apply s_nil
    | apply t_norm
    | apply k_norm
    | apply w_block
    | apply w_skip
    | (apply w_condT; exact rfl; exact rfl)
    | (apply s_k (HC); exact rfl)
    | (apply s_c TY; exact rfl; (first | omega | exact ⟨by omega, by (first | with_reducible assumption | ((with_reducible apply intsF_ne); omega) | assumption)⟩)))
        exact ⟨j, ⟨by omega, fun i hi hji => by
          by_cases e : i = j
          · subst e; exact .inl hw
          · exact hb i hi (by omega)⟩, by omega, gh_le ⟨le_upd (congrArg (fun z : Int => AV.f (iv z)) (show ((A.length + j : Nat) : Int) = ((A.length + (j + 1) : Nat) : Int) - 1 by omega)) trivial (le_upd rfl trivial (le_upd rfl trivial (le_upd rfl trivial (le_upd rfl trivial (le_upd rfl rfl (le_nil _)))))), le_hupd (arrEq hcs) (cl_arr _) (le_h0 _ _)⟩⟩
      · have hz := cmpZ_ge hw
        have hdone := ins_done (w := (wI m)) ha hc hj hb (fun _ => by
          unfold befW
          simp only [Nat.add_sub_cancel]
          omega)
        repeat (first
    | (apply s_idxArr TY; exact rfl; exact rfl; exact rfl; exact rfl; exact rfl; exact rfl; omega; omega)
    | (apply s_ldArr TY; exact rfl; exact rfl; exact rfl; exact rfl; exact rfl; assumption)
    | (apply s_a TY; exact rfl)
    | (apply s_t; exact rfl; (first | assumption | omega))
    | (apply s_f; exact rfl; (first | assumption | omega))
    | apply w_seq
    | apply w_region
    | (apply w_draw (id := 4) 14 rfl (by kernel_rfl))
    | apply s_nil
    | apply t_norm
    | apply t_exit
    | apply k_hit
    | apply k_norm
    | apply w_exit
    | (apply w_condF; exact rfl; exact rfl)
    | (apply s_k (HC); exact rfl)
    | (apply s_c TY; exact rfl; (first | omega | exact ⟨by omega, by (first | with_reducible assumption | ((with_reducible apply intsF_ne); omega) | assumption)⟩)))
        exact ⟨k + 1, ⟨by omega, by omega⟩, by omega, gh_le ⟨le_upd rfl trivial (le_upd rfl trivial (le_upd rfl trivial (le_upd rfl trivial (le_upd rfl rfl (le_nil _))))), le_hupd (arrEq (by rw [hdone])) (cl_arr _) (le_h0 _ _)⟩⟩
  · have h1 : seg.take k = seg := List.take_of_length_le (by omega)
    have h2 : seg.drop k = [] := List.drop_eq_nil_of_le (by omega)
    rw [h1, h2]
    repeat (first
    | (apply s_a TY; exact rfl)
    | (apply s_f; exact rfl; (first | assumption | omega))
    | apply w_seq
    | apply w_region
    | apply s_nil
    | apply t_norm
    | apply t_exit
    | apply k_hit
    | apply w_exit
    | (apply w_condF; exact rfl; exact rfl))
    exact lvG_norm (L' := [.arr 3 1 n (cellsA (A ++ (sortO (wI m) seg ++ D)))]) (s := (fun _ => .bot)) (nx := 1) (gh_le ⟨le_nil _, le_hupd rfl (cl_arr _) (le_h0 _ _)⟩) (rg0 rfl)
end Go.Proofs.YtenkgipcblfocaaGreat
namespace Go.Proofs.YtenkgipcblfocaaGreat
open Go.Proofs Go.Shelf
def sortI_ren : Go.Shelf.Ren := ⟨fun | 53 => 117 | 64 => 163 | 63 => 162 | 78 => 194 | 79 => 195 | 70 => 185 | 71 => 186 | 72 => 187 | 73 => 188 | 74 => 189 | 75 => 190 | 59 => 191 | 76 => 192 | 77 => 193 | 88 => 213 | 89 => 214 | 90 => 215 | 91 => 216 | 92 => 217 | 68 => 161 | 96 => 225 | n => n, fun | 22 => 34 | 23 => 3 | 3 => 3 | 51 => 228 | 0 => 0 | 67 => 245 | 69 => 247 | 4 => 4 | 61 => 239 | 60 => 238 | 44 => 52 | 5 => 5 | 9 => 9 | 75 => 259 | 79 => 263 | 83 => 267 | 84 => 61 | n => n, fun | n => n⟩
theorem sortI : Go.Proofs.SlLaysN.n53 Tryz.prog sortI_ren := {
  mixed := by kernel_rfl
  f53 := ⟨Tryz.f117.name, by decide, Tryz.func117.trans (congrArg some (by kernel_rfl))⟩
  f59 := ⟨Tryz.f191.name, by decide, Tryz.func191.trans (congrArg some (by kernel_rfl))⟩
  f63 := ⟨Tryz.f162.name, by decide, Tryz.func162.trans (congrArg some (by kernel_rfl))⟩
  f64 := Tryz.func163.trans (congrArg some (by kernel_rfl))
  f68 := ⟨Tryz.f161.name, by decide, Tryz.func161.trans (congrArg some (by kernel_rfl))⟩
  f70 := ⟨Tryz.f185.name, by decide, Tryz.func185.trans (congrArg some (by kernel_rfl))⟩
  f71 := ⟨Tryz.f186.name, by decide, Tryz.func186.trans (congrArg some (by kernel_rfl))⟩
  f72 := ⟨Tryz.f187.name, by decide, Tryz.func187.trans (congrArg some (by kernel_rfl))⟩
  f73 := ⟨Tryz.f188.name, by decide, Tryz.func188.trans (congrArg some (by kernel_rfl))⟩
  f74 := ⟨Tryz.f189.name, by decide, Tryz.func189.trans (congrArg some (by kernel_rfl))⟩
  f75 := ⟨Tryz.f190.name, by decide, Tryz.func190.trans (congrArg some (by kernel_rfl))⟩
  f76 := ⟨Tryz.f192.name, by decide, Tryz.func192.trans (congrArg some (by kernel_rfl))⟩
  f77 := ⟨Tryz.f193.name, by decide, Tryz.func193.trans (congrArg some (by kernel_rfl))⟩
  f78 := Tryz.func194.trans (congrArg some (by kernel_rfl))
  f79 := Tryz.func195.trans (congrArg some (by kernel_rfl))
  f88 := ⟨Tryz.f213.name, by decide, Tryz.func213.trans (congrArg some (by kernel_rfl))⟩
  f89 := Tryz.func214.trans (congrArg some (by kernel_rfl))
  f90 := Tryz.func215.trans (congrArg some (by kernel_rfl))
  f91 := ⟨Tryz.f216.name, by decide, Tryz.func216.trans (congrArg some (by kernel_rfl))⟩
  f92 := ⟨Tryz.f217.name, by decide, Tryz.func217.trans (congrArg some (by kernel_rfl))⟩
  f96 := ⟨Tryz.f225.name, by decide, Tryz.func225.trans (congrArg some (by kernel_rfl))⟩
  t0 := Tryz.underlying0
  a0 := Tryz.isAgg0
  z0 := Tryz.sizeOf0
  v0 := Tryz.zeroValue0
  t3 := Tryz.underlying3
  a3 := Tryz.isAgg3
  z3 := Tryz.sizeOf3
  v3 := Tryz.zeroValue3
  t4 := Tryz.underlying4
  a4 := Tryz.isAgg4
  z4 := Tryz.sizeOf4
  v4 := Tryz.zeroValue4
  t5 := Tryz.underlying5
  a5 := Tryz.isAgg5
  z5 := Tryz.sizeOf5
  v5 := Tryz.zeroValue5
  t9 := Tryz.underlying9
  a9 := Tryz.isAgg9
  z9 := Tryz.sizeOf9
  v9 := Tryz.zeroValue9
  t22 := Tryz.underlying34
  a22 := Tryz.isAgg34
  z22 := Tryz.sizeOf34
  v22 := Tryz.zeroValue34
  t23 := Tryz.underlying3
  a23 := Tryz.isAgg3
  z23 := Tryz.sizeOf3
  v23 := Tryz.zeroValue3
  t44 := Tryz.underlying52
  a44 := Tryz.isAgg52
  z44 := Tryz.sizeOf52
  v44 := Tryz.zeroValue52
  t51 := Tryz.underlying228
  a51 := Tryz.isAgg228
  z51 := Tryz.sizeOf228
  v51 := Tryz.zeroValue228
  t60 := Tryz.underlying238
  a60 := Tryz.isAgg238
  z60 := Tryz.sizeOf238
  v60 := Tryz.zeroValue238
  t61 := Tryz.underlying239
  a61 := Tryz.isAgg239
  z61 := Tryz.sizeOf239
  v61 := Tryz.zeroValue239
  t67 := Tryz.underlying245
  a67 := Tryz.isAgg245
  z67 := Tryz.sizeOf245
  v67 := Tryz.zeroValue245
  t69 := Tryz.underlying247
  a69 := Tryz.isAgg247
  z69 := Tryz.sizeOf247
  v69 := Tryz.zeroValue247
  t75 := Tryz.underlying259
  a75 := Tryz.isAgg259
  z75 := Tryz.sizeOf259
  v75 := Tryz.zeroValue259
  t79 := Tryz.underlying263
  a79 := Tryz.isAgg263
  z79 := Tryz.sizeOf263
  v79 := Tryz.zeroValue263
  t83 := Tryz.underlying267
  a83 := Tryz.isAgg267
  z83 := Tryz.sizeOf267
  v83 := Tryz.zeroValue267
  t84 := Tryz.underlying61
  a84 := Tryz.isAgg61
  z84 := Tryz.sizeOf61
  v84 := Tryz.zeroValue61 }
open Go Go.RowKit Go.Proofs Go.Shelf Go.Ab
theorem arrA_ren (σ : Nat → Nat) (n : Nat) (L : List Int) : (Blk.arr 3 1 n (cellsA L)).ren σ = .arr 3 1 n (cellsA L) := arr_ren0 σ _ _ _ _
def ascL (L : List Int) : List Int := L.mergeSort fun x y => decide (x ≤ y)
theorem intsF_enc (L : List Int) : (L.map fun z => Value.int .i64 z).map FV.v = intsF L := by unfold intsF iv; rw [List.map_map]; rfl
theorem sortI_g (L : List Int) (n : Nat) (hn : n = L.length) (hl : L.length ≤ 1000000) : SummG Tryz.prog GG 117 [.arr 3 1 n (cellsA L)] [.ow 0] (.f (.tup [])) [.arr 3 1 n (cellsA (ascL L))] :=
  sortOrdG (f := 117) (enc := fun z : Int => Value.int .i64 z) ascL (fun d => (List.mergeSort_perm d _).length_eq) (fun _ => rfl) (enters_of Tryz.func117 (by kernel_rfl) rfl) (fun blk off cap d w h1 h2 h3 => AnyG.slices_Sort_int sortI blk off cap d w h1 h2 h3) (fun p cap w => AnyG.slices_Sort_int_none sortI p cap w) L (by omega) 3 hn (intsF_enc L) (intsF_enc _)
set_option maxRecDepth 100000 in
set_option maxHeartbeats 1600000 in
theorem stable_few (m L : List Int) (hn : L.length ≤ 19) (ha : L.Pairwise (· < ·)) (hm : ∀ z, z ∈ L → 0 ≤ z ∧ z < m.length) : SummG Tryz.prog GG 160 [.arr 3 1 L.length (cellsA L)] [.ow 0, .f (iv (L.length : Nat)), .f (.fn 115 [.pt [.sl m.length (intsF m)] 0])] (.f (.tup [])) [.arr 3 1 L.length (cellsA (sortO (wI m) L))] := by
  have HI := insertion_g m [] L [] L.length (by simp) (by omega) ha hm
  simp only [List.length_nil, Nat.zero_add, List.nil_append, List.append_nil] at HI
  refine summG_of Tryz.func160 rfl rfl 63 rfl (by simp) (by simp) (fun i B B' h1 h2 => by
    match i, h1, h2 with
    | 0, h1, h2 => cases h1; cases h2; rfl
    | _ + 1, h1, _ => simp at h1) (fun M X J => ?_)
  repeat (first
    | (apply s_a TY; exact rfl)
    | apply w_seq
    | apply w_region
    | apply s_nil
    | apply t_norm
    | apply w_block)
  apply w_loop (fun k : Nat => ⟨(Ab.upd (Ab.upd (Ab.upd (Ab.upd (Ab.upd (Ab.upd (fun _ => .bot) 0 (.ow 0)) 1 (.f (iv (L.length : Nat)))) 2 (.f (.fn 115 [.pt [.sl m.length (intsF m)] 0]))) 6 (.f (iv 20))) 7 (.f (iv 0))) 8 (.f (iv 20))), (Ab.upd (fun _ => none) 0 (some (.arr 3 1 L.length (cellsA L)))), 1⟩) (fun k => k = 0) (fun k => 0) 0 (rfl) (gh_le ⟨le_upd rfl trivial (le_upd rfl trivial (le_upd rfl trivial (le_upd rfl trivial (le_upd rfl trivial (le_upd rfl rfl (le_nil _)))))), le_hupd rfl (cl_arr _) (le_h0 _ _)⟩)
  intro k hk
  repeat (first
    | (apply s_callG [0] HI; exact rfl; exact rfl; exact rfl; exact ⟨congrArg some (arrA_ren _ _ _).symm, trivial⟩; exact rfl; exact ⟨rfl, rfl⟩)
    | (apply s_a TY; exact rfl)
    | (apply s_f; exact rfl; (first | assumption | omega))
    | apply w_seq
    | apply w_region
    | apply s_nil
    | apply t_norm
    | apply t_exit
    | apply k_hit
    | apply w_block
    | apply w_exit
    | (apply w_condF; exact rfl; exact rfl))
  apply w_loop (fun k : Nat => ⟨(Ab.upd (Ab.upd (Ab.upd (Ab.upd (fun _ => .bot) 0 (.ow 0)) 1 (.f (iv (L.length : Nat)))) 2 (.f (.fn 115 [.pt [.sl m.length (intsF m)] 0]))) 6 (.f (iv 20))), (Ab.upd (fun _ => none) 0 (some (.arr 3 1 L.length (cellsA (sortO (wI m) L))))), 1⟩) (fun k => k = 0) (fun k => 0) 0 (rfl) (gh_le ⟨le_upd rfl trivial (le_upd rfl trivial (le_upd rfl trivial (le_upd rfl rfl (le_nil _)))), le_hupd (congrArg some (arrA_ren _ _ _)) (cl_arr _) (le_h0 _ _)⟩)
  intro k hk
  repeat (first
    | (apply s_a TY; exact rfl)
    | (apply s_f; exact rfl; (first | assumption | omega))
    | apply w_seq
    | apply w_region
    | apply s_nil
    | apply t_norm
    | apply t_exit
    | apply k_hit
    | apply w_exit
    | (apply w_condF; exact rfl; exact rfl))
  exact lvG_norm (L' := [.arr 3 1 L.length (cellsA (sortO (wI m) L))]) (s := (fun _ => .bot)) (nx := 1) (gh_le ⟨le_nil _, le_hupd rfl (cl_arr _) (le_h0 _ _)⟩) (rg0 rfl)
theorem sortStable_of (m L : List Int) (HI : SummG Tryz.prog GG 160 [.arr 3 1 L.length (cellsA L)] [.ow 0, .f (iv (L.length : Nat)), .f (.fn 115 [.pt [.sl m.length (intsF m)] 0])] (.f (.tup [])) [.arr 3 1 L.length (cellsA (sortO (wI m) L))]) : SummG Tryz.prog GG 114 [.arr 3 1 L.length (cellsA L)] [.ow 0, .f (.fn 115 [.pt [.sl m.length (intsF m)] 0])] (.f (.tup [])) [.arr 3 1 L.length (cellsA (sortO (wI m) L))] := by
  refine summG_of Tryz.func114 rfl rfl 9 rfl (by simp) (by simp) (fun i B B' h1 h2 => by
    match i, h1, h2 with
    | 0, h1, h2 => cases h1; cases h2; rfl
    | _ + 1, h1, _ => simp at h1) (fun M X J => ?_)
  repeat (first
    | (apply s_lenArr TY; exact rfl; exact rfl; exact rfl; exact rfl; exact rfl)
    | (apply s_callG [0] HI; exact rfl; exact rfl; exact rfl; exact ⟨congrArg some (arrA_ren _ _ _).symm, trivial⟩; exact rfl; exact ⟨rfl, rfl⟩)
    | (apply s_a TY; exact rfl)
    | apply w_region
    | apply s_nil)
  exact lvG_norm (L' := [.arr 3 1 L.length (cellsA (sortO (wI m) L))]) (s := (fun _ => .bot)) (nx := 1) (gh_le ⟨le_nil _, le_hupd (congrArg some (arrA_ren _ _ _)) (cl_arr _) (le_h0 _ _)⟩) (rg0 rfl)
end Go.Proofs.YtenkgipcblfocaaGreat
